/- A part of the proof of the law; the last part states it: whatever the law reads, of bulk at most 2^20, it returns true and what it reads is as it was. Condition: the form's own bound. -/
import Derived.Test.YtelmbimmkdobaaaDoorProg
import Derived.Below
import Derived.Deep.Draws
import Derived.Deep.AppendLies
import Derived.Maps.AppendAt
import Derived.OwnWalk
import Derived.Laws.BytesArg
import Derived.Laws.MakeOwn
import Derived.Laws.OwnMore
import Derived.Deep.OwnRows
import Derived.Tactics
import Derived.Lib.ConvBytes
import Derived.Laws.Slices
import Derived.WalkKit
import Derived.KernelRfl
import Derived.RowKit3
import Derived.Deep.LoopGhost
import Derived.Deep.QuietTactic
import Derived.BigQuiet
import Derived.WideLaws
import Derived.Deep.DeepCutAuto
import Derived.Deep.CutBlock
import Derived.Deep.RegionHeld3
import Derived.Laws.Rows
import Derived.Lib.AppendStr
import Derived.ArgAppend
import Derived.Laws.IdiomCopy
import Derived.OrdersHeld
import Derived.Laws.BitsLemmas
import Derived.RowKit
import Derived.Test.YtelmbimmkdobaaaDoorAp1
import Derived.Sort.LotA
import Derived.Lib.Bytealg
import Derived.Lib.Small
import Derived.Shelf.SlSortCmp.Insertion
import Derived.Shelf.Small.Bits
import Derived.Shelf.Small.Strs
import Derived.Shelf.SlLaysF0
import Derived.Shelf.SlLaysQ
import Derived.Ground.SlsfProg
import Derived.Ground.SlgqProg
import Derived.Ground.NamesProg
import Derived.Shelf.Strings.Search1
import Derived.Shelf.Strings.SlTrimAscii
import Derived.Shelf.SlSortCmp.KitK
import Derived.Deep.DrawnRows
import Derived.Test.YtelmbimmkdobaaaDoorRows
import Derived.ProofKit
import Derived.OpenShut
import Derived.ShutString
import Derived.ChangeOld
import Derived.SizedLaws
import Derived.JoinedCond
import Derived.Deep.Slices
import Derived.Deep.Fields
import Derived.Deep.Strs
import Derived.Laws.StructEq
import Derived.Maps.RangeRun
import Derived.ChangeKeysEq
import Derived.Shelf.SlicesQ.Contains
import Derived.Shelf.SlSortCmp.NoneTotal
import Derived.Shelf.Sort.Plain
import Derived.Shelf.Slices.In.SortNone
set_option linter.unusedVariables false
set_option linter.unusedSimpArgs false
namespace Go.Proofs.YtelmbimmkdobaaaDoor.Pr
open Go.RowKit Go.Proofs.YtelmbimmkdobaaaDoorW.PrintWords Go.Proofs.YtelmbimmkdobaaaDoorW.PrintLast Go.Proofs.YtelmbimmkdobaaaDoorW.PrintMore
attribute [local go_sem] max2_int min2_int max_two min_two max_three min_three max_four min_four   -- for this text's walks alone
set_option linter.unusedVariables false
set_option linter.unusedSimpArgs false



-- the values' own types
/-! #### struct type 27 -/
structure S27 where
  f0 : ByteArray
  f1 : ByteArray
  f2 : ByteArray
def z27 : S27 := ⟨(⟨#[]⟩ : ByteArray), (⟨#[]⟩ : ByteArray), (⟨#[]⟩ : ByteArray)⟩
def k27 : Kd S27 := Kd.iso (Kd.pair Kd.string (Kd.pair Kd.string Kd.string)) (fun x : S27 => (x.f0, x.f1, x.f2))
theorem k27_open {w : World} {x : S27} {cs : List Value} (h : k27.K w x cs) : cs = [.string x.f0, .string x.f1, .string x.f2] := by
  obtain ⟨_, _, rfl, rfl, ⟨_, _, rfl, rfl, rfl⟩⟩ := h
  exact rfl
theorem k27_openM {w : World} {base : Nat} {ok : Nat → Prop} {x : S27} {cs : List Value} (h : k27.M w base ok x cs) : cs = [.string x.f0, .string x.f1, .string x.f2] := by
  obtain ⟨_, _, rfl, rfl, ⟨_, _, rfl, rfl, rfl⟩⟩ := h
  exact rfl
theorem k27_mk (w : World) (x : S27)  : k27.K w x [.string x.f0, .string x.f1, .string x.f2] := ⟨[.string x.f0], [.string x.f1, .string x.f2], rfl, rfl, ⟨[.string x.f1], [.string x.f2], rfl, rfl, rfl⟩⟩
theorem k27_mkM (w : World) (base : Nat) (ok : Nat → Prop) (x : S27)  : k27.M w base ok x [.string x.f0, .string x.f1, .string x.f2] := ⟨[.string x.f0], [.string x.f1, .string x.f2], rfl, rfl, ⟨[.string x.f1], [.string x.f2], rfl, rfl, rfl⟩⟩
def rd_T27 (xs : List S27) (i : Int) : S27 := xs.getD i.toNat z27
theorem at_T27 {w : World} {A : Option Addr} {n : Nat} {xs : List S27} (h : Kd.C k27 w A n xs) (i : Int) (h0 : 0 ≤ i) (h1 : i < n) : ∃ ad , A = some ad ∧ w.cell? (ad.add (i.toNat * 3)) = some (.string (rd_T27 xs i).f0) ∧ w.cell? ⟨(ad.add (i.toNat * 3)).block, (ad.add (i.toNat * 3)).off + 1, none⟩ = some (.string (rd_T27 xs i).f1) ∧ w.cell? ⟨(ad.add (i.toNat * 3)).block, (ad.add (i.toNat * 3)).off + 2, none⟩ = some (.string (rd_T27 xs i).f2) := by
  obtain ⟨ad, c, e, _, hK, hc0⟩ := Kd.C_get h z27 i h0 h1
  have hc : ∀ j u, c[j]? = some u → w.cell? (ad.add (i.toNat * 3 + j)) = some u := hc0
  obtain rfl := k27_open hK
  exact ⟨ad, e, hc 0 _ rfl, by rw [← add_field _ _ 1 (by omega)]; exact hc 1 _ rfl, by rw [← add_field _ _ 2 (by omega)]; exact hc 2 _ rfl⟩

/-! #### struct type 36 -/
structure S36 where
  f0 : S27
  f1 : Int
  f2 : Int
def z36 : S36 := ⟨z27, (0 : Int), (0 : Int)⟩
def k36 : Kd S36 := Kd.iso (Kd.pair k27 (Kd.pair (Kd.int .i64) (Kd.int .i64))) (fun x : S36 => (x.f0, x.f1, x.f2))
theorem k36_open {w : World} {x : S36} {cs : List Value} (h : k36.K w x cs) : cs = [.string x.f0.f0, .string x.f0.f1, .string x.f0.f2, .int .i64 x.f1, .int .i64 x.f2] := by
  obtain ⟨_, _, rfl, s0, ⟨_, _, rfl, rfl, rfl⟩⟩ := h
  obtain rfl := k27_open s0
  exact rfl
theorem k36_openM {w : World} {base : Nat} {ok : Nat → Prop} {x : S36} {cs : List Value} (h : k36.M w base ok x cs) : cs = [.string x.f0.f0, .string x.f0.f1, .string x.f0.f2, .int .i64 x.f1, .int .i64 x.f2] := by
  obtain ⟨_, _, rfl, s0, ⟨_, _, rfl, rfl, rfl⟩⟩ := h
  obtain rfl := k27_openM s0
  exact rfl
theorem k36_mkM (w : World) (base : Nat) (ok : Nat → Prop) (x : S36)  : k36.M w base ok x [.string x.f0.f0, .string x.f0.f1, .string x.f0.f2, .int .i64 x.f1, .int .i64 x.f2] := ⟨[.string x.f0.f0, .string x.f0.f1, .string x.f0.f2], [.int .i64 x.f1, .int .i64 x.f2], rfl, (k27_mkM w base ok x.f0 ), ⟨[.int .i64 x.f1], [.int .i64 x.f2], rfl, rfl, rfl⟩⟩
def rd_T36 (xs : List S36) (i : Int) : S36 := xs.getD i.toNat z36
theorem at_T36 {w : World} {A : Option Addr} {n : Nat} {xs : List S36} (h : Kd.C k36 w A n xs) (i : Int) (h0 : 0 ≤ i) (h1 : i < n) : ∃ ad , A = some ad ∧ w.cell? (ad.add (i.toNat * 5)) = some (.string (rd_T36 xs i).f0.f0) ∧ w.cell? ⟨(ad.add (i.toNat * 5)).block, (ad.add (i.toNat * 5)).off + 1, none⟩ = some (.string (rd_T36 xs i).f0.f1) ∧ w.cell? ⟨(ad.add (i.toNat * 5)).block, (ad.add (i.toNat * 5)).off + 2, none⟩ = some (.string (rd_T36 xs i).f0.f2) ∧ w.cell? ⟨(ad.add (i.toNat * 5)).block, (ad.add (i.toNat * 5)).off + 3, none⟩ = some (.int .i64 (rd_T36 xs i).f1) ∧ w.cell? ⟨(ad.add (i.toNat * 5)).block, (ad.add (i.toNat * 5)).off + 4, none⟩ = some (.int .i64 (rd_T36 xs i).f2) := by
  obtain ⟨ad, c, e, _, hK, hc0⟩ := Kd.C_get h z36 i h0 h1
  have hc : ∀ j u, c[j]? = some u → w.cell? (ad.add (i.toNat * 5 + j)) = some u := hc0
  obtain rfl := k36_open hK
  exact ⟨ad, e, hc 0 _ rfl, by rw [← add_field _ _ 1 (by omega)]; exact hc 1 _ rfl, by rw [← add_field _ _ 2 (by omega)]; exact hc 2 _ rfl, by rw [← add_field _ _ 3 (by omega)]; exact hc 3 _ rfl, by rw [← add_field _ _ 4 (by omega)]; exact hc 4 _ rfl⟩

end Go.Proofs.YtelmbimmkdobaaaDoor.Pr

namespace Go.Proofs.YtelmbimmkdobaaaDoor.Pr
open Go.RowKit Go.Proofs.YtelmbimmkdobaaaDoorW.PrintWords Go.Proofs.YtelmbimmkdobaaaDoorW.PrintLast Go.Proofs.YtelmbimmkdobaaaDoorW.PrintMore

/-! #### struct type -/
structure S30 where
  f0 : Bool
  f1 : S27
def z30 : S30 := ⟨false, z27⟩
def k30 : Kd S30 := Kd.iso (Kd.pair Kd.bool k27) (fun x : S30 => (x.f0, x.f1))
theorem k30_open {w : World} {x : S30} {cs : List Value} (h : k30.K w x cs) : cs = [.bool x.f0, .string x.f1.f0, .string x.f1.f1, .string x.f1.f2] := by
  obtain ⟨_, _, rfl, rfl, s1⟩ := h
  obtain rfl := k27_open s1
  exact rfl
theorem k30_mk (w : World) (x : S30)  : k30.K w x [.bool x.f0, .string x.f1.f0, .string x.f1.f1, .string x.f1.f2] := ⟨[.bool x.f0], [.string x.f1.f0, .string x.f1.f1, .string x.f1.f2], rfl, rfl, (k27_mk w x.f1 )⟩
def rd_T30 (xs : List S30) (i : Int) : S30 := xs.getD i.toNat z30
theorem at_T30 {w : World} {A : Option Addr} {n : Nat} {xs : List S30} (h : Kd.C k30 w A n xs) (i : Int) (h0 : 0 ≤ i) (h1 : i < n) : ∃ ad , A = some ad ∧ w.cell? (ad.add (i.toNat * 4)) = some (.bool (rd_T30 xs i).f0) ∧ w.cell? ⟨(ad.add (i.toNat * 4)).block, (ad.add (i.toNat * 4)).off + 1, none⟩ = some (.string (rd_T30 xs i).f1.f0) ∧ w.cell? ⟨(ad.add (i.toNat * 4)).block, (ad.add (i.toNat * 4)).off + 2, none⟩ = some (.string (rd_T30 xs i).f1.f1) ∧ w.cell? ⟨(ad.add (i.toNat * 4)).block, (ad.add (i.toNat * 4)).off + 3, none⟩ = some (.string (rd_T30 xs i).f1.f2) := by
  obtain ⟨ad, c, e, _, hK, hc0⟩ := Kd.C_get h z30 i h0 h1
  have hc : ∀ j u, c[j]? = some u → w.cell? (ad.add (i.toNat * 4 + j)) = some u := hc0
  obtain rfl := k30_open hK
  exact ⟨ad, e, hc 0 _ rfl, by rw [← add_field _ _ 1 (by omega)]; exact hc 1 _ rfl, by rw [← add_field _ _ 2 (by omega)]; exact hc 2 _ rfl, by rw [← add_field _ _ 3 (by omega)]; exact hc 3 _ rfl⟩

end Go.Proofs.YtelmbimmkdobaaaDoor.Pr

namespace Go.Proofs.YtelmbimmkdobaaaDoor
open Go.Sort

def eqv {α : Type} (lt : α → α → Bool) (x y : α) : Bool := !lt x y && !lt y x
def Stab {α : Type} (lt : α → α → Bool) (l l' : List α) : Prop := ∀ x, l.filter (eqv lt x) = l'.filter (eqv lt x)
def SortedL {α : Type} (lt : α → α → Bool) (l : List α) : Prop := l.Pairwise (fun x y => lt y x = false)

section
variable {α : Type} [Inhabited α] {lt : α → α → Bool}

omit [Inhabited α] in
theorem Stab.refl (l : List α) : Stab lt l l := fun _ => rfl
omit [Inhabited α] in
theorem Stab.symm {l l' : List α} (h : Stab lt l l') : Stab lt l' l := fun x => (h x).symm
omit [Inhabited α] in
theorem Stab.trans {l l' l'' : List α} (h : Stab lt l l') (k : Stab lt l' l'') : Stab lt l l'' := fun x => (h x).trans (k x)
omit [Inhabited α] in
theorem Stab.append {a a' b b' : List α} (h : Stab lt a a') (k : Stab lt b b') : Stab lt (a ++ b) (a' ++ b') := fun x => by
  rw [List.filter_append, List.filter_append, h x, k x]
omit [Inhabited α] in
theorem eqv_iff {x y : α} : eqv lt x y = true ↔ lt x y = false ∧ lt y x = false := by
  unfold eqv; cases lt x y <;> cases lt y x <;> simp

omit [Inhabited α] in
theorem eqv_self (hS : SWO lt) (x : α) : eqv lt x x = true := eqv_iff.2 ⟨hS.irrefl x, hS.irrefl x⟩
omit [Inhabited α] in
theorem Stab.mem (hS : SWO lt) {l l' : List α} (h : Stab lt l l') (x : α) : x ∈ l ↔ x ∈ l' := by
  have e : ∀ m : List α, x ∈ m ↔ x ∈ m.filter (eqv lt x) := fun m => by simp [List.mem_filter, eqv_self hS]
  rw [e l, e l', h x]

omit [Inhabited α] in
theorem Stab.perm (hS : SWO lt) {l l' : List α} (h : Stab lt l l') : l.Perm l' := by
  classical
  rw [List.perm_iff_count]
  intro x
  have e : ∀ m : List α, m.count x = (m.filter (eqv lt x)).count x := fun m => (List.count_filter (eqv_self hS x)).symm
  rw [e l, e l', h x]

omit [Inhabited α] in
theorem Stab.length (hS : SWO lt) {l l' : List α} (h : Stab lt l l') : l.length = l'.length := (h.perm hS).length_eq

omit [Inhabited α] in
/-- Two blocks exchanged, each element of the second below each of the first. -/
theorem Stab.swap (hS : SWO lt) (U V : List α) (h : ∀ u ∈ U, ∀ v ∈ V, lt v u = true) : Stab lt (U ++ V) (V ++ U) := by
  intro x
  rw [List.filter_append, List.filter_append]
  by_cases hu : U.filter (eqv lt x) = []
  · rw [hu]; simp
  · by_cases hv : V.filter (eqv lt x) = []
    · rw [hv]; simp
    · exfalso
      obtain ⟨u, hu⟩ := List.exists_mem_of_ne_nil _ hu
      obtain ⟨v, hv⟩ := List.exists_mem_of_ne_nil _ hv
      rw [List.mem_filter] at hu hv
      have h1 := eqv_iff.1 hu.2
      have h2 := eqv_iff.1 hv.2
      have h3 := hS.ntrans v x u h2.2 h1.1
      rw [h u hu.1 v hv.1] at h3
      cases h3

omit [Inhabited α] in
theorem sortedL_unique (hS : SWO lt) : ∀ (l l' : List α), SortedL lt l → SortedL lt l' → Stab lt l l' → l = l'
  | [], [], _, _, _ => rfl
  | [], y :: t, _, _, h => by
    have := (h.mem hS y).2 (by simp)
    cases this
  | x :: t, [], _, _, h => by
    have := (h.mem hS x).1 (by simp)
    cases this
  | x :: t, y :: t', h1, h2, h => by
    obtain ⟨p1, p2⟩ := List.pairwise_cons.1 h1
    obtain ⟨q1, q2⟩ := List.pairwise_cons.1 h2
    have hxy : lt x y = false := by
      rcases List.mem_cons.1 ((h.mem hS x).1 (by simp)) with e | e
      · rw [e]; exact hS.irrefl y
      · exact q1 x e
    have hyx : lt y x = false := by
      rcases List.mem_cons.1 ((h.mem hS y).2 (by simp)) with e | e
      · rw [e]; exact hS.irrefl x
      · exact p1 y e
    have hx := h x
    rw [List.filter_cons_of_pos (eqv_self hS x), List.filter_cons_of_pos (eqv_iff.2 ⟨hxy, hyx⟩)] at hx
    injection hx with hx1 hx2
    subst hx1
    have ht : Stab lt t t' := fun z => by
      have hz := h z
      by_cases c : eqv lt z x = true
      · rw [List.filter_cons_of_pos c, List.filter_cons_of_pos c] at hz
        injection hz
      · rw [List.filter_cons_of_neg c, List.filter_cons_of_neg c] at hz
        exact hz
    rw [sortedL_unique hS t t' p2 q2 ht]

/-! ### exchanges on an array, as lists -/
/-! ### the insertion sort is stable -/
/-! ### blocks -/
omit [Inhabited α] in
theorem SortedL.take {l : List α} (h : SortedL lt l) (n : Nat) : SortedL lt (l.take n) := List.Pairwise.sublist (List.take_sublist n l) h
omit [Inhabited α] in
theorem SortedL.drop {l : List α} (h : SortedL lt l) (n : Nat) : SortedL lt (l.drop n) := List.Pairwise.sublist (List.drop_sublist n l) h
/-! ### what the merge ends in -/
omit [Inhabited α] in
theorem SortedL.left {A B : List α} (h : SortedL lt (A ++ B)) : SortedL lt A := (List.pairwise_append.1 h).1
omit [Inhabited α] in
theorem SortedL.right {A B : List α} (h : SortedL lt (A ++ B)) : SortedL lt B := (List.pairwise_append.1 h).2.1
end
end Go.Proofs.YtelmbimmkdobaaaDoor

namespace Go.Proofs.YtelmbimmkdobaaaDoor
open Go.Sort

/-- A comparison: turned about it is negative; what is below what is below is below; equals stand alike to all others. -/
structure Cmp {α : Type} (c : α → α → Int) : Prop where
  anti : ∀ a b, c b a = - c a b
  trans : ∀ a b d, c a b < 0 → c b d < 0 → c a d < 0
  eqv : ∀ a b d, c a b = 0 → c a d = c b d
/-- One comparison, and where it says 'alike' another. -/
def lexi {α : Type} (c d : α → α → Int) (a b : α) : Int := if c a b = 0 then d a b else c a b
section
variable {α β : Type} {c d : α → α → Int}
theorem Cmp.refl (h : Cmp c) (a : α) : c a a = 0 := by have := h.anti a a; omega
theorem Cmp.eqv' (h : Cmp c) (a b x : α) (he : c a b = 0) : c x a = c x b := by
  have h1 := h.eqv a b x he; have h2 := h.anti a x; have h3 := h.anti b x; omega
theorem Cmp.swo (h : Cmp c) : SWO (ltOf c) where
  irrefl x := by unfold ltOf; rw [h.refl]; rfl
  trans x y z h1 h2 := by
    unfold ltOf at *
    simp only [decide_eq_true_eq] at *
    exact h.trans x y z h1 h2
  ntrans x y z h1 h2 := by
    unfold ltOf at *
    simp only [decide_eq_false_iff_not, Int.not_lt] at *
    have a1 := h.anti x y; have a2 := h.anti y z; have a3 := h.anti x z
    rcases Int.lt_or_eq_of_le h1 with h1' | h1'
    · rcases Int.lt_or_eq_of_le h2 with h2' | h2'
      · have := h.trans z y x (by omega) (by omega); omega
      · have := h.eqv y z x h2'.symm; omega
    · have := h.eqv x y z h1'.symm; omega
theorem Cmp.comap (h : Cmp c) (f : β → α) : Cmp (fun a b => c (f a) (f b)) := ⟨fun _ _ => h.anti _ _, fun _ _ _ => h.trans _ _ _, fun _ _ _ => h.eqv _ _ _⟩
theorem Cmp.lexi (h : Cmp c) (k : Cmp d) : Cmp (lexi c d) where
  anti a b := by
    have h1 := h.anti a b; have h2 := k.anti a b
    unfold Go.Proofs.YtelmbimmkdobaaaDoor.lexi
    split <;> split <;> omega
  trans a b e h1 h2 := by
    unfold Go.Proofs.YtelmbimmkdobaaaDoor.lexi at *
    by_cases e1 : c a b = 0
    · rw [if_pos e1] at h1
      have q := h.eqv a b e e1
      by_cases e2 : c b e = 0
      · rw [if_pos e2] at h2
        rw [if_pos (by omega)]
        exact k.trans a b e h1 h2
      · rw [if_neg e2] at h2
        rw [if_neg (by omega)]
        omega
    · rw [if_neg e1] at h1
      by_cases e2 : c b e = 0
      · have q := h.eqv' b e a e2
        rw [if_neg (by omega)]
        omega
      · rw [if_neg e2] at h2
        have q := h.trans a b e h1 h2
        rw [if_neg (by omega)]
        exact q
  eqv a b e h1 := by
    unfold Go.Proofs.YtelmbimmkdobaaaDoor.lexi at *
    by_cases e1 : c a b = 0
    · rw [if_pos e1] at h1
      rw [h.eqv a b e e1, k.eqv a b e h1]
    · rw [if_neg e1] at h1
      exact absurd h1 e1
theorem lexi_eq_zero {a b : α} : lexi c d a b = 0 ↔ c a b = 0 ∧ d a b = 0 := by
  unfold lexi
  split
  · rename_i h; exact ⟨fun h' => ⟨h, h'⟩, fun h' => h'.2⟩
  · rename_i h; exact ⟨fun h' => absurd h' h, fun h' => h'.1⟩

/-! ### numbers and texts -/
theorem cmp_int : Cmp Lib.compareInt where
  anti a b := by unfold Lib.compareInt; (repeat' split) <;> omega
  trans a b e h1 h2 := by unfold Lib.compareInt at *; (repeat' split at h1) <;> (repeat' split at h2) <;> (repeat' split) <;> omega
  eqv a b e h1 := by unfold Lib.compareInt at *; (repeat' split at h1) <;> (repeat' split) <;> omega
theorem u8_lt (a b : UInt8) : (a < b) = (a.toNat < b.toNat) := rfl
theorem cb_cons (x y : UInt8) (a b : List UInt8) : Lib.compareBytes (x :: a) (y :: b) = if x.toNat < y.toNat then -1 else if y.toNat < x.toNat then 1 else Lib.compareBytes a b := by
  simp only [Lib.compareBytes, UInt8.lt_iff_toNat_lt]
theorem compareBytes_zero : ∀ {a b : List UInt8}, Lib.compareBytes a b = 0 ↔ a = b
  | [], [] => by simp [Lib.compareBytes]
  | [], _ :: _ => by simp [Lib.compareBytes]
  | _ :: _, [] => by simp [Lib.compareBytes]
  | x :: a, y :: b => by
    unfold Lib.compareBytes
    split
    · rename_i h
      constructor
      · intro h'; omega
      · intro h'; injection h' with h1 h2; subst h1; rw [u8_lt] at h; omega
    · split
      · rename_i h h2
        constructor
        · intro h'; omega
        · intro h'; injection h' with h1 _; subst h1; rw [u8_lt] at h2; omega
      · rename_i h h2
        rw [u8_lt] at h h2
        have e : x = y := UInt8.toNat_inj.1 (by omega)
        rw [compareBytes_zero]
        simp [e]
theorem cmp_bytes : Cmp Lib.compareBytes where
  anti a b := by
    induction a generalizing b with
    | nil => cases b <;> simp [Lib.compareBytes]
    | cons x a ih =>
      cases b with
      | nil => simp [Lib.compareBytes]
      | cons y b =>
        rw [cb_cons, cb_cons]
        by_cases h1 : x.toNat < y.toNat
        · rw [if_neg (by omega), if_pos h1, if_pos h1]; rfl
        · by_cases h2 : y.toNat < x.toNat
          · rw [if_pos h2, if_neg h1, if_pos h2]
          · rw [if_neg h2, if_neg h1, if_neg h1, if_neg h2]; exact ih b
  trans a b e h1 h2 := by
    induction a generalizing b e with
    | nil =>
      cases b with
      | nil => simp [Lib.compareBytes] at h1
      | cons y b =>
        cases e with
        | nil => simp [Lib.compareBytes] at h2
        | cons z e => simp [Lib.compareBytes]
    | cons x a ih =>
      cases b with
      | nil => simp [Lib.compareBytes] at h1
      | cons y b =>
        cases e with
        | nil => simp [Lib.compareBytes] at h2
        | cons z e =>
          rw [cb_cons] at h1 h2 ⊢
          by_cases p1 : x.toNat < y.toNat
          · by_cases q1 : y.toNat < z.toNat
            · rw [if_pos (by omega)]; omega
            · rw [if_neg q1] at h2
              by_cases q2 : z.toNat < y.toNat
              · rw [if_pos q2] at h2; omega
              · rw [if_pos (by omega)]; omega
          · rw [if_neg p1] at h1
            by_cases p2 : y.toNat < x.toNat
            · rw [if_pos p2] at h1; omega
            · rw [if_neg p2] at h1
              by_cases q1 : y.toNat < z.toNat
              · rw [if_pos (by omega)]; omega
              · rw [if_neg q1] at h2
                by_cases q2 : z.toNat < y.toNat
                · rw [if_pos q2] at h2; omega
                · rw [if_neg q2] at h2
                  rw [if_neg (by omega), if_neg (by omega)]
                  exact ih b e h1 h2
  eqv a b e h1 := by rw [compareBytes_zero] at h1; rw [h1]

/-! ### the sorted list -/
def msort (lt : α → α → Bool) (l : List α) : List α := l.mergeSort (fun x y => !lt y x)
theorem le_trans_ {lt : α → α → Bool} (hS : SWO lt) : ∀ a b e : α, (!lt b a) = true → (!lt e b) = true → (!lt e a) = true := by
  intro a b e h1 h2
  simp only [Bool.not_eq_true'] at *
  exact hS.ntrans e b a h2 h1
theorem le_total_ {lt : α → α → Bool} (hS : SWO lt) : ∀ a b : α, (!lt b a || !lt a b) = true := by
  intro a b
  cases h1 : lt b a with
  | false => rfl
  | true =>
    cases h2 : lt a b with
    | false => rfl
    | true => have := hS.trans a b a h2 h1; rw [hS.irrefl] at this; cases this
theorem msort_sorted {lt : α → α → Bool} (hS : SWO lt) (l : List α) : SortedL lt (msort lt l) := by
  have h := List.pairwise_mergeSort (le := fun x y => !lt y x) (le_trans_ hS) (le_total_ hS) l
  exact h.imp (fun h => by simpa using h)
theorem msort_perm (lt : α → α → Bool) (l : List α) : (msort lt l).Perm l := List.mergeSort_perm l _
/-- Two sorted lists, each the other's permutation, of elements among which alike are the same: one list. -/
theorem sorted_perm_eq {lt : α → α → Bool} (hS : SWO lt) : ∀ {l l' : List α}, SortedL lt l → SortedL lt l' → l.Perm l' → (∀ x ∈ l, ∀ y ∈ l, lt x y = false → lt y x = false → x = y) → l = l' := by
  intro l l' h1 h2 hp he
  refine sortedL_unique hS _ _ h1 h2 fun x => ?_
  have hq := hp.filter (Go.Proofs.YtelmbimmkdobaaaDoor.eqv lt x)
  have hall : ∀ a ∈ l.filter (Go.Proofs.YtelmbimmkdobaaaDoor.eqv lt x), ∀ b ∈ l.filter (Go.Proofs.YtelmbimmkdobaaaDoor.eqv lt x), a = b := by
    intro a ha b hb
    have ha' := List.mem_filter.1 ha
    have hb' := List.mem_filter.1 hb
    have e1 := eqv_iff.1 ha'.2
    have e2 := eqv_iff.1 hb'.2
    exact he a ha'.1 b hb'.1 (hS.ntrans a x b e1.2 e2.1) (hS.ntrans b x a e2.2 e1.1)
  cases hf : l.filter (Go.Proofs.YtelmbimmkdobaaaDoor.eqv lt x) with
  | nil => rw [hf] at hq; exact (List.nil_perm.1 hq).symm
  | cons z t =>
    have hz : ∀ a ∈ l.filter (Go.Proofs.YtelmbimmkdobaaaDoor.eqv lt x), a = z := fun a ha => hall a ha z (by rw [hf]; simp)
    have r1 := List.eq_replicate_of_mem hz
    have r2 := List.eq_replicate_of_mem (fun a ha => hz a (hq.mem_iff.2 ha))
    rw [hf] at r1
    rw [r1, r2, hq.length_eq.symm, hf]
/-- What the library's sort leaves (a permutation, sorted), as a list. -/
theorem sortedIn_list [Inhabited α] {lt : α → α → Bool} {d d' : Array α} (hp : PermIn 0 d.size d d') (hs : SortedIn lt 0 d.size d') : d'.toList.Perm d.toList ∧ SortedL lt d'.toList := by
  have hsz := hp.1
  constructor
  · have h := hp.2.2
    rw [Array.toList_extract, Array.toList_extract] at h
    have e1 : d'.toList.extract 0 d.size = d'.toList := by
      simp only [List.extract, List.drop_zero, Nat.sub_zero]; exact List.take_of_length_le (by simp; omega)
    have e2 : d.toList.extract 0 d.size = d.toList := by
      simp only [List.extract, List.drop_zero, Nat.sub_zero]; exact List.take_of_length_le (by simp)
    rw [e1, e2] at h
    exact h
  · unfold SortedL
    rw [List.pairwise_iff_getElem]
    intro i j hi hj hij
    simp only [Array.length_toList] at hi hj
    have h := hs i j (Nat.zero_le _) hij (by omega)
    rw [getElem!_pos d' _ hj, getElem!_pos d' _ hi] at h
    simpa using h
end
end Go.Proofs.YtelmbimmkdobaaaDoor

namespace Go.Proofs.YtelmbimmkdobaaaDoor.Pr
open Go.Proofs.YtelmbimmkdobaaaDoor Go.Sort

abbrev T := S27
abbrev Mu := S30
abbrev Ro := S36
def bl (s : ByteArray) : List UInt8 := s.data.toList
theorem bl_inj {a b : ByteArray} : bl a = bl b ↔ a = b := by
  unfold bl
  constructor
  · intro h
    obtain ⟨⟨x⟩⟩ := a
    obtain ⟨⟨y⟩⟩ := b
    simp at h
    rw [h]
  · rintro rfl; rfl
def cmpS (a b : ByteArray) : Int := Lib.compareBytes (bl a) (bl b)
theorem cmpS_zero {a b : ByteArray} : cmpS a b = 0 ↔ a = b := compareBytes_zero.trans bl_inj
theorem cmp_S : Cmp cmpS := cmp_bytes.comap bl
def cmpT : T → T → Int := lexi (fun a b => cmpS a.f0 b.f0) (lexi (fun a b => cmpS a.f1 b.f1) (fun a b => cmpS a.f2 b.f2))
def cmpRo : Ro → Ro → Int := lexi (fun a b => cmpT a.f0 b.f0) (fun a b => Lib.compareInt a.f1 b.f1)
theorem cmp_T : Cmp cmpT := (cmp_S.comap (fun a : T => a.f0)).lexi ((cmp_S.comap (fun a : T => a.f1)).lexi (cmp_S.comap (fun a : T => a.f2)))
theorem cmp_Ro : Cmp cmpRo := (cmp_T.comap (fun a : Ro => a.f0)).lexi (cmp_int.comap (fun a : Ro => a.f1))
theorem cmpT_zero {a b : T} : cmpT a b = 0 ↔ a = b := by
  unfold cmpT
  rw [lexi_eq_zero, lexi_eq_zero, cmpS_zero, cmpS_zero, cmpS_zero]
  constructor
  · rintro ⟨h1, h2, h3⟩
    cases a; cases b; simp_all
  · rintro rfl; exact ⟨rfl, rfl, rfl⟩
instance instT : DecidableEq T := fun _ _ => decidable_of_iff _ cmpT_zero
instance instMu : DecidableEq Mu := fun a b => decidable_of_iff (a.f0 = b.f0 ∧ a.f1 = b.f1) (by cases a; cases b; simp)
instance instRo : DecidableEq Ro := fun a b => decidable_of_iff (a.f0 = b.f0 ∧ a.f1 = b.f1 ∧ a.f2 = b.f2) (by cases a; cases b; simp)
instance inhT : Inhabited T := ⟨z27⟩
instance inhMu : Inhabited Mu := ⟨z30⟩
instance inhRo : Inhabited Ro := ⟨z36⟩
def ltT : T → T → Bool := ltOf cmpT
def ltRo : Ro → Ro → Bool := ltOf cmpRo
/-! ### Changes -/

/-! ### At -/
/-! ### Play -/
/-! ### Net -/
/-! ### Back -/

/-! ### Rows -/
end Go.Proofs.YtelmbimmkdobaaaDoor.Pr

namespace Go.Proofs
open Go.Shelf
def Tryd.hasTuple_ren : Go.Shelf.Ren := ⟨fun | 7 => 38 | 6 => 62 | n => n, fun | 22 => 63 | 24 => 27 | 4 => 4 | 0 => 0 | 3 => 3 | n => n, fun | n => n⟩
theorem Tryd.hasTuple : Go.Proofs.SlLaysQ.n7 Tryd.prog Tryd.hasTuple_ren := {
  mixed := by kernel_rfl
  f6 := ⟨Tryd.f62.name, by decide, Tryd.func62.trans (congrArg some (by kernel_rfl))⟩
  f7 := ⟨Tryd.f38.name, by decide, Tryd.func38.trans (congrArg some (by kernel_rfl))⟩
  t0 := Tryd.underlying0
  a0 := Tryd.isAgg0
  z0 := Tryd.sizeOf0
  v0 := Tryd.zeroValue0
  t3 := Tryd.underlying3
  a3 := Tryd.isAgg3
  z3 := Tryd.sizeOf3
  v3 := Tryd.zeroValue3
  t4 := Tryd.underlying4
  a4 := Tryd.isAgg4
  z4 := Tryd.sizeOf4
  v4 := Tryd.zeroValue4
  t22 := Tryd.underlying63
  a22 := Tryd.isAgg63
  z22 := Tryd.sizeOf63
  v22 := Tryd.zeroValue63 }
def Tryd.strCmp_ren : Go.Shelf.Ren := ⟨fun | 106 => 30 | 213 => 49 | 265 => 68 | n => n, fun | 9 => 9 | 3 => 3 | n => n, fun | n => n⟩
theorem Tryd.strCmp : Go.Proofs.Lays.n106 Tryd.prog Tryd.strCmp_ren := {
  mixed := by kernel_rfl
  f106 := Tryd.func30.trans (congrArg some (by kernel_rfl))
  f213 := Tryd.func49.trans (congrArg some (by kernel_rfl))
  f265 := Tryd.func68.trans (congrArg some (by kernel_rfl))
  t3 := Tryd.underlying3
  a3 := Tryd.isAgg3
  z3 := Tryd.sizeOf3
  v3 := Tryd.zeroValue3
  t9 := Tryd.underlying9
  a9 := Tryd.isAgg9
  z9 := Tryd.sizeOf9
  v9 := Tryd.zeroValue9 }
def Tryd.idxByte_ren : Go.Shelf.Ren := ⟨fun | 217 => 88 | 266 => 95 | n => n, fun | 9 => 9 | 5 => 5 | 3 => 3 | n => n, fun | n => n⟩
theorem Tryd.idxByte : Go.Proofs.Lays.n217 Tryd.prog Tryd.idxByte_ren := {
  mixed := by kernel_rfl
  f217 := Tryd.func88.trans (congrArg some (by kernel_rfl))
  f266 := Tryd.func95.trans (congrArg some (by kernel_rfl))
  t3 := Tryd.underlying3
  a3 := Tryd.isAgg3
  z3 := Tryd.sizeOf3
  v3 := Tryd.zeroValue3
  t5 := Tryd.underlying5
  a5 := Tryd.isAgg5
  z5 := Tryd.sizeOf5
  v5 := Tryd.zeroValue5
  t9 := Tryd.underlying9
  a9 := Tryd.isAgg9
  z9 := Tryd.sizeOf9
  v9 := Tryd.zeroValue9 }
def Tryd.trimS_ren : Go.Shelf.Ren := ⟨fun | 160 => 61 | 232 => 75 | 231 => 74 | 227 => 76 | 234 => 78 | 233 => 77 | 236 => 80 | 235 => 79 | 228 => 84 | 271 => 87 | 151 => 86 | 197 => 85 | 120 => 94 | 152 => 93 | 260 => 92 | 137 => 97 | 119 => 98 | 224 => 90 | 225 => 89 | 217 => 88 | 266 => 95 | n => n, fun | 9 => 9 | 4 => 4 | 3 => 3 | 5 => 5 | 117 => 123 | 116 => 122 | 0 => 0 | 124 => 126 | 21 => 21 | 105 => 132 | 46 => 78 | 119 => 140 | 139 => 143 | 138 => 142 | n => n, fun | 3 => 1 | 4 => 2 | n => n⟩
theorem Tryd.trimS : Go.Proofs.Lays.n160 Tryd.prog Tryd.trimS_ren := {
  mixed := by kernel_rfl
  f119 := Tryd.func98.trans (congrArg some (by kernel_rfl))
  f120 := Tryd.func94.trans (congrArg some (by kernel_rfl))
  f137 := Tryd.func97.trans (congrArg some (by kernel_rfl))
  f151 := Tryd.func86.trans (congrArg some (by kernel_rfl))
  f152 := Tryd.func93.trans (congrArg some (by kernel_rfl))
  f160 := Tryd.func61.trans (congrArg some (by kernel_rfl))
  f197 := Tryd.func85.trans (congrArg some (by kernel_rfl))
  f217 := Tryd.func88.trans (congrArg some (by kernel_rfl))
  f224 := Tryd.func90.trans (congrArg some (by kernel_rfl))
  f225 := Tryd.func89.trans (congrArg some (by kernel_rfl))
  f227 := Tryd.func76.trans (congrArg some (by kernel_rfl))
  f228 := Tryd.func84.trans (congrArg some (by kernel_rfl))
  f231 := Tryd.func74.trans (congrArg some (by kernel_rfl))
  f232 := Tryd.func75.trans (congrArg some (by kernel_rfl))
  f233 := Tryd.func77.trans (congrArg some (by kernel_rfl))
  f234 := Tryd.func78.trans (congrArg some (by kernel_rfl))
  f235 := Tryd.func79.trans (congrArg some (by kernel_rfl))
  f236 := Tryd.func80.trans (congrArg some (by kernel_rfl))
  f260 := Tryd.func92.trans (congrArg some (by kernel_rfl))
  f266 := Tryd.func95.trans (congrArg some (by kernel_rfl))
  f271 := Tryd.func87.trans (congrArg some (by kernel_rfl))
  t0 := Tryd.underlying0
  a0 := Tryd.isAgg0
  z0 := Tryd.sizeOf0
  v0 := Tryd.zeroValue0
  t3 := Tryd.underlying3
  a3 := Tryd.isAgg3
  z3 := Tryd.sizeOf3
  v3 := Tryd.zeroValue3
  t4 := Tryd.underlying4
  a4 := Tryd.isAgg4
  z4 := Tryd.sizeOf4
  v4 := Tryd.zeroValue4
  t5 := Tryd.underlying5
  a5 := Tryd.isAgg5
  z5 := Tryd.sizeOf5
  v5 := Tryd.zeroValue5
  t9 := Tryd.underlying9
  a9 := Tryd.isAgg9
  z9 := Tryd.sizeOf9
  v9 := Tryd.zeroValue9
  t21 := Tryd.underlying21
  a21 := Tryd.isAgg21
  z21 := Tryd.sizeOf21
  v21 := Tryd.zeroValue21
  t46 := Tryd.underlying78
  a46 := Tryd.isAgg78
  z46 := Tryd.sizeOf78
  v46 := Tryd.zeroValue78
  t105 := Tryd.underlying132
  a105 := Tryd.isAgg132
  z105 := Tryd.sizeOf132
  v105 := Tryd.zeroValue132
  t116 := Tryd.underlying122
  a116 := Tryd.isAgg122
  z116 := Tryd.sizeOf122
  t117 := Tryd.underlying123
  a117 := Tryd.isAgg123
  z117 := Tryd.sizeOf123
  v117 := Tryd.zeroValue123
  t119 := Tryd.underlying140
  a119 := Tryd.isAgg140
  z119 := Tryd.sizeOf140
  t124 := Tryd.underlying126
  a124 := Tryd.isAgg126
  z124 := Tryd.sizeOf126
  v124 := Tryd.zeroValue126
  t138 := Tryd.underlying142
  a138 := Tryd.isAgg142
  z138 := Tryd.sizeOf142
  v138 := Tryd.zeroValue142
  t139 := Tryd.underlying143
  a139 := Tryd.isAgg143
  z139 := Tryd.sizeOf143
  v139 := Tryd.zeroValue143
  g3 := by kernel_rfl
  g4 := by kernel_rfl }
def Tryd.sortRow_ren : Go.Shelf.Ren := ⟨fun | 6 => 18 | 15 => 29 | 14 => 28 | 28 => 47 | 29 => 48 | 20 => 39 | 21 => 40 | 22 => 41 | 23 => 42 | 24 => 43 | 25 => 44 | 26 => 45 | 27 => 46 | 46 => 63 | 47 => 64 | 48 => 65 | 49 => 66 | 50 => 67 | 57 => 81 | n => n, fun | 22 => 33 | 24 => 36 | 25 => 60 | 3 => 3 | 39 => 78 | 0 => 0 | 53 => 98 | 55 => 100 | 4 => 4 | 46 => 91 | 45 => 90 | 50 => 95 | 5 => 5 | 9 => 9 | 66 => 112 | 70 => 116 | 76 => 127 | 77 => 128 | n => n, fun | n => n⟩
theorem Tryd.sortRow : Go.Proofs.SlLaysF0.n6 Tryd.prog Tryd.sortRow_ren := {
  mixed := by kernel_rfl
  f6 := ⟨Tryd.f18.name, by decide, Tryd.func18.trans (congrArg some (by kernel_rfl))⟩
  f14 := ⟨Tryd.f28.name, by decide, Tryd.func28.trans (congrArg some (by kernel_rfl))⟩
  f15 := Tryd.func29.trans (congrArg some (by kernel_rfl))
  f20 := ⟨Tryd.f39.name, by decide, Tryd.func39.trans (congrArg some (by kernel_rfl))⟩
  f21 := ⟨Tryd.f40.name, by decide, Tryd.func40.trans (congrArg some (by kernel_rfl))⟩
  f22 := ⟨Tryd.f41.name, by decide, Tryd.func41.trans (congrArg some (by kernel_rfl))⟩
  f23 := ⟨Tryd.f42.name, by decide, Tryd.func42.trans (congrArg some (by kernel_rfl))⟩
  f24 := ⟨Tryd.f43.name, by decide, Tryd.func43.trans (congrArg some (by kernel_rfl))⟩
  f25 := ⟨Tryd.f44.name, by decide, Tryd.func44.trans (congrArg some (by kernel_rfl))⟩
  f26 := ⟨Tryd.f45.name, by decide, Tryd.func45.trans (congrArg some (by kernel_rfl))⟩
  f27 := ⟨Tryd.f46.name, by decide, Tryd.func46.trans (congrArg some (by kernel_rfl))⟩
  f28 := Tryd.func47.trans (congrArg some (by kernel_rfl))
  f29 := Tryd.func48.trans (congrArg some (by kernel_rfl))
  f46 := ⟨Tryd.f63.name, by decide, Tryd.func63.trans (congrArg some (by kernel_rfl))⟩
  f47 := Tryd.func64.trans (congrArg some (by kernel_rfl))
  f48 := Tryd.func65.trans (congrArg some (by kernel_rfl))
  f49 := ⟨Tryd.f66.name, by decide, Tryd.func66.trans (congrArg some (by kernel_rfl))⟩
  f50 := ⟨Tryd.f67.name, by decide, Tryd.func67.trans (congrArg some (by kernel_rfl))⟩
  f57 := ⟨Tryd.f81.name, by decide, Tryd.func81.trans (congrArg some (by kernel_rfl))⟩
  t0 := Tryd.underlying0
  a0 := Tryd.isAgg0
  z0 := Tryd.sizeOf0
  v0 := Tryd.zeroValue0
  t3 := Tryd.underlying3
  a3 := Tryd.isAgg3
  z3 := Tryd.sizeOf3
  v3 := Tryd.zeroValue3
  t4 := Tryd.underlying4
  a4 := Tryd.isAgg4
  z4 := Tryd.sizeOf4
  v4 := Tryd.zeroValue4
  t5 := Tryd.underlying5
  a5 := Tryd.isAgg5
  z5 := Tryd.sizeOf5
  v5 := Tryd.zeroValue5
  t9 := Tryd.underlying9
  a9 := Tryd.isAgg9
  z9 := Tryd.sizeOf9
  v9 := Tryd.zeroValue9
  t22 := Tryd.underlying33
  a22 := Tryd.isAgg33
  z22 := Tryd.sizeOf33
  v22 := Tryd.zeroValue33
  t25 := Tryd.underlying60
  a25 := Tryd.isAgg60
  z25 := Tryd.sizeOf60
  v25 := Tryd.zeroValue60
  t39 := Tryd.underlying78
  a39 := Tryd.isAgg78
  z39 := Tryd.sizeOf78
  v39 := Tryd.zeroValue78
  t45 := Tryd.underlying90
  a45 := Tryd.isAgg90
  z45 := Tryd.sizeOf90
  v45 := Tryd.zeroValue90
  t46 := Tryd.underlying91
  a46 := Tryd.isAgg91
  z46 := Tryd.sizeOf91
  v46 := Tryd.zeroValue91
  t50 := Tryd.underlying95
  a50 := Tryd.isAgg95
  z50 := Tryd.sizeOf95
  v50 := Tryd.zeroValue95
  t53 := Tryd.underlying98
  a53 := Tryd.isAgg98
  z53 := Tryd.sizeOf98
  v53 := Tryd.zeroValue98
  t55 := Tryd.underlying100
  a55 := Tryd.isAgg100
  z55 := Tryd.sizeOf100
  v55 := Tryd.zeroValue100
  t66 := Tryd.underlying112
  a66 := Tryd.isAgg112
  z66 := Tryd.sizeOf112
  v66 := Tryd.zeroValue112
  t70 := Tryd.underlying116
  a70 := Tryd.isAgg116
  z70 := Tryd.sizeOf116
  v70 := Tryd.zeroValue116
  t76 := Tryd.underlying127
  a76 := Tryd.isAgg127
  z76 := Tryd.sizeOf127
  v76 := Tryd.zeroValue127
  t77 := Tryd.underlying128
  a77 := Tryd.isAgg128
  z77 := Tryd.sizeOf128
  v77 := Tryd.zeroValue128 }
def Tryd.sortStr_ren : Go.Shelf.Ren := ⟨fun | 190 => 23 | 125 => 29 | 258 => 34 | 128 => 47 | 129 => 48 | 302 => 51 | 303 => 52 | 304 => 53 | 305 => 54 | 306 => 55 | 307 => 56 | 308 => 57 | 309 => 58 | 310 => 59 | 333 => 69 | 329 => 64 | 330 => 65 | 334 => 70 | 335 => 71 | 336 => 72 | 344 => 82 | n => n, fun | 31 => 42 | 9 => 9 | 3 => 3 | 46 => 78 | 0 => 0 | 51 => 98 | 53 => 100 | 4 => 4 | 183 => 91 | 182 => 90 | 131 => 95 | 5 => 5 | 218 => 112 | 222 => 116 | 228 => 127 | 229 => 128 | n => n, fun | n => n⟩
theorem Tryd.sortStr : Go.Proofs.Lays.n190 Tryd.prog Tryd.sortStr_ren := {
  mixed := by kernel_rfl
  f125 := Tryd.func29.trans (congrArg some (by kernel_rfl))
  f128 := Tryd.func47.trans (congrArg some (by kernel_rfl))
  f129 := Tryd.func48.trans (congrArg some (by kernel_rfl))
  f190 := Tryd.func23.trans (congrArg some (by kernel_rfl))
  f258 := Tryd.func34.trans (congrArg some (by kernel_rfl))
  f302 := Tryd.func51.trans (congrArg some (by kernel_rfl))
  f303 := Tryd.func52.trans (congrArg some (by kernel_rfl))
  f304 := Tryd.func53.trans (congrArg some (by kernel_rfl))
  f305 := Tryd.func54.trans (congrArg some (by kernel_rfl))
  f306 := Tryd.func55.trans (congrArg some (by kernel_rfl))
  f307 := Tryd.func56.trans (congrArg some (by kernel_rfl))
  f308 := Tryd.func57.trans (congrArg some (by kernel_rfl))
  f309 := Tryd.func58.trans (congrArg some (by kernel_rfl))
  f310 := Tryd.func59.trans (congrArg some (by kernel_rfl))
  f329 := Tryd.func64.trans (congrArg some (by kernel_rfl))
  f330 := Tryd.func65.trans (congrArg some (by kernel_rfl))
  f333 := Tryd.func69.trans (congrArg some (by kernel_rfl))
  f334 := Tryd.func70.trans (congrArg some (by kernel_rfl))
  f335 := Tryd.func71.trans (congrArg some (by kernel_rfl))
  f336 := Tryd.func72.trans (congrArg some (by kernel_rfl))
  f344 := Tryd.func82.trans (congrArg some (by kernel_rfl))
  t0 := Tryd.underlying0
  a0 := Tryd.isAgg0
  z0 := Tryd.sizeOf0
  v0 := Tryd.zeroValue0
  t3 := Tryd.underlying3
  a3 := Tryd.isAgg3
  z3 := Tryd.sizeOf3
  v3 := Tryd.zeroValue3
  t4 := Tryd.underlying4
  a4 := Tryd.isAgg4
  z4 := Tryd.sizeOf4
  v4 := Tryd.zeroValue4
  t5 := Tryd.underlying5
  a5 := Tryd.isAgg5
  z5 := Tryd.sizeOf5
  v5 := Tryd.zeroValue5
  t9 := Tryd.underlying9
  a9 := Tryd.isAgg9
  z9 := Tryd.sizeOf9
  v9 := Tryd.zeroValue9
  t31 := Tryd.underlying42
  a31 := Tryd.isAgg42
  z31 := Tryd.sizeOf42
  v31 := Tryd.zeroValue42
  t46 := Tryd.underlying78
  a46 := Tryd.isAgg78
  z46 := Tryd.sizeOf78
  v46 := Tryd.zeroValue78
  t51 := Tryd.underlying98
  a51 := Tryd.isAgg98
  z51 := Tryd.sizeOf98
  v51 := Tryd.zeroValue98
  t53 := Tryd.underlying100
  a53 := Tryd.isAgg100
  z53 := Tryd.sizeOf100
  v53 := Tryd.zeroValue100
  t131 := Tryd.underlying95
  a131 := Tryd.isAgg95
  z131 := Tryd.sizeOf95
  v131 := Tryd.zeroValue95
  t182 := Tryd.underlying90
  a182 := Tryd.isAgg90
  z182 := Tryd.sizeOf90
  v182 := Tryd.zeroValue90
  t183 := Tryd.underlying91
  a183 := Tryd.isAgg91
  z183 := Tryd.sizeOf91
  v183 := Tryd.zeroValue91
  t218 := Tryd.underlying112
  a218 := Tryd.isAgg112
  z218 := Tryd.sizeOf112
  v218 := Tryd.zeroValue112
  t222 := Tryd.underlying116
  a222 := Tryd.isAgg116
  z222 := Tryd.sizeOf116
  v222 := Tryd.zeroValue116
  t228 := Tryd.underlying127
  a228 := Tryd.isAgg127
  z228 := Tryd.sizeOf127
  v228 := Tryd.zeroValue127
  t229 := Tryd.underlying128
  a229 := Tryd.isAgg128
  z229 := Tryd.sizeOf128
  v229 := Tryd.zeroValue128 }
open Go.RowKit in
/-- strings.Compare. -/
theorem Tryd.strings_Compare (a b : ByteArray) (w : World) :
    Calls Tryd.prog 30 #[.string a, .string b] w fun e w' => e = .returned (.int .i64 (Lib.compareBytes a.data.toList b.data.toList)) ∧ w' = w := Any.strings_Compare Tryd.strCmp a b w
end Go.Proofs

namespace Go.Proofs.YtelmbimmkdobaaaDoor.Pr
open Go.Shelf Go.RowKit Go.Lib Go.Sort Go.Proofs.YtelmbimmkdobaaaDoor

/-- Behind w: some draws, some new blocks. -/
def Gr (w w' : World) : Prop := ∃ q os, w' = grow (w.drewN q) os
theorem Gr.refl (w : World) : Gr w w := ⟨0, #[], by rw [grow_empty]; rfl⟩
theorem Gr.drewN {w w' : World} (h : Gr w w') (n : Nat) : Gr w (w'.drewN n) := by
  obtain ⟨q, os, rfl⟩ := h
  exact ⟨q + n, os, by show grow ((w.drewN q).drewN n) os = _; rw [World.drewN_drewN]⟩
theorem Gr.drew {w w' : World} (h : Gr w w') : Gr w w'.drew := h.drewN 1
theorem Gr.alloc {w w' : World} (h : Gr w w') (o : Obj) : Gr w (w'.alloc o) := by
  obtain ⟨q, os, rfl⟩ := h
  exact ⟨q, os ++ #[o], by rw [alloc_eq_grow, grow_grow]⟩
theorem Gr.le {w w' : World} (h : Gr w w') : w.heap.size ≤ w'.heap.size := by
  obtain ⟨q, os, rfl⟩ := h
  rw [size_grow]; exact Nat.le_add_right _ _
theorem Gr.setCell {w w' : World} (h : Gr w w') (b o : Nat) (v : Value) (hb : w.heap.size ≤ b) : Gr w (w'.setCell ⟨b, o, none⟩ v) := by
  obtain ⟨q, os, rfl⟩ := h
  exact ⟨q, _, by rw [setCell_eq, mapBlock_grow_new _ _ _ _ (by exact hb)]⟩
theorem Gr.trans {w w' w'' : World} (h : Gr w w') (k : Gr w' w'') : Gr w w'' := by
  obtain ⟨q, os, rfl⟩ := h
  obtain ⟨q', os', rfl⟩ := k
  exact ⟨q + q', os ++ os', by show grow (grow ((w.drewN q).drewN q') os) os' = _; rw [grow_grow, World.drewN_drewN]⟩

theorem Gr.cell {w w' : World} (h : Gr w w') {a : Addr} {v : Value} (hc : w.cell? a = some v) : w'.cell? a = some v := by
  obtain ⟨q, os, rfl⟩ := h
  have hb : a.block < w.heap.size := by
    by_cases hb : a.block < w.heap.size
    · exact hb
    · exfalso
      have : w.heap[a.block]? = none := Array.getElem?_eq_none (by omega)
      simp [World.cell?, this] at hc
  rw [cell?_grow _ _ _ (by exact hb)]; exact hc

def enT (a : T) : List Value := [.string a.f0, .string a.f1, .string a.f2]
def enRo (a : Ro) : List Value := enT a.f0 ++ [.int .i64 a.f1, .int .i64 a.f2]
def enMu (a : Mu) : List Value := .bool a.f0 :: enT a.f1

set_option maxHeartbeats 2000000 in
set_option maxRecDepth 100000 in
/-- tuple.Compare. -/
theorem tuple_Compare (a b : T) (w : World) : Calls Tryd.prog 20 #[.agg #[.string a.f0, .string a.f1, .string a.f2], .agg #[.string b.f0, .string b.f1, .string b.f2]] w fun e w' => e = .returned (.int .i64 (cmpT a b)) ∧ Gr w w' := by
  have hC : ∀ x y W, Calls Tryd.prog 30 #[.string x, .string y] W fun e w' => e = .returned (.int .i64 (cmpS x y)) ∧ w' = W := fun x y W => Tryd.strings_Compare x y W
  have HT : Hid (cmpT a b = if cmpS a.f0 b.f0 = 0 then (if cmpS a.f1 b.f1 = 0 then cmpS a.f2 b.f2 else cmpS a.f1 b.f1) else cmpS a.f0 b.f0) := rfl
  obtain ⟨a0, a1, a2⟩ := a
  obtain ⟨b0, b1, b2⟩ := b
  have hC0 := hC a0 b0
  have hC1 := hC a1 b1
  have hC2 := hC a2 b2
  clear hC
  generalize cmpT ⟨a0, a1, a2⟩ ⟨b0, b1, b2⟩ = r at HT ⊢
  dsimp only at HT
  generalize cmpS a0 b0 = c0 at *
  generalize cmpS a1 b1 = c1 at *
  generalize cmpS a2 b2 = c2 at *
  have HC : Hid ((∀ W, Calls Tryd.prog 30 #[.string a0, .string b0] W fun e w' => e = .returned (.int .i64 c0) ∧ w' = W) ∧ (∀ W, Calls Tryd.prog 30 #[.string a1, .string b1] W fun e w' => e = .returned (.int .i64 c1) ∧ w' = W) ∧ (∀ W, Calls Tryd.prog 30 #[.string a2, .string b2] W fun e w' => e = .returned (.int .i64 c2) ∧ w' = W)) := ⟨hC0, hC1, hC2⟩
  clear hC0 hC1 hC2
  have x0 : ∀ w, Sem.run Tryd.prog (Instr.index 79 (.agg #[.string a0, .string b0, .string a1, .string b1, .string a2, .string b2]) (.int .i64 0)) w = .ok (.agg #[.string a0, .string b0]) w := fun w => by
    simp [Instr.index, asIntOf, run_underlying Tryd.underlying79, go_sem]
  have x1 : ∀ w, Sem.run Tryd.prog (Instr.index 79 (.agg #[.string a0, .string b0, .string a1, .string b1, .string a2, .string b2]) (.int .i64 1)) w = .ok (.agg #[.string a1, .string b1]) w := fun w => by
    simp [Instr.index, asIntOf, run_underlying Tryd.underlying79, go_sem]
  have x2 : ∀ w, Sem.run Tryd.prog (Instr.index 79 (.agg #[.string a0, .string b0, .string a1, .string b1, .string a2, .string b2]) (.int .i64 2)) w = .ok (.agg #[.string a2, .string b2]) w := fun w => by
    simp [Instr.index, asIntOf, run_underlying Tryd.underlying79, go_sem]
  go_enter Tryd.func20, Tryd.ntmps20
  go_wp2
  have S0 : Aside (Gr w ((w.alloc (Obj.cells #[Value.string a0, Value.string a1, Value.string a2] 27)).alloc (Obj.cells #[Value.string b0, Value.string b1, Value.string b2] 27))) := ((Gr.refl w).alloc _).alloc _
  go_loopg [24] 3 (fun gk s24 wr => ∃ i : Nat, s24 = .int .i64 i ∧ i ≤ 3 ∧ 3 - i ≤ gk ∧ Hid ((1 ≤ i → c0 = 0) ∧ (2 ≤ i → c1 = 0) ∧ (3 ≤ i → c2 = 0)) ∧ Aside (Gr w wr))
  case atStart => exact ⟨0, rfl, by omega, by omega, ⟨by omega, by omega, by omega⟩, S0⟩
  case round =>
    clear S0
    obtain ⟨i, rfl, hi, hg, HI, S1⟩ := hrel
    obtain rfl | rfl | rfl | rfl : i = 0 ∨ i = 1 ∨ i = 2 ∨ i = 3 := by omega
    · by_cases h : c0 = 0
      · have hb : (c0 != 0) = false := by simp [h]
        have hb2 : decide (c0 ≠ 0) = false := by simp [h]
        go_wp2_with (go_at_call 30; refine (HC.out.1 _).mono ?_; rintro e w' ⟨rfl, rfl⟩)
        go_roundg 2
        case measure => omega
        case rel => exact ⟨1, rfl, by omega, by omega, ⟨fun _ => h, by omega, by omega⟩, S1.out.alloc _⟩
      · have hb : (c0 != 0) = true := by simp [h]
        have hb2 : decide (c0 ≠ 0) = true := by simp [h]
        go_wp2_with (go_at_call 30; refine (HC.out.1 _).mono ?_; rintro e w' ⟨rfl, rfl⟩)
        go_ret
        exact ⟨by rw [HT.out, if_neg h]; rfl, S1.out.alloc _⟩
    · by_cases h : c1 = 0
      · have hb : (c1 != 0) = false := by simp [h]
        have hb2 : decide (c1 ≠ 0) = false := by simp [h]
        go_wp2_with (go_at_call 30; refine (HC.out.2.1 _).mono ?_; rintro e w' ⟨rfl, rfl⟩)
        go_roundg 1
        case measure => omega
        case rel => exact ⟨2, rfl, by omega, by omega, ⟨fun _ => HI.out.1 (by omega), fun _ => h, by omega⟩, S1.out.alloc _⟩
      · have hb : (c1 != 0) = true := by simp [h]
        have hb2 : decide (c1 ≠ 0) = true := by simp [h]
        go_wp2_with (go_at_call 30; refine (HC.out.2.1 _).mono ?_; rintro e w' ⟨rfl, rfl⟩)
        go_ret
        exact ⟨by rw [HT.out, if_pos (HI.out.1 (by omega)), if_neg h]; rfl, S1.out.alloc _⟩
    · by_cases h : c2 = 0
      · have hb : (c2 != 0) = false := by simp [h]
        have hb2 : decide (c2 ≠ 0) = false := by simp [h]
        go_wp2_with (go_at_call 30; refine (HC.out.2.2 _).mono ?_; rintro e w' ⟨rfl, rfl⟩)
        go_roundg 0
        case measure => omega
        case rel => exact ⟨3, rfl, by omega, by omega, ⟨fun _ => HI.out.1 (by omega), fun _ => HI.out.2.1 (by omega), fun _ => h⟩, S1.out.alloc _⟩
      · have hb : (c2 != 0) = true := by simp [h]
        have hb2 : decide (c2 ≠ 0) = true := by simp [h]
        go_wp2_with (go_at_call 30; refine (HC.out.2.2 _).mono ?_; rintro e w' ⟨rfl, rfl⟩)
        go_ret
        exact ⟨by rw [HT.out, if_pos (HI.out.1 (by omega)), if_pos (HI.out.2.1 (by omega))]; rfl, S1.out.alloc _⟩
    · go_wp2
      go_ret
      exact ⟨by rw [HT.out, if_pos (HI.out.1 (by omega)), if_pos (HI.out.2.1 (by omega)), HI.out.2.2 (by omega)]; rfl, S1.out⟩

end Go.Proofs.YtelmbimmkdobaaaDoor.Pr

namespace Go.Proofs.YtelmbimmkdobaaaDoor.Pr
open Go.Shelf Go.RowKit Go.Lib Go.Sort Go.Proofs.YtelmbimmkdobaaaDoor
open Go.Proofs.YtelmbimmkdobaaaDoorW.PrintWords Go.Proofs.YtelmbimmkdobaaaDoorW.PrintLast Go.Proofs.YtelmbimmkdobaaaDoorW.PrintMore

section
variable {α : Type} [Inhabited α] {enc : α → List Value} {k : Nat}

omit [Inhabited α] in
theorem len_flat (hk : ∀ x, (enc x).length = k) : ∀ l : List α, (l.flatMap enc).length = l.length * k
  | [] => by simp
  | x :: l => by rw [List.flatMap_cons, List.length_append, hk, len_flat hk l, List.length_cons, Nat.add_mul, Nat.one_mul, Nat.add_comm]

theorem get_flat (hk : ∀ x, (enc x).length = k) : ∀ (l : List α) (j c : Nat), j < l.length → c < k → (l.flatMap enc)[j * k + c]! = (enc l[j]!)[c]!
  | [], j, c, hj, _ => by simp at hj
  | x :: l, 0, c, _, hc => by
    have : c < (enc x).length := by rw [hk]; exact hc
    simp [List.getElem?_append_left this]
  | x :: l, j + 1, c, hj, hc => by
    have ih := get_flat hk l j c (by simpa using hj) hc
    rw [List.flatMap_cons]
    have e : (j + 1) * k + c = (enc x).length + (j * k + c) := by rw [hk, Nat.add_mul, Nat.one_mul]; omega
    have e2 : (enc x ++ l.flatMap enc)[(enc x).length + (j * k + c)]? = (l.flatMap enc)[j * k + c]? := by rw [List.getElem?_append_right (Nat.le_add_right _ _), Nat.add_sub_cancel_left]
    rw [e]
    simpa [e2] using ih

theorem flatK_list (hk : ∀ x, (enc x).length = k) (l : List α) : flatK enc k l.toArray = (l.flatMap enc).toArray := by
  refine ext_get! (by rw [size_flatK]; simp only [List.size_toArray]; exact (len_flat hk l).symm) fun t ht => ?_
  have ht' : t < l.toArray.size * k := by simpa using ht
  have k0 : 0 < k := by rcases Nat.eq_zero_or_pos k with h | h
                        · subst h; simp at ht'
                        · exact h
  rw [get_flatK _ _ _ t ht']
  have h1 : t / k < l.length := by rw [Nat.div_lt_iff_lt_mul k0]; simpa using ht'
  have h2 := get_flat hk l (t / k) (t % k) h1 (Nat.mod_lt _ k0)
  rw [show t / k * k + t % k = t from Nat.div_add_mod' t k] at h2
  simpa using h2.symm

/-- What append's words say of a row, in the sorts' words. -/
theorem holdsK_of_own {w : World} {base e g n cap : Nat} {l : List α} (hk : ∀ x, (enc x).length = k) (h : w.ownsRow base e k (.slice (some ⟨g, 0, none⟩) n cap) l.length (l.flatMap enc)) (hn : n = l.length) :
    HoldsK enc k w g 0 l.toArray ∧ g < w.heap.size ∧ base ≤ g ∧ l.length ≤ cap := by
  obtain ⟨_, h2⟩ := h
  rcases h2 with ⟨h, _⟩ | ⟨g', cap', cur, hv, hb, hg, h1, h3, h4, h5⟩
  · cases h
  · cases hv
    refine ⟨?_, (Array.getElem?_eq_some_iff.1 hg).1, hb, h1⟩
    unfold HoldsK
    rw [flatK_list hk]
    intro j hj
    have hj' : j < l.length * k := by simpa [len_flat hk] using hj
    refine ⟨?_, by simp [World.frozen?, hg]⟩
    have h6 : (cur.toList.take (l.length * k))[j]? = (l.flatMap enc)[j]? := by rw [h5]
    rw [List.getElem?_take_of_lt hj'] at h6
    simp only [World.cell?, hg, Nat.zero_add]
    simp only [Option.isSome_none, Bool.false_eq_true, if_false]
    rw [← Array.getElem?_toList, h6]
    have h7 : j < (l.flatMap enc).length := by rw [len_flat hk]; exact hj'
    generalize l.flatMap enc = X at h7 ⊢
    rw [List.getElem?_eq_getElem h7]
    simp [h7]

theorem heap_sortWorldK {w : World} {g n : Nat} {os : Array Obj} {cur : Array Value} {e : TypeId} {fr : Nat × Nat} (d : Array α) (hb : w.heap[g]? = some (.cells cur e fr)) :
    (sortWorldK enc k w g 0 n d os).heap[g]? = some (.cells (putCells id 0 (flatK enc k d) cur) e fr) := by
  have hg : g < w.heap.size := (Array.getElem?_eq_some_iff.1 hb).1
  unfold sortWorldK
  rw [heap_grow_old _ _ (by rw [size_putRowK]; exact hg)]
  simp [putRowK, putRow, mapBlock, Sort.ahead, Array.getElem?_modify, hb, onCells]

/-- Behind a sort, a Compact: the slice (cut to the first elements, it may be) owns them. -/
theorem own_of_SWK {w w' : World} {base e g n cap : Nat} {l C Z : List α} (hk : ∀ x, (enc x).length = k) (h : w.ownsRow base e k (.slice (some ⟨g, 0, none⟩) n cap) l.length (l.flatMap enc))
    (S : SWK enc k w g 0 (C ++ Z).toArray w') (hl : C.length + Z.length = l.length) : w'.ownsRow base e k (.slice (some ⟨g, 0, none⟩) C.length cap) C.length (C.flatMap enc) := by
  obtain ⟨_, h2⟩ := h
  rcases h2 with ⟨h, _⟩ | ⟨g', cap', cur, hv, hb, hg, h1, h3, h4, h5⟩
  · cases h
  · cases hv
    obtain ⟨m, os, rfl⟩ := S
    refine ⟨len_flat hk C, .inr ⟨g, cap, _, rfl, hb, heap_sortWorldK _ hg, by omega, h3, by simp [putCells, h4], ?_⟩⟩
    rw [flatK_list hk, List.flatMap_append]
    have hc : (C.flatMap enc).length = C.length * k := len_flat hk C
    have hz : (Z.flatMap enc).length = Z.length * k := len_flat hk Z
    have hcur : C.length * k + Z.length * k ≤ cur.size := by
      rw [h4, ← Nat.add_mul]; exact Nat.mul_le_mul_right k (by omega)
    generalize C.flatMap enc = X at *
    generalize Z.flatMap enc = Y at *
    apply List.ext_getElem?
    intro j
    by_cases hj : j < C.length * k
    · rw [List.getElem?_take_of_lt hj, Array.getElem?_toList]
      have q1 : j < cur.size := by omega
      have q2 : j < X.length := by omega
      have q3 : j < X.length + Y.length := by omega
      rw [List.getElem?_eq_getElem q2]
      simp [putCells, q1, q3]
      exact List.getElem_append_left q2
    · rw [List.getElem?_take_eq_none (by omega), List.getElem?_eq_none (by omega)]

omit [Inhabited α] in
theorem reps_flat (hk : ∀ x, (enc x).length = k) (R : α → List Value → Prop) (hR : ∀ x, R x (enc x)) (l : List α) : Reps R k l (l.flatMap enc) := by
  refine ⟨len_flat hk l, ?_⟩
  induction l with
  | nil => intro j p h; simp at h
  | cons x l ih =>
    intro j p h
    cases j with
    | zero =>
      obtain rfl : x = p := by simpa using h
      rw [Nat.zero_mul, List.drop_zero, List.flatMap_cons, ← hk x, List.take_left']
      · exact hR x
      · rfl
    | succ j =>
      have e : (j + 1) * k = (enc x).length + j * k := by rw [hk, Nat.add_mul, Nat.one_mul, Nat.add_comm]
      rw [e, List.flatMap_cons, List.drop_append]
      have e2 : List.drop ((enc x).length + j * k) (enc x) = [] := List.drop_eq_nil_of_le (by omega)
      rw [e2, List.nil_append, Nat.add_sub_cancel_left]
      exact ih j p (by simpa using h)

omit [Inhabited α] in
theorem reps_flat_eq (hk : ∀ x, (enc x).length = k) (R : α → List Value → Prop) (hR : ∀ x cs, R x cs → cs = enc x) : ∀ (l : List α) (cs : List Value), Reps R k l cs → cs = l.flatMap enc
  | [], cs, h => by
    have := h.1
    simp at this
    simpa using this
  | x :: l, cs, h => by
    have h0 := hR _ _ (h.2 0 x (by simp))
    rw [Nat.zero_mul, List.drop_zero] at h0
    have hl := h.1
    have ht : Reps R k l (cs.drop k) := by
      refine ⟨by rw [List.length_drop, hl, List.length_cons, Nat.add_mul, Nat.one_mul, Nat.add_sub_cancel], fun j p hj => ?_⟩
      have h2 := h.2 (j + 1) p (by simpa using hj)
      rwa [Nat.add_mul, Nat.one_mul, Nat.add_comm, ← List.drop_drop] at h2
    rw [List.flatMap_cons, ← reps_flat_eq hk R hR l _ ht, ← h0, List.take_append_drop]

omit [Inhabited α] in
/-- From the row's cells to the print's word. -/
theorem R_of_flat {d : Kd α} {e base : Nat} {w : World} {v : Value} {l : List α} (hk : ∀ x, (enc x).length = k) (hs : d.sz = k) (hM : ∀ w base ok x, d.M w base ok x (enc x)) (h : w.ownsRow base e k v l.length (l.flatMap enc)) :
    Kd.R d e w base (fun _ => True) v l := by
  subst hs
  exact ⟨fun _ _ => trivial, _, h, reps_flat hk _ (fun x => hM _ _ _ x) l⟩

omit [Inhabited α] in
/-- .. and back. -/
theorem flat_of_R {d : Kd α} {e base : Nat} {w : World} {v : Value} {l : List α} {ok : Nat → Prop} (hk : ∀ x, (enc x).length = k) (hs : d.sz = k) (hM : ∀ w base ok x cs, d.M w base ok x cs → cs = enc x) (h : Kd.R d e w base ok v l) :
    w.ownsRow base e k v l.length (l.flatMap enc) := by
  subst hs
  obtain ⟨_, inner, ho, hr⟩ := h
  rw [← reps_flat_eq hk _ (fun x cs => hM _ _ _ x cs) l inner hr]
  exact ho
end

end Go.Proofs.YtelmbimmkdobaaaDoor.Pr

namespace Go.Proofs.YtelmbimmkdobaaaDoor.Pr
theorem info27 : (Tryd.prog.info? 27).map (fun i => (i.zero, i.size, i.bytes)) = some (some (.agg #[(.string ⟨#[]⟩), (.string ⟨#[]⟩), (.string ⟨#[]⟩)]), 3, 48) := by kernel_rfl
theorem info36 : (Tryd.prog.info? 36).map (fun i => (i.zero, i.size, i.bytes)) = some (some (.agg #[(.string ⟨#[]⟩), (.string ⟨#[]⟩), (.string ⟨#[]⟩), (.int .i64 0), (.int .i64 0)]), 5, 64) := by kernel_rfl
end Go.Proofs.YtelmbimmkdobaaaDoor.Pr

namespace Go.Proofs.YtelmbimmkdobaaaDoor.Pr
open Go.Shelf Go.RowKit Go.Lib Go.Sort Go.Proofs.YtelmbimmkdobaaaDoor
open Go.Proofs.YtelmbimmkdobaaaDoorW.PrintWords Go.Proofs.YtelmbimmkdobaaaDoorW.PrintLast Go.Proofs.YtelmbimmkdobaaaDoorW.PrintMore
section
variable {ops : Array Oper} {rest : List Oper} {o : Oper} {a : Act} {Q : Exit → Act → World → Prop}
theorem app_Ro {w0 W : World} (base : Nat) (hgd : o.guard = none) (s x : Operand) (ho : o.op = .call { callee := .builtin .append, args := #[s, x], argTypes := #[33, 33] })
    (v : Value) (xs : List Ro) (p : Ro) (hs : a.eval s = v) (hx : a.eval x = .slice (some ⟨W.heap.size, 0, none⟩) 1 1) (HO : Kd.R k36 36 W base (fun _ => True) v xs) (HB : Below base w0 W) (hbase : base ≤ W.heap.size) (hl : xs.length < 2147483648)
    (h : ∀ v1 w1, Kd.R k36 36 w1 base (fun _ => True) v1 (xs ++ [p]) → Below base w0 w1 → W.grownBy w1 v.ownBlock → (v1.ownBlock = v.ownBlock ∨ ∃ b, v1.ownBlock = some b ∧ W.heap.size ≤ b) → wpList Tryd.prog ops Q rest (a.put o.dst v1) w1) :
    wpList Tryd.prog ops Q (o :: rest) a (W.alloc (.cells #[.string p.f0.f0, .string p.f0.f1, .string p.f0.f2, .int .i64 p.f1, .int .i64 p.f2] 36)) :=
  Kd.R_append k36 (w0 := w0) base hgd s x 33 36 _ _ ho Tryd.underlying33 info36 rfl (by decide) (by omega) v xs p [.string p.f0.f0, .string p.f0.f1, .string p.f0.f2, .int .i64 p.f1, .int .i64 p.f2] (fun _ => True) (fun _ => False) hs hx (k36_mkM _ _ _ p) (fun _ hk => hk.elim) (fun _ _ => trivial) HO HB hbase (by omega) h
end

/-! ### the print's word and the flat word -/
theorem R_T {e base : Nat} {w : World} {v : Value} {l : List T} (h : w.ownsRow base e 3 v l.length (l.flatMap enT)) : Kd.R k27 e w base (fun _ => True) v l := R_of_flat (enc := enT) (fun _ => rfl) rfl (fun w b ok x => k27_mkM w b ok x) h
theorem R_Ro {e base : Nat} {w : World} {v : Value} {l : List Ro} (h : w.ownsRow base e 5 v l.length (l.flatMap enRo)) : Kd.R k36 e w base (fun _ => True) v l := R_of_flat (enc := enRo) (fun _ => rfl) rfl (fun w b ok x => k36_mkM w b ok x) h
theorem fl_Ro {e base : Nat} {w : World} {v : Value} {l : List Ro} {ok : Nat → Prop} (h : Kd.R k36 e w base ok v l) : w.ownsRow base e 5 v l.length (l.flatMap enRo) := flat_of_R (fun _ => rfl) rfl (fun _ _ _ _ _ h => k36_openM h) h

/-! ### an element that is read -/
theorem el_T {w : World} {A : Option Addr} {n : Nat} {xs : List T} (h : Kd.C k27 w A n xs) (hn : xs.length = n) (i : Nat) (hi : i < n) : ∃ ad x, A = some ad ∧ xs[i]? = some x ∧ w.cell? (ad.add (i * 3)) = some (.string x.f0) ∧ w.cell? ⟨(ad.add (i * 3)).block, (ad.add (i * 3)).off + 1, none⟩ = some (.string x.f1) ∧ w.cell? ⟨(ad.add (i * 3)).block, (ad.add (i * 3)).off + 2, none⟩ = some (.string x.f2) := by
  obtain ⟨ad, e, h0, h1, h2⟩ := at_T27 h i (by omega) (by omega)
  exact ⟨ad, rd_T27 xs i, e, by simp [rd_T27, hn, hi], h0, h1, h2⟩
theorem cell_below {w w' : World} (h : Below w.heap.size w w') {a : Addr} {v : Value} (hc : w.cell? a = some v) : w'.cell? a = some v := (h.cell (World.block_lt_of_cell? w a hc)).trans hc
theorem take_step {α : Type} (l : List α) (i : Nat) (x : α) (h : l[i]? = some x) : l.take (i + 1) = l.take i ++ [x] := by
  rw [List.take_add_one, h]; rfl
theorem lt_of_get {α : Type} {l : List α} {i : Nat} {x : α} (h : l[i]? = some x) : i < l.length := by
  by_cases hi : i < l.length
  · exact hi
  · rw [List.getElem?_eq_none (by omega)] at h; cases h
end Go.Proofs.YtelmbimmkdobaaaDoor.Pr

namespace Go.Proofs.YtelmbimmkdobaaaDoor.Pr
open Go.ChangeShapes Go.WideShapes Go.ChangeAt Go.RowKit Go.Deep
open Go.Proofs.YtelmbimmkdobaaaDoorW.PrintWords Go.Proofs.YtelmbimmkdobaaaDoorW.PrintLast Go.Proofs.YtelmbimmkdobaaaDoorW.PrintMore

theorem bulk_one {H : Type} (d : DataW H) : 1 ≤ Rows.uptoBulk d := by
  cases d with
  | lit l => cases l <;> simp [Rows.uptoBulk]
  | nil => simp [Rows.uptoBulk]
  | ptr d => simp [Rows.uptoBulk]
  | slice elems spare => simp [Rows.uptoBulk]
  | agg parts => simp [Rows.uptoBulk]
  | iface t d => simp [Rows.uptoBulk]
  | map entries => simp [Rows.uptoBulk]
  | held h => simp [Rows.uptoBulk]
theorem bulk_len {H : Type} (l : List (DataW H)) : l.length ≤ Rows.uptoBulkAll l := by
  induction l with
  | nil => simp [Rows.uptoBulkAll]
  | cons x r ih => have := bulk_one x; simp only [Rows.uptoBulkAll, List.length_cons]; omega
theorem bulk_slice {H : Type} (elems spare : List (DataW H)) : elems.length ≤ Rows.uptoBulk (.slice elems spare) := by
  have h1 := bulk_len elems
  simp only [Rows.uptoBulk]
  omega
theorem bulk_mem {H : Type} {d : DataW H} {l : List (DataW H)} (h : d ∈ l) : Rows.uptoBulk d ≤ Rows.uptoBulkAll l := by
  induction l with
  | nil => cases h
  | cons x r ih =>
    simp only [Rows.uptoBulkAll]
    cases List.mem_cons.1 h with
    | inl e => subst e; omega
    | inr e => have := ih e; omega

section
variable {H : Type} {enc : TypeId × Value → H} {W : World}
end
end Go.Proofs.YtelmbimmkdobaaaDoor.Pr

namespace Go.Proofs.YtelmbimmkdobaaaDoor.Pr
open Go.RowKit Go.Proofs.YtelmbimmkdobaaaDoorW.PrintWords Go.Proofs.YtelmbimmkdobaaaDoorW.PrintLast Go.Proofs.YtelmbimmkdobaaaDoorW.PrintMore
attribute [local go_sem] max2_int min2_int max_two min_two max_three min_three max_four min_four   -- for this text's walks alone
set_option linter.unusedVariables false
set_option linter.unusedSimpArgs false

theorem eqA27 (d : Nat) (w : World) (x0 y0 : ByteArray) (x1 y1 : ByteArray) (x2 y2 : ByteArray) :
    (Op.equalIn (d + 2) 27 (.agg #[.string x0, .string x1, .string x2]) (.agg #[.string y0, .string y1, .string y2])).run Tryd.prog w = .ok (x0.toList == y0.toList && (x1.toList == y1.toList && (x2.toList == y2.toList))) w := by
  refine eqA_of Tryd.underlying27 (by kernel_rfl) ?_
  refine eqf_cons (by rfl) (by go_simp; rfl) (by go_simp; rfl) (by go_simp) ?_
  refine eqf_cons (by rfl) (by go_simp; rfl) (by go_simp; rfl) (by go_simp) ?_
  exact eqf_last (by rfl) (by go_simp; rfl) (by go_simp; rfl) (by go_simp)
theorem eqA36 (d : Nat) (w : World) (x0 y0 : ByteArray) (x1 y1 : ByteArray) (x2 y2 : ByteArray) (x3 y3 : Int) (x4 y4 : Int) :
    (Op.equalIn (d + 3) 36 (.agg #[.string x0, .string x1, .string x2, .int .i64 x3, .int .i64 x4]) (.agg #[.string y0, .string y1, .string y2, .int .i64 y3, .int .i64 y4])).run Tryd.prog w = .ok ((x0.toList == y0.toList && (x1.toList == y1.toList && (x2.toList == y2.toList))) && (x3 == y3 && (x4 == y4))) w := by
  refine eqA_of Tryd.underlying36 (by kernel_rfl) ?_
  refine eqf_cons (by rfl) (by go_simp) (by go_simp) (eqA27 (d + 0) w _ _ _ _ _ _) ?_
  refine eqf_cons (by rfl) (by go_simp; rfl) (by go_simp; rfl) (by go_simp) ?_
  exact eqf_last (by rfl) (by go_simp; rfl) (by go_simp; rfl) (by go_simp)
end Go.Proofs.YtelmbimmkdobaaaDoor.Pr

namespace Go.Proofs.YtelmbimmkdobaaaDoor.Pr
open Go.Shelf Go.RowKit Go.Lib Go.Sort Go.Proofs.YtelmbimmkdobaaaDoor
open Go.Proofs.YtelmbimmkdobaaaDoorW.PrintWords Go.Proofs.YtelmbimmkdobaaaDoorW.PrintLast Go.Proofs.YtelmbimmkdobaaaDoorW.PrintMore

theorem bl_beq (x y : ByteArray) : (x.toList == y.toList) = decide (x = y) := by
  rw [ByteArray.toList_eq, ByteArray.toList_eq]
  by_cases h : x = y
  · simp [h]
  · have h2 : ¬ x.data.toList = y.data.toList := fun e => h (bl_inj.1 e)
    rw [decide_eq_false h]
    exact beq_eq_false_iff_ne.2 h2
theorem eqx_T (x y : T) : (x.f0.toList == y.f0.toList && (x.f1.toList == y.f1.toList && (x.f2.toList == y.f2.toList))) = decide (x = y) := by
  rw [bl_beq, bl_beq, bl_beq]
  obtain ⟨x0, x1, x2⟩ := x
  obtain ⟨y0, y1, y2⟩ := y
  by_cases h0 : x0 = y0 <;> by_cases h1 : x1 = y1 <;> by_cases h2 : x2 = y2 <;> simp [h0, h1, h2]
theorem eql_T : EqlAt Tryd.prog 27 (fun x : T => .agg (enT x).toArray) (fun x y => decide (x = y)) := by
  refine ⟨fun x y w => ?_, GuardAt.agg _ (by kernel_rfl)⟩
  simp only [enT]
  rw [run_eql_struct, show (10000 : Nat) = 9998 + 2 from rfl, eqA27, eqx_T]
  rfl
end Go.Proofs.YtelmbimmkdobaaaDoor.Pr

namespace Go.Proofs.YtelmbimmkdobaaaDoor.Pr
open Go.Shelf Go.RowKit Go.Lib Go.Sort Go.Proofs.YtelmbimmkdobaaaDoor
open Go.Proofs.YtelmbimmkdobaaaDoorW.PrintWords Go.Proofs.YtelmbimmkdobaaaDoorW.PrintLast Go.Proofs.YtelmbimmkdobaaaDoorW.PrintMore

def nameSet : List UInt8 := [97, 98, 99, 100, 101, 102, 103, 104, 105, 106, 107, 108, 109, 110, 111, 112, 113, 114, 115, 116, 117, 118, 119, 120, 121, 122, 48, 49, 50, 51, 52, 53, 54, 55, 56, 57, 95]
def nameL (l : List UInt8) : Bool := !l.isEmpty && decide (l.length ≤ 32) && l.all (nameSet.contains ·)
def objL (l : List UInt8) : Int := if Lib.indexByte l 58 < 0 then 51 else if nameL (l.take (Lib.indexByte l 58).toNat) && nameL (l.drop ((Lib.indexByte l 58).toNat + 1)) then 0 else 50
def userL (l : List UInt8) : Int :=
  if Lib.indexByte l 35 < 0 then objL l
  else if objL (l.take (Lib.indexByte l 35).toNat) ≠ 0 then objL (l.take (Lib.indexByte l 35).toNat)
  else if nameL (l.drop ((Lib.indexByte l 35).toNat + 1)) then 0 else 50
def checkT (t : T) : Int := if objL (bl t.f0) ≠ 0 then objL (bl t.f0) else if nameL (bl t.f1) then userL (bl t.f2) else 50

theorem dropW_nil (p : UInt8 → Bool) : ∀ l : List UInt8, l.dropWhile p = [] ↔ l.all p = true
  | [] => by simp
  | x :: l => by
    rw [List.dropWhile_cons, List.all_cons]
    cases h : p x
    · simp
    · simp only [if_true, Bool.true_and]
      exact dropW_nil p l
theorem trim_empty (l cs : List UInt8) : (Lib.trimS l cs = []) ↔ l.all (cs.contains ·) = true := by
  unfold Lib.trimS Lib.trimLeftS Lib.trimRightS
  constructor
  · intro h
    rw [dropW_nil] at h
    -- what is left from the right is all in the set, and begins (from the right) with one that isn't: so nothing is left
    have h2 : l.reverse.dropWhile (cs.contains ·) = [] := by
      cases hd : l.reverse.dropWhile (cs.contains ·) with
      | nil => rfl
      | cons x r =>
        exfalso
        rw [hd] at h
        have h3 : cs.contains x = true := by
          rw [List.all_eq_true] at h
          exact h x (by simp)
        have h4 := List.head?_dropWhile_not (cs.contains ·) l.reverse
        rw [hd] at h4
        simp at h4
        simp at h3
        exact h4 h3
    rw [dropW_nil] at h2
    rw [List.all_reverse] at h2
    exact h2
  · intro h
    have h2 : l.reverse.dropWhile (cs.contains ·) = [] := by rw [dropW_nil, List.all_reverse]; exact h
    rw [h2]; rfl
theorem empty_or (s : ByteArray) : s = ⟨#[]⟩ ∨ (s.toList = [] → False) ∧ s.toList.isEmpty = false ∧ (s.toList == []) = false ∧ bl s ≠ [] := by
  by_cases h : bl s = []
  · left
    obtain ⟨⟨l⟩⟩ := s
    have : l = [] := h
    rw [this]
  · right
    have e : s.toList = bl s := by rw [ByteArray.toList_eq]; rfl
    refine ⟨by rw [e]; exact h, ?_, ?_, h⟩
    · rw [e]; cases hb : bl s with
      | nil => exact absurd hb h
      | cons _ _ => rfl
    · rw [e]; exact beq_eq_false_iff_ne.2 h
theorem bl_len (s : ByteArray) : (bl s).length = s.size := rfl

set_option maxHeartbeats 4000000 in
theorem tuple_name (s : ByteArray) (w : World) (hs : s.size ≤ 9223372036854775807) : Calls Tryd.prog 36 #[.string s] w fun e w' => e = .returned (.bool (nameL (bl s))) ∧ Below w.heap.size w w' := by
  have HB : Aside (Below w.heap.size w w) := Below.refl _ _
  rcases empty_or s with rfl | ⟨h1, h2, h3, h4⟩
  · go_enter Tryd.func36, Tryd.ntmps36
    go_wp2
    go_ret
    exact ⟨rfl, HB.out⟩
  · have h1' : ¬ s.toList = [] := h1
    have hN : nameL (bl s) = (decide (s.size ≤ 32) && (bl s).all (nameSet.contains ·)) := by
      unfold nameL
      rw [bl_len]
      cases hb : bl s with
      | nil => exact absurd hb h4
      | cons _ _ => simp
    have HN : Hid (type_of% hN) := hN
    clear hN h1 h4
    by_cases c1 : s.size ≤ 32
    · have d1 : decide ((s.size : Int) ≤ 32) = true := decide_eq_true (by omega)
      have d2 : decide (s.size ≤ 32) = true := decide_eq_true c1
      have hT := Any.strings_Trim_laid Tryd.trimS (by kernel_rfl) s (⟨#[97, 98, 99, 100, 101, 102, 103, 104, 105, 106, 107, 108, 109, 110, 111, 112, 113, 114, 115, 116, 117, 118, 119, 120, 121, 122, 48, 49, 50, 51, 52, 53, 54, 55, 56, 57, 95]⟩ : ByteArray) w hs (by decide) (ascii_of_all (by decide))
      have he : Lib.trimS s.data.toList nameSet = [] ↔ (bl s).all (nameSet.contains ·) = true := trim_empty _ _
      change Calls _ _ _ _ (fun e w' => e = .returned (.string ⟨(Lib.trimS s.data.toList nameSet).toArray⟩) ∧ _) at hT
      cases ha : (bl s).all (nameSet.contains ·)
      · have hne : ¬ Lib.trimS s.data.toList nameSet = [] := fun h => by rw [he.1 h] at ha; cases ha
        obtain ⟨tr, htr⟩ : ∃ tr : ByteArray, tr = ⟨(Lib.trimS s.data.toList nameSet).toArray⟩ := ⟨_, rfl⟩
        rw [← htr] at hT
        rcases empty_or tr with h | ⟨g1, g2, g3, g4⟩
        · exfalso
          rw [h] at htr
          have := congrArg bl htr
          exact hne (by simpa [bl] using this.symm)
        · have g1' : ¬ tr.toList = [] := g1
          have HT : Aside (type_of% hT) := hT
          have HF : Hid (nameL (bl s) = false) := by show _ = _; rw [HN.out, ha]; simp
          clear hT he hne htr g4 ha g1
          go_enter Tryd.func36, Tryd.ntmps36
          go_wp2_with (go_at_call 61; refine HT.out.mono ?_; rintro e w1 ⟨rfl, hb⟩; have HB1 : Aside _ := hb; clear hb)
          go_ret
          exact ⟨by rw [HF.out]; rfl, HB1.out⟩
      · rw [he.2 ha] at hT
        have HT : Aside (type_of% hT) := hT
        have HF : Hid (nameL (bl s) = true) := by show _ = _; rw [HN.out, ha, d2]; rfl
        clear hT he ha
        go_enter Tryd.func36, Tryd.ntmps36
        go_wp2_with (go_at_call 61; refine HT.out.mono ?_; rintro e w1 ⟨rfl, hb⟩; have HB1 : Aside _ := hb; clear hb)
        go_ret
        exact ⟨by rw [HF.out]; rfl, HB1.out⟩
    · have d1 : decide ((s.size : Int) ≤ 32) = false := decide_eq_false (by omega)
      have d2 : decide (s.size ≤ 32) = false := decide_eq_false c1
      have HF : Hid (nameL (bl s) = false) := by show _ = _; rw [HN.out, d2]; rfl
      go_enter Tryd.func36, Tryd.ntmps36
      go_wp2
      go_ret
      exact ⟨by rw [HF.out]; rfl, HB.out⟩
end Go.Proofs.YtelmbimmkdobaaaDoor.Pr

namespace Go.Proofs.YtelmbimmkdobaaaDoor.Pr
open Go.Shelf Go.RowKit Go.Lib Go.Sort Go.Proofs.YtelmbimmkdobaaaDoor
open Go.Proofs.YtelmbimmkdobaaaDoorW.PrintWords Go.Proofs.YtelmbimmkdobaaaDoorW.PrintLast Go.Proofs.YtelmbimmkdobaaaDoorW.PrintMore

theorem ib_lt (c : UInt8) : ∀ l : List UInt8, Lib.indexByte l c < 0 ∨ ∃ n : Nat, Lib.indexByte l c = (n : Int) ∧ n < l.length
  | [] => .inl (by simp [Lib.indexByte])
  | b :: l => by
    rw [Lib.indexByte]
    by_cases h : (b == c) = true
    · rw [if_pos h]; exact .inr ⟨0, rfl, by simp⟩
    · rw [if_neg h]
      rcases ib_lt c l with h2 | ⟨n, h2, h3⟩
      · by_cases h4 : (Lib.indexByte l c == -1) = true
        · rw [if_pos h4]; exact .inl (by omega)
        · rw [if_neg h4]
          by_cases h5 : Lib.indexByte l c = -1
          · exact absurd (by rw [h5]; rfl) h4
          · exact .inl (by
              have : -1 ≤ Lib.indexByte l c := ib_ge c l
              omega)
      · rw [h2, if_neg (by simp)]
        exact .inr ⟨n + 1, by omega, by simp; omega⟩
  where
  ib_ge (c : UInt8) : ∀ l : List UInt8, -1 ≤ Lib.indexByte l c
  | [] => by simp [Lib.indexByte]
  | b :: l => by
    rw [Lib.indexByte]
    split
    · omega
    · have := ib_ge c l
      split <;> omega
theorem bl_extract (s : ByteArray) (a b : Nat) : bl (s.extract a b) = ((bl s).take b).drop a := by
  unfold bl
  simp [ByteArray.data_extract, List.drop_take]

set_option maxHeartbeats 4000000 in
set_option maxRecDepth 100000 in
theorem index_Col (s : ByteArray) (w : World) (hs : s.size ≤ 4611686018427387904) : Calls Tryd.prog 83 #[.string s, .string ⟨#[58]⟩] w fun e w' => e = .returned (.int .i64 (Lib.indexByte (bl s) 58)) ∧ w' = w := by
  by_cases h : s = ⟨#[58]⟩
  · subst h
    go_enter Tryd.func83, Tryd.ntmps83
    go_wp2
    go_ret
    exact ⟨rfl, rfl⟩
  · have hI := Any.stringslite_IndexByte Tryd.idxByte s 58 w
    have e : s.toList = bl s := by rw [ByteArray.toList_eq]; rfl
    have h1 : ¬ (⟨#[58]⟩ : ByteArray) = s := fun q => h q.symm
    have h2 : ((⟨#[58]⟩ : ByteArray).toList == s.toList) = false := by rw [bl_beq]; exact decide_eq_false h1
    have h3 : decide ((⟨#[58]⟩ : ByteArray) = s) = false := decide_eq_false h1
    have h4 : ¬ [58] = s.toList := by
      intro q; rw [e] at q
      exact h1 (bl_inj.1 q)
    have h5 : ([58] == s.toList) = false := beq_eq_false_iff_ne.2 h4
    have HI : Aside (type_of% hI) := hI
    clear hI e h
    go_enter Tryd.func83, Tryd.ntmps83
    go_wp2_with (go_at_call 88; refine HI.out.mono ?_; rintro e w1 ⟨rfl, rfl⟩)
    go_ret
    exact ⟨rfl, rfl⟩

set_option maxHeartbeats 4000000 in
set_option maxRecDepth 100000 in
theorem cut_Col_no (s : ByteArray) (w : World) (hs : s.size ≤ 4611686018427387904) (hi : Lib.indexByte (bl s) 58 < 0) : Calls Tryd.prog 60 #[.string s, .string ⟨#[58]⟩] w fun e w' => e = .returned (.tuple #[.string s, .string ⟨#[]⟩, .bool false]) ∧ Below w.heap.size w w' := by
  have hI := index_Col s w hs
  have hC : Calls Tryd.prog 73 #[.string s, .string ⟨#[58]⟩] w fun e w' => e = .returned (.tuple #[.string s, .string ⟨#[]⟩, .bool false]) ∧ Below w.heap.size w w' := by
    generalize Lib.indexByte (bl s) 58 = i at hI hi
    have HI : Aside (type_of% hI) := hI
    clear hI
    have d : decide (0 ≤ i) = false := decide_eq_false (by omega)
    go_enter Tryd.func73, Tryd.ntmps73
    go_wp2_with (go_at_call 83; refine HI.out.mono ?_; rintro e w1 ⟨rfl, rfl⟩)
    go_ret3
    exact ⟨rfl, Below.refl _ _⟩
  have HC : Aside (type_of% hC) := hC
  clear hC hI hi
  go_enter Tryd.func60, Tryd.ntmps60
  go_wp2_with (go_at_call 73; refine HC.out.mono ?_; rintro e w1 ⟨rfl, hb⟩; have HB : Aside _ := hb; clear hb)
  go_ret3
  exact ⟨rfl, HB.out⟩

set_option maxHeartbeats 4000000 in
set_option maxRecDepth 100000 in
theorem cut_Col_yes (s : ByteArray) (n : Nat) (w : World) (hs : s.size ≤ 4611686018427387904) (hi : Lib.indexByte (bl s) 58 = (n : Int)) (hn : n < s.size) : Calls Tryd.prog 60 #[.string s, .string ⟨#[58]⟩] w fun e w' => e = .returned (.tuple #[.string (s.extract 0 n), .string (s.extract (n + 1) s.size), .bool true]) ∧ Below w.heap.size w w' := by
  have hI := index_Col s w hs
  have hC : Calls Tryd.prog 73 #[.string s, .string ⟨#[58]⟩] w fun e w' => e = .returned (.tuple #[.string (s.extract 0 n), .string (s.extract (n + 1) s.size), .bool true]) ∧ Below w.heap.size w w' := by
    rw [hi] at hI
    have HI : Aside (type_of% hI) := hI
    clear hI hi
    have b1 : (n : Int) ≤ (s.size : Int) := by omega
    have b2 : (n : Int) + 1 ≤ (s.size : Int) := by omega
    have b3 : (0 : Int) ≤ (n : Int) := by omega
    have b4 : (0 : Int) ≤ (n : Int) + 1 := by omega
    go_enter Tryd.func73, Tryd.ntmps73
    go_wp2_with (go_at_call 83; refine HI.out.mono ?_; rintro e w1 ⟨rfl, rfl⟩)
    go_quiet (fail)
    go_wp2
    go_ret3
    exact ⟨rfl, by repeat (first | exact Below.refl _ _ | apply pw_below_drewN)⟩
  have HC : Aside (type_of% hC) := hC
  clear hC hI hi hn
  go_enter Tryd.func60, Tryd.ntmps60
  go_wp2_with (go_at_call 73; refine HC.out.mono ?_; rintro e w1 ⟨rfl, hb⟩; have HB : Aside _ := hb; clear hb)
  go_ret3
  exact ⟨rfl, HB.out⟩

set_option maxHeartbeats 4000000 in
set_option maxRecDepth 100000 in
theorem index_Hash (s : ByteArray) (w : World) (hs : s.size ≤ 4611686018427387904) : Calls Tryd.prog 83 #[.string s, .string ⟨#[35]⟩] w fun e w' => e = .returned (.int .i64 (Lib.indexByte (bl s) 35)) ∧ w' = w := by
  by_cases h : s = ⟨#[35]⟩
  · subst h
    go_enter Tryd.func83, Tryd.ntmps83
    go_wp2
    go_ret
    exact ⟨rfl, rfl⟩
  · have hI := Any.stringslite_IndexByte Tryd.idxByte s 35 w
    have e : s.toList = bl s := by rw [ByteArray.toList_eq]; rfl
    have h1 : ¬ (⟨#[35]⟩ : ByteArray) = s := fun q => h q.symm
    have h2 : ((⟨#[35]⟩ : ByteArray).toList == s.toList) = false := by rw [bl_beq]; exact decide_eq_false h1
    have h3 : decide ((⟨#[35]⟩ : ByteArray) = s) = false := decide_eq_false h1
    have h4 : ¬ [35] = s.toList := by
      intro q; rw [e] at q
      exact h1 (bl_inj.1 q)
    have h5 : ([35] == s.toList) = false := beq_eq_false_iff_ne.2 h4
    have HI : Aside (type_of% hI) := hI
    clear hI e h
    go_enter Tryd.func83, Tryd.ntmps83
    go_wp2_with (go_at_call 88; refine HI.out.mono ?_; rintro e w1 ⟨rfl, rfl⟩)
    go_ret
    exact ⟨rfl, rfl⟩

set_option maxHeartbeats 4000000 in
set_option maxRecDepth 100000 in
theorem cut_Hash_no (s : ByteArray) (w : World) (hs : s.size ≤ 4611686018427387904) (hi : Lib.indexByte (bl s) 35 < 0) : Calls Tryd.prog 60 #[.string s, .string ⟨#[35]⟩] w fun e w' => e = .returned (.tuple #[.string s, .string ⟨#[]⟩, .bool false]) ∧ Below w.heap.size w w' := by
  have hI := index_Hash s w hs
  have hC : Calls Tryd.prog 73 #[.string s, .string ⟨#[35]⟩] w fun e w' => e = .returned (.tuple #[.string s, .string ⟨#[]⟩, .bool false]) ∧ Below w.heap.size w w' := by
    generalize Lib.indexByte (bl s) 35 = i at hI hi
    have HI : Aside (type_of% hI) := hI
    clear hI
    have d : decide (0 ≤ i) = false := decide_eq_false (by omega)
    go_enter Tryd.func73, Tryd.ntmps73
    go_wp2_with (go_at_call 83; refine HI.out.mono ?_; rintro e w1 ⟨rfl, rfl⟩)
    go_ret3
    exact ⟨rfl, Below.refl _ _⟩
  have HC : Aside (type_of% hC) := hC
  clear hC hI hi
  go_enter Tryd.func60, Tryd.ntmps60
  go_wp2_with (go_at_call 73; refine HC.out.mono ?_; rintro e w1 ⟨rfl, hb⟩; have HB : Aside _ := hb; clear hb)
  go_ret3
  exact ⟨rfl, HB.out⟩

set_option maxHeartbeats 4000000 in
set_option maxRecDepth 100000 in
theorem cut_Hash_yes (s : ByteArray) (n : Nat) (w : World) (hs : s.size ≤ 4611686018427387904) (hi : Lib.indexByte (bl s) 35 = (n : Int)) (hn : n < s.size) : Calls Tryd.prog 60 #[.string s, .string ⟨#[35]⟩] w fun e w' => e = .returned (.tuple #[.string (s.extract 0 n), .string (s.extract (n + 1) s.size), .bool true]) ∧ Below w.heap.size w w' := by
  have hI := index_Hash s w hs
  have hC : Calls Tryd.prog 73 #[.string s, .string ⟨#[35]⟩] w fun e w' => e = .returned (.tuple #[.string (s.extract 0 n), .string (s.extract (n + 1) s.size), .bool true]) ∧ Below w.heap.size w w' := by
    rw [hi] at hI
    have HI : Aside (type_of% hI) := hI
    clear hI hi
    have b1 : (n : Int) ≤ (s.size : Int) := by omega
    have b2 : (n : Int) + 1 ≤ (s.size : Int) := by omega
    have b3 : (0 : Int) ≤ (n : Int) := by omega
    have b4 : (0 : Int) ≤ (n : Int) + 1 := by omega
    go_enter Tryd.func73, Tryd.ntmps73
    go_wp2_with (go_at_call 83; refine HI.out.mono ?_; rintro e w1 ⟨rfl, rfl⟩)
    go_quiet (fail)
    go_wp2
    go_ret3
    exact ⟨rfl, by repeat (first | exact Below.refl _ _ | apply pw_below_drewN)⟩
  have HC : Aside (type_of% hC) := hC
  clear hC hI hi hn
  go_enter Tryd.func60, Tryd.ntmps60
  go_wp2_with (go_at_call 73; refine HC.out.mono ?_; rintro e w1 ⟨rfl, hb⟩; have HB : Aside _ := hb; clear hb)
  go_ret3
  exact ⟨rfl, HB.out⟩
end Go.Proofs.YtelmbimmkdobaaaDoor.Pr

namespace Go.Proofs.YtelmbimmkdobaaaDoor.Pr
open Go.Shelf Go.RowKit Go.Lib Go.Sort Go.Proofs.YtelmbimmkdobaaaDoor
open Go.Proofs.YtelmbimmkdobaaaDoorW.PrintWords Go.Proofs.YtelmbimmkdobaaaDoorW.PrintLast Go.Proofs.YtelmbimmkdobaaaDoorW.PrintMore
open Go.ChangeMaps (setBlock)

/-! ### lists of pairs, plainly -/
section
variable {κ β : Type} [DecidableEq κ]
def aget (t : κ) : List (κ × β) → Option β
  | [] => none
  | p :: m => if t = p.1 then some p.2 else aget t m
def aput (t : κ) (v : β) : List (κ × β) → List (κ × β)
  | [] => [(t, v)]
  | p :: m => if t = p.1 then (t, v) :: m else p :: aput t v m
def adel (t : κ) : List (κ × β) → List (κ × β)
  | [] => []
  | p :: m => if t = p.1 then m else p :: adel t m
def afind (t : κ) : List (κ × β) → Nat → Option (Nat × β)
  | [], _ => none
  | p :: m, i => if t = p.1 then some (i, p.2) else afind t m (i + 1)
theorem asplit (t : κ) : ∀ m : List (κ × β), (t ∉ m.map Prod.fst ∧ aget t m = none ∧ (∀ v, aput t v m = m ++ [(t, v)]) ∧ adel t m = m ∧ ∀ i, afind t m i = none) ∨
    ∃ m1 v0 m2, m = m1 ++ (t, v0) :: m2 ∧ t ∉ m1.map Prod.fst ∧ aget t m = some v0 ∧ (∀ v, aput t v m = m1 ++ (t, v) :: m2) ∧ adel t m = m1 ++ m2 ∧ ∀ i, afind t m i = some (i + m1.length, v0)
  | [] => .inl ⟨by simp, rfl, fun _ => rfl, rfl, fun _ => rfl⟩
  | p :: m => by
    by_cases h : t = p.1
    · refine .inr ⟨[], p.2, m, ?_, by simp, ?_, fun v => ?_, ?_, fun i => ?_⟩
      · rw [h]; rfl
      · rw [aget, if_pos h]
      · rw [aput, if_pos h]; rfl
      · rw [adel, if_pos h]; rfl
      · rw [afind, if_pos h]; simp
    · rcases asplit t m with ⟨h1, h2, h3, h4, h5⟩ | ⟨m1, v0, m2, h0, h1, h2, h3, h4, h5⟩
      · refine .inl ⟨?_, ?_, fun v => ?_, ?_, fun i => ?_⟩
        · rw [List.map_cons, List.mem_cons]; rintro (e | e)
          · exact h e
          · exact h1 e
        · rw [aget, if_neg h, h2]
        · rw [aput, if_neg h, h3]; rfl
        · rw [adel, if_neg h, h4]
        · rw [afind, if_neg h, h5]
      · refine .inr ⟨p :: m1, v0, m2, ?_, ?_, ?_, fun v => ?_, ?_, fun i => ?_⟩
        · rw [h0]; rfl
        · rw [List.map_cons, List.mem_cons]; rintro (e | e)
          · exact h e
          · exact h1 e
        · rw [aget, if_neg h, h2]
        · rw [aput, if_neg h, h3]; rfl
        · rw [adel, if_neg h, h4]; rfl
        · rw [afind, if_neg h, h5, List.length_cons]; congr 2; omega
theorem aget_none {t : κ} {m : List (κ × β)} : aget t m = none ↔ t ∉ m.map Prod.fst := by
  rcases asplit t m with ⟨h1, h2, _⟩ | ⟨m1, v0, m2, h0, h1, h2, _⟩
  · exact ⟨fun _ => h1, fun _ => h2⟩
  · rw [h2]
    refine ⟨fun h => (Option.some_ne_none _ h).elim, fun h => absurd ?_ h⟩
    rw [h0]; simp
theorem aget_mem {t : κ} {v : β} {m : List (κ × β)} (h : aget t m = some v) : (t, v) ∈ m := by
  rcases asplit t m with ⟨_, h2, _⟩ | ⟨m1, v0, m2, h0, h1, h2, _⟩
  · rw [h2] at h; cases h
  · rw [h2] at h; injection h with h; subst h; rw [h0]; simp
theorem aget_of_mem {t : κ} {v : β} {m : List (κ × β)} (hn : (m.map Prod.fst).Nodup) (h : (t, v) ∈ m) : aget t m = some v := by
  rcases asplit t m with ⟨h1, _⟩ | ⟨m1, v0, m2, h0, h1, h2, _⟩
  · exact absurd (List.mem_map_of_mem (f := Prod.fst) h) h1
  · rw [h2]
    subst h0
    rw [List.map_append, List.map_cons, List.nodup_append] at hn
    obtain ⟨_, h4, _⟩ := hn
    rw [List.nodup_cons] at h4
    rw [List.mem_append, List.mem_cons] at h
    rcases h with h | h | h
    · exact absurd (List.mem_map_of_mem (f := Prod.fst) h) h1
    · injection h with _ h; rw [h]
    · exact absurd (List.mem_map_of_mem (f := Prod.fst) h) h4.1
theorem aput_keys (t : κ) (v : β) (m : List (κ × β)) : (aput t v m).map Prod.fst = if t ∈ m.map Prod.fst then m.map Prod.fst else m.map Prod.fst ++ [t] := by
  rcases asplit t m with ⟨h1, h2, h3, _⟩ | ⟨m1, v0, m2, h0, h1, h2, h3, _⟩
  · rw [if_neg h1, h3]; simp
  · rw [if_pos (by rw [h0]; simp), h3, h0]; simp
theorem aput_nodup {t : κ} {v : β} {m : List (κ × β)} (hn : (m.map Prod.fst).Nodup) : ((aput t v m).map Prod.fst).Nodup := by
  rw [aput_keys]
  split
  · exact hn
  · rename_i hq
    rw [List.nodup_append]
    refine ⟨hn, by simp, ?_⟩
    intro a ha b hb
    simp only [List.mem_singleton] at hb
    rintro rfl
    exact hq (hb ▸ ha)
theorem aget_cons (t : κ) (p : κ × β) (m : List (κ × β)) : aget t (p :: m) = if t = p.1 then some p.2 else aget t m := rfl
theorem aget_aput (t u : κ) (v : β) : ∀ m : List (κ × β), aget u (aput t v m) = if u = t then some v else aget u m
  | [] => by rw [aput, aget_cons]
  | p :: m => by
    rw [aput]
    by_cases h : t = p.1
    · rw [if_pos h, aget_cons, aget_cons]
      by_cases h2 : u = t
      · rw [if_pos h2, if_pos h2]
      · rw [if_neg h2, if_neg h2, if_neg (fun e => h2 (e.trans h.symm))]
    · rw [if_neg h, aget_cons, aget_cons, aget_aput t u v m]
      by_cases h2 : u = p.1
      · rw [if_pos h2, if_neg (fun e => h (e.symm.trans h2)), if_pos h2]
      · rw [if_neg h2, if_neg h2]
end

/-! ### the model's maps -/
def ent (e : MapEntry) : Value × Value := (e.key, e.val)
def prG {κ : Type} (ke : κ → Value) (p : κ × Value) : Value × Value := (ke p.1, p.2)

/-- What the model does with keys of a kind. -/
structure KeyLaw (P : Program) (kt : TypeId) (κ : Type) [DecidableEq κ] (ke : κ → Value) : Prop where
  inj : ∀ {a b : κ}, ke a = ke b → a = b
  check : ∀ (em : Bool) (t : κ) (w : World), (Instr.checkKey em 10000 kt (ke t)).run P w = .ok () w
  find : ∀ (t : κ) (w : World) (es : List MapEntry) (m : List (κ × Value)), es.map ent = m.map (prG ke) → (Instr.findKey kt (ke t) es).run P w = .ok (afind t m 0) w
  same : ∀ t : κ, Instr.sameBits 10000 (ke t) (ke t) = true

/-- Block b of w is a map that holds m. -/
def GMap {κ : Type} (ke : κ → Value) (w : World) (b : Nat) (m : List (κ × Value)) : Prop :=
  ∃ es clock, w.heap[b]? = some (.map es clock) ∧ es.toList.map ent = m.map (prG ke) ∧ (es.toList.map (·.born)).Nodup ∧ (∀ e ∈ es.toList, e.born < clock) ∧ (m.map Prod.fst).Nodup
/-- .. in which the entry of t bears a stamp. -/
def GEnt {κ : Type} (ke : κ → Value) (w : World) (b : Nat) (m : List (κ × Value)) (t : κ) (s : Int) : Prop :=
  ∃ es clock, w.heap[b]? = some (.map es clock) ∧ es.toList.map ent = m.map (prG ke) ∧ (es.toList.map (·.born)).Nodup ∧ (∀ e ∈ es.toList, e.born < clock) ∧ (m.map Prod.fst).Nodup ∧ ∃ e ∈ es.toList, e.key = ke t ∧ (e.born : Int) = s

section
variable {κ : Type} {ke : κ → Value} {w w' : World} {b : Nat} {m : List (κ × Value)}
theorem GMap.made (w : World) : GMap ke (w.alloc (.map #[] 0)) w.heap.size [] := ⟨#[], 0, blk_new _ _, rfl, by simp, by simp, by simp⟩
theorem GMap.lt (h : GMap ke w b m) : b < w.heap.size := by
  obtain ⟨es, clock, hb, _⟩ := h
  exact (Array.getElem?_eq_some_iff.1 hb).1
theorem GMap.nodup (h : GMap ke w b m) : (m.map Prod.fst).Nodup := by
  obtain ⟨es, clock, _, _, _, _, hn⟩ := h
  exact hn
theorem GMap.kept (h : GMap ke w b m) (hb : w'.heap[b]? = w.heap[b]?) : GMap ke w' b m := by
  obtain ⟨es, clock, h1, h2⟩ := h
  exact ⟨es, clock, hb.trans h1, h2⟩
theorem GMap.alloc (h : GMap ke w b m) (o : Obj) : GMap ke (w.alloc o) b m := h.kept (Below.heap_alloc _ _ _ h.lt)
theorem GMap.drew (h : GMap ke w b m) : GMap ke w.drew b m := h.kept rfl
theorem GMap.grown {row : Option Nat} (h : GMap ke w b m) (hg : w.grownBy w' row) (hr : some b ≠ row) : GMap ke w' b m := h.kept (hg.block b h.lt hr)
theorem GMap.no_cells (h : GMap ke w b m) : ∀ cs q fr, w.heap[b]? ≠ some (.cells cs q fr) := by
  obtain ⟨es, clock, h1, _⟩ := h
  intro _ _ _ e
  rw [h1] at e; cases e
theorem GMap.setCell (h : GMap ke w b m) (a : Addr) (u : Value) (ha : b ≠ a.block) : GMap ke (w.setCell a u) b m := h.kept (Below.heap_setCell _ _ _ _ ha)
theorem GEnt.kept {t : κ} {s : Int} (h : GEnt ke w b m t s) (hb : w'.heap[b]? = w.heap[b]?) : GEnt ke w' b m t s := by
  obtain ⟨es, clock, h1, h2⟩ := h
  exact ⟨es, clock, hb.trans h1, h2⟩
theorem GEnt.toMap {t : κ} {s : Int} (h : GEnt ke w b m t s) : GMap ke w b m := by
  obtain ⟨es, clock, h1, h2, h3, h4, h5, _⟩ := h
  exact ⟨es, clock, h1, h2, h3, h4, h5⟩
theorem grown_setBlock' {es : Array MapEntry} {c : Nat} (_ : w.heap[b]? = some (.map es c)) (o : Obj) : w.grownBy (setBlock w b o) (some b) :=
  ⟨rfl, rfl, rfl, by simp [setBlock], fun k _ hk => by
    have : b ≠ k := fun e => hk (by rw [e])
    simp [setBlock, this]⟩
end

section
variable {κ : Type} [DecidableEq κ] {ke : κ → Value} {P : Program} {mt kt et : TypeId}
theorem setObj_map' {w : World} {b : Nat} {es : Array MapEntry} {c : Nat} (hb : w.heap[b]? = some (.map es c)) (o : Obj) : (setObj b o).run P w = .ok () (setBlock w b o) := by
  simp [setObj, Sem.run, hb, setBlock]
theorem look1 (K : KeyLaw P kt κ ke) (ht : P.underlying mt = some (.map kt et)) {z : Value} (hz : ∀ w, (zeroValue et).run P w = .ok z w) {w : World} {b : Nat} {m : List (κ × Value)} (h : GMap ke w b m) (t : κ) :
    Sem.run P (Instr.lookup mt (.map (some b)) (ke t) false) w = .ok ((aget t m).getD z) w := by
  obtain ⟨es, clock, hb, hm, _⟩ := h
  have hc := K.check es.isEmpty t w
  have hf := K.find t w es.toList m hm
  have hg : (getObj b).run P w = .ok (.map es clock) w := by simp [getObj, Sem.run, hb]
  unfold Instr.lookup
  simp only [Sem.run_bind, run_underlying ht, Result.andThen, hg]
  rcases asplit t m with ⟨_, h2, _, _, h5⟩ | ⟨m1, v0, m2, _, _, h2, _, _, h5⟩
  · rw [h5] at hf
    simp [hc, hf, hz, h2]
  · rw [h5] at hf
    simp [hc, hf, h2]
omit [DecidableEq κ] in
/-- Where an entry stands. -/
theorem es_split {ke : κ → Value} {es : List MapEntry} {m1 m2 : List (κ × Value)} {t : κ} {v0 : Value} (hm : es.map ent = (m1 ++ (t, v0) :: m2).map (prG ke)) :
    ∃ e1 e e2, es = e1 ++ e :: e2 ∧ e1.map ent = m1.map (prG ke) ∧ e.key = ke t ∧ e.val = v0 ∧ e2.map ent = m2.map (prG ke) ∧ e1.length = m1.length := by
  rw [List.map_append, List.map_cons] at hm
  obtain ⟨e1, r, rfl, h1, h2⟩ := List.map_eq_append_iff.1 hm
  obtain ⟨e, e2, rfl, h3, h4⟩ := List.map_eq_cons_iff.1 h2
  refine ⟨e1, e, e2, rfl, h1, congrArg Prod.fst h3, congrArg Prod.snd h3, h4, ?_⟩
  have := congrArg List.length h1
  simpa using this
theorem modify_at (e1 e2 : List MapEntry) (e : MapEntry) (f : MapEntry → MapEntry) : ((e1 ++ e :: e2).toArray.modify e1.length f).toList = e1 ++ f e :: e2 := by
  apply List.ext_getElem?
  intro j
  rw [Array.getElem?_toList, Array.getElem?_modify]
  simp only [List.getElem?_toArray]
  by_cases h : e1.length = j
  · subst h; simp
  · rw [if_neg h]
    rcases Nat.lt_or_gt_of_ne h with h | h
    · obtain ⟨d, rfl⟩ : ∃ d, j = e1.length + 1 + d := ⟨j - (e1.length + 1), by omega⟩
      rw [List.getElem?_append_right (by omega), List.getElem?_append_right (by omega), show e1.length + 1 + d - e1.length = d + 1 by omega]
      simp
    · rw [List.getElem?_append_left h, List.getElem?_append_left h]
theorem stays (K : KeyLaw P kt κ ke) (e1 e2 : List MapEntry) (e : MapEntry) (t : κ) (he : e.key = ke t) (w : World) :
    (Instr.keyThatStays ((((e1 ++ e :: e2).toArray[e1.length]?).map (·.key)).getD (ke t)) (ke t)).run P w = .ok (ke t) w := by
  have : (((e1 ++ e :: e2).toArray[e1.length]?).map (·.key)).getD (ke t) = ke t := by simp [he]
  rw [this]
  simp [Instr.keyThatStays, K.same]
theorem g_put (K : KeyLaw P kt κ ke) (ht : P.underlying mt = some (.map kt et)) {w : World} {b : Nat} {m : List (κ × Value)} (h : GMap ke w b m) (t : κ) (v : Value) :
    ∃ w', Sem.run P (Instr.mapUpdate mt (.map (some b)) (ke t) v) w = .ok () w' ∧ GMap ke w' b (aput t v m) ∧ w.grownBy w' (some b) := by
  obtain ⟨es, clock, hb, hm, hn, hl, hk⟩ := h
  have hc := K.check false t w
  have hf := K.find t w es.toList m hm
  have hg : (getObj b).run P w = .ok (.map es clock) w := by simp [getObj, Sem.run, hb]
  rcases asplit t m with ⟨h1, h2, h3, h4, h5⟩ | ⟨m1, v0, m2, rfl, h1, h2, h3, h4, h5⟩
  · rw [h5] at hf
    refine ⟨setBlock w b (.map (es.push ⟨ke t, v, clock⟩) (clock + 1)), ?_, ⟨_, _, ChangeMaps.heap_setBlock_same hb _, ?_, ?_, ?_, aput_nodup hk⟩, grown_setBlock' hb _⟩
    · unfold Instr.mapUpdate
      simp only [Sem.run_bind, run_underlying ht, Result.andThen, hg, hc, hf, setObj_map' hb]
    · rw [h3]; simp [hm, ent, prG]
    · simp only [Array.toList_push, List.map_append, List.map_cons, List.map_nil]
      rw [List.nodup_append]
      refine ⟨hn, by simp, ?_⟩
      intro x hx y hy
      obtain ⟨e, he, rfl⟩ := List.mem_map.1 hx
      have := hl e he
      simp at hy
      omega
    · intro e he
      simp only [Array.toList_push, List.mem_append, List.mem_singleton] at he
      rcases he with he | rfl
      · have := hl e he; omega
      · show clock < clock + 1; omega
  · rw [h5, Nat.zero_add] at hf
    obtain ⟨e1, e, e2, hes, q1, q2, q3, q4, q5⟩ := es_split hm
    obtain rfl : es = (e1 ++ e :: e2).toArray := by rw [← hes]
    rw [← q5] at hf
    have hst := stays K e1 e2 e t q2 w
    have hmo := modify_at e1 e2 e (fun e => { e with key := ke t, val := v })
    refine ⟨setBlock w b (.map ((e1 ++ e :: e2).toArray.modify e1.length fun e => { e with key := ke t, val := v }) clock), ?_, ⟨_, _, ChangeMaps.heap_setBlock_same hb _, ?_, ?_, ?_, aput_nodup hk⟩, grown_setBlock' hb _⟩
    · unfold Instr.mapUpdate
      simp only [Sem.run_bind, run_underlying ht, Result.andThen, hg, hc, hf, hst, setObj_map' hb]
    · rw [hmo, h3, List.map_append, List.map_cons, List.map_append, List.map_cons, q1, q4]; rfl
    · rw [hmo]
      simpa using hn
    · intro x hx
      rw [hmo, List.mem_append, List.mem_cons] at hx
      rcases hx with hx | rfl | hx
      · exact hl x (by simp [hx])
      · exact hl e (by simp)
      · exact hl x (by simp [hx])
theorem g_entry (K : KeyLaw P kt κ ke) (ht : P.underlying mt = some (.map kt et)) {z : Value} (hz : ∀ w, (zeroValue et).run P w = .ok z w) {w : World} {b : Nat} {m : List (κ × Value)} (h : GMap ke w b m) (t : κ) :
    ∃ s w', Sem.run P (Instr.mapEntry mt (.map (some b)) (ke t)) w = .ok (.tuple #[(aget t m).getD z, .int .i64 s]) w' ∧ GEnt ke w' b (aput t ((aget t m).getD z) m) t s ∧ w.grownBy w' (some b) := by
  obtain ⟨es, clock, hb, hm, hn, hl, hk⟩ := h
  have hc := K.check false t w
  have hf := K.find t w es.toList m hm
  have hg : (getObj b).run P w = .ok (.map es clock) w := by simp [getObj, Sem.run, hb]
  rcases asplit t m with ⟨h1, h2, h3, h4, h5⟩ | ⟨m1, v0, m2, rfl, h1, h2, h3, h4, h5⟩
  · rw [h5] at hf
    rw [h2, Option.getD_none]
    refine ⟨clock, setBlock w b (.map (es.push ⟨ke t, z, clock⟩) (clock + 1)), ?_, ⟨_, _, ChangeMaps.heap_setBlock_same hb _, ?_, ?_, ?_, aput_nodup hk, ⟨ke t, z, clock⟩, by simp, rfl, rfl⟩, grown_setBlock' hb _⟩
    · unfold Instr.mapEntry
      simp only [Sem.run_bind, run_underlying ht, Result.andThen, hg, hc, hf, hz, setObj_map' hb]
      rfl
    · rw [h3]; simp [hm, ent, prG]
    · simp only [Array.toList_push, List.map_append, List.map_cons, List.map_nil]
      rw [List.nodup_append]
      refine ⟨hn, by simp, ?_⟩
      intro x hx y hy
      obtain ⟨e, he, rfl⟩ := List.mem_map.1 hx
      have := hl e he
      simp at hy
      omega
    · intro e he
      simp only [Array.toList_push, List.mem_append, List.mem_singleton] at he
      rcases he with he | rfl
      · have := hl e he; omega
      · show clock < clock + 1; omega
  · rw [h5, Nat.zero_add] at hf
    obtain ⟨e1, e, e2, hes, q1, q2, q3, q4, q5⟩ := es_split hm
    obtain rfl : es = (e1 ++ e :: e2).toArray := by rw [← hes]
    rw [← q5] at hf
    have hst := stays K e1 e2 e t q2 w
    have hmo := modify_at e1 e2 e (fun e => { e with key := ke t })
    rw [h2, Option.getD_some]
    refine ⟨e.born, setBlock w b (.map ((e1 ++ e :: e2).toArray.modify e1.length fun e => { e with key := ke t }) clock), ?_, ⟨_, _, ChangeMaps.heap_setBlock_same hb _, ?_, ?_, ?_, aput_nodup hk, { e with key := ke t }, by rw [hmo]; simp, rfl, rfl⟩, grown_setBlock' hb _⟩
    · unfold Instr.mapEntry
      simp only [Sem.run_bind, run_underlying ht, Result.andThen, hg, hc, hf, hst, setObj_map' hb]
      simp [goInt]
    · rw [hmo, h3, List.map_append, List.map_cons, List.map_append, List.map_cons, q1, q4]
      have : ent { e with key := ke t } = prG ke (t, v0) := by unfold ent prG; simp [q3]
      rw [this]
    · rw [hmo]
      simpa using hn
    · intro x hx
      rw [hmo, List.mem_append, List.mem_cons] at hx
      rcases hx with hx | rfl | hx
      · exact hl x (by simp [hx])
      · exact hl e (by simp)
      · exact hl x (by simp [hx])
theorem born_unlike {e1 e2 : List MapEntry} {e : MapEntry} (hn : ((e1 ++ e :: e2).map (·.born)).Nodup) : ∀ x ∈ e1, x.born ≠ e.born := by
  intro x hx h
  rw [List.map_append, List.nodup_append] at hn
  exact hn.2.2 x.born (List.mem_map_of_mem hx) e.born (by simp) h
theorem findIdx_at (e1 e2 : List MapEntry) (e : MapEntry) (hn : ∀ x ∈ e1, x.born ≠ e.born) : (e1 ++ e :: e2).toArray.findIdx? (fun x => (x.born : Int) == (e.born : Int)) = some e1.length := by
  rw [List.findIdx?_toArray, List.findIdx?_append]
  have h1 : List.findIdx? (fun x : MapEntry => (x.born : Int) == (e.born : Int)) e1 = none := by
    rw [List.findIdx?_eq_none_iff]
    intro x hx
    have := hn x hx
    simp; omega
  rw [h1, List.findIdx?_cons]
  simp
theorem g_store {w : World} (K : KeyLaw P kt κ ke) {b : Nat} {m : List (κ × Value)} {t : κ} {s : Int} (h : GEnt ke w b m t s) (v : Value) :
    ∃ w', Sem.run P (Instr.entryStore mt (.map (some b)) (.int .i64 s) v) w = .ok () w' ∧ GMap ke w' b (aput t v m) ∧ w.grownBy w' (some b) := by
  obtain ⟨es, clock, hb, hm, hn, hl, hk, e, he, hkey, rfl⟩ := h
  have hg : (getObj b).run P w = .ok (.map es clock) w := by simp [getObj, Sem.run, hb]
  rcases asplit t m with ⟨h1, _⟩ | ⟨m1, v0, m2, rfl, h1, h2, h3, h4, h5⟩
  · exfalso
    have : ent e ∈ m.map (prG ke) := by rw [← hm]; exact List.mem_map_of_mem he
    obtain ⟨p, hp, hp2⟩ := List.mem_map.1 this
    have h6 : ke p.1 = ke t := (congrArg Prod.fst hp2).trans hkey
    exact h1 (K.inj h6 ▸ List.mem_map_of_mem hp)
  · obtain ⟨e1, e', e2, hes, q1, q2, q3, q4, q5⟩ := es_split hm
    obtain rfl : es = (e1 ++ e' :: e2).toArray := by rw [← hes]
    obtain rfl : e = e' := by
      have hk2 : ((e1 ++ e' :: e2).map (·.key)).Nodup := by
        have h7 : (e1 ++ e' :: e2).map (·.key) = ((m1 ++ (t, v0) :: m2).map Prod.fst).map ke := by
          have := congrArg (List.map Prod.fst) hm
          simpa [List.map_map, ent, prG, Function.comp_def] using this
        rw [h7]
        exact List.Pairwise.map _ (fun a b h e => h (K.inj e)) hk
      have he2 : e ∈ e1 ++ e' :: e2 := by simpa using he
      rw [List.mem_append, List.mem_cons] at he2
      rw [List.map_append, List.map_cons, List.nodup_append, List.nodup_cons] at hk2
      rcases he2 with h | h | h
      · exact absurd (hkey.trans q2.symm) (hk2.2.2 e.key (List.mem_map_of_mem h) e'.key (by simp))
      · exact h
      · exact absurd (by rw [q2, ← hkey]; exact List.mem_map_of_mem h) hk2.2.1.1
    have hun := born_unlike (by simpa using hn)
    have hmo := modify_at e1 e2 e (fun e => { e with val := v })
    refine ⟨setBlock w b (.map ((e1 ++ e :: e2).toArray.modify e1.length fun e => { e with val := v }) clock), ?_, ⟨_, _, ChangeMaps.heap_setBlock_same hb _, ?_, ?_, ?_, aput_nodup hk⟩, grown_setBlock' hb _⟩
    · unfold Instr.entryStore
      have ha : (asInt (.int .i64 (e.born : Int))).run P w = .ok (e.born : Int) w := by simp [asInt, asIntOf]
      simp only [Sem.run_bind, Result.andThen, hg, ha, findIdx_at e1 e2 e hun, setObj_map' hb]
    · rw [hmo, h3, List.map_append, List.map_cons, List.map_append, List.map_cons, q1, q4]
      have : ent { e with val := v } = prG ke (t, v) := by unfold ent prG; simp [q2]
      rw [this]
    · rw [hmo]
      simpa using hn
    · intro x hx
      rw [hmo, List.mem_append, List.mem_cons] at hx
      rcases hx with hx | rfl | hx
      · exact hl x (by simp [hx])
      · exact hl e (by simp)
      · exact hl x (by simp [hx])
end
end Go.Proofs.YtelmbimmkdobaaaDoor.Pr

namespace Go.Proofs.YtelmbimmkdobaaaDoor.Pr
open Go.Shelf Go.RowKit Go.Lib Go.Sort Go.Proofs.YtelmbimmkdobaaaDoor
open Go.Proofs.YtelmbimmkdobaaaDoorW.PrintWords Go.Proofs.YtelmbimmkdobaaaDoorW.PrintLast Go.Proofs.YtelmbimmkdobaaaDoorW.PrintMore
open Go.ChangeMaps (setBlock)

def kv (t : T) : Value := .agg #[.string t.f0, .string t.f1, .string t.f2]
def kp (p : ByteArray × ByteArray) : Value := .agg #[.string p.1, .string p.2]
theorem beq_bytes (a b : ByteArray) : (a == b) = decide (a = b) := by rw [beq_toListBytes]; exact bl_beq a b
theorem same_string (n : Nat) (s : ByteArray) : Instr.sameBits n (.string s) (.string s) = true := by
  have h1 : (s == s) = true := by rw [beq_bytes]; simp
  cases n <;> simp [Instr.sameBits, h1]
theorem check_string (em : Bool) (n : Nat) (s : ByteArray) (w : World) : (Instr.checkKey em (n + 1) 9 (.string s)).run Tryd.prog w = .ok () w := by
  simp [Instr.checkKey, run_underlying Tryd.underlying9]

section
variable {κ : Type} [DecidableEq κ] {ke : κ → Value} {kt : TypeId}
theorem asking_of (he : ∀ (a b : κ) (w : World), (Op.equal kt (ke a) (ke b)).run Tryd.prog w = .ok (decide (a = b)) w) (t : κ) (w : World) : ∀ (es : List MapEntry) (m : List (κ × Value)) (i : Nat), es.map ent = m.map (prG ke) → (Instr.findAsking kt (ke t) es i).run Tryd.prog w = .ok (afind t m i) w
  | [], [], i, _ => by simp [Instr.findAsking, afind]
  | [], _ :: _, _, h => by simp at h
  | _ :: _, [], _, h => by simp at h
  | e :: es, p :: m, i, h => by
    rw [List.map_cons, List.map_cons] at h
    obtain ⟨h1, h2⟩ := List.cons.inj h
    have hk : e.key = ke p.1 := congrArg Prod.fst h1
    have hv : e.val = p.2 := congrArg Prod.snd h1
    have ih := asking_of he t w es m (i + 1) h2
    have he := he t p.1 w
    rw [Instr.findAsking, hk, afind]
    by_cases hq : t = p.1
    · rw [decide_eq_true hq] at he
      rw [if_pos hq]
      simp [Sem.run_bind, he, Result.andThen, hv]
    · rw [decide_eq_false hq] at he
      rw [if_neg hq]
      simp [Sem.run_bind, he, Result.andThen, ih]
theorem find_of {d : TypeDesc} (hd : Tryd.prog.underlying kt = some d) (hs : ∀ (t : κ) (k : Value), Instr.sameNow d (ke t) k = none) (he : ∀ (a b : κ) (w : World), (Op.equal kt (ke a) (ke b)).run Tryd.prog w = .ok (decide (a = b)) w)
    (t : κ) (w : World) (es : List MapEntry) (m : List (κ × Value)) (h : es.map ent = m.map (prG ke)) : (Instr.findKey kt (ke t) es).run Tryd.prog w = .ok (afind t m 0) w := by
  have ha := asking_of he t w es m 0 h
  cases es with
  | nil =>
    cases m with
    | nil => simp [Instr.findKey, Instr.findNow, run_underlying hd, afind]
    | cons p m => simp at h
  | cons e es =>
    unfold Instr.findKey
    simp only [Sem.run_bind, run_underlying hd, Result.andThen]
    simp only [Instr.findNow, hs]
    exact ha
end

theorem equal_T (a b : T) (w : World) : (Op.equal 27 (kv a) (kv b)).run Tryd.prog w = .ok (decide (a = b)) w := by
  unfold kv
  simp only [Op.equal, Op.maxDepth]
  rw [show (10000 : Nat) = 9998 + 2 from rfl, eqA27, eqx_T]
theorem keyT : KeyLaw Tryd.prog 27 T kv where
  inj := by
    intro a b h
    obtain ⟨a0, a1, a2⟩ := a
    obtain ⟨b0, b1, b2⟩ := b
    simp [kv] at h
    simp [h]
  check := by
    intro em t w
    have hs := check_string em
    rw [show (10000 : Nat) = 9998 + 1 + 1 from rfl]
    unfold kv
    rw [Instr.checkKey]
    go_simp
  find := find_of Tryd.underlying27 (fun t k => by simp [Instr.sameNow]) equal_T
  same := by
    intro t
    unfold kv
    rw [show (10000 : Nat) = 9999 + 1 from rfl, Instr.sameBits]
    simp [same_string]

theorem findNow_string (t : ByteArray) : ∀ (es : List MapEntry) (m : List (ByteArray × Value)) (i : Nat), es.map ent = m.map (prG Value.string) → Instr.findNow .string (.string t) es i = some (afind t m i)
  | [], [], i, _ => by simp [Instr.findNow, afind]
  | [], _ :: _, _, h => by simp at h
  | _ :: _, [], _, h => by simp at h
  | e :: es, p :: m, i, h => by
    rw [List.map_cons, List.map_cons] at h
    obtain ⟨h1, h2⟩ := List.cons.inj h
    have hk : e.key = .string p.1 := congrArg Prod.fst h1
    have hv : e.val = p.2 := congrArg Prod.snd h1
    have ih := findNow_string t es m (i + 1) h2
    rw [Instr.findNow, hk, afind, Instr.sameNow, beq_bytes]
    by_cases hq : t = p.1
    · rw [decide_eq_true hq, if_pos hq, hv]
    · rw [decide_eq_false hq, if_neg hq]
      exact ih
theorem keyS : KeyLaw Tryd.prog 9 ByteArray Value.string where
  inj := by intro a b h; injection h
  check := by intro em t w; rw [show (10000 : Nat) = 9999 + 1 from rfl]; exact check_string em _ t w
  find := by
    intro t w es m h
    have hf := findNow_string t es m 0 h
    simp only [Instr.findKey, Sem.run_bind, run_underlying Tryd.underlying9, Result.andThen, hf, Sem.run_pure]
  same := by intro t; exact same_string _ t

theorem eqs_string (d : Nat) (a b : ByteArray) (w : World) : (Op.equalIn (d + 1) 9 (.string a) (.string b)).run Tryd.prog w = .ok (decide (a = b)) w := by
  simp [Op.equalIn, Sem.run_bind, run_underlying Tryd.underlying9, beq_bytes]
theorem equal_P (a b : ByteArray × ByteArray) (w : World) : (Op.equal 48 (kp a) (kp b)).run Tryd.prog w = .ok (decide (a = b)) w := by
  unfold kp
  simp only [Op.equal, Op.maxDepth]
  obtain ⟨i0, hi⟩ : ∃ i, Tryd.prog.info? 9 = some i := by
    have h : (Tryd.prog.info? 9).isSome = true := by kernel_rfl
    exact Option.isSome_iff_exists.1 h
  have hc : Tryd.prog.cellsOf 9 = 1 := by kernel_rfl
  have hr := fun (xs ys : Array Value) => run_equalIn_array (P := Tryd.prog) (w := w) (9998 + 1) xs ys Tryd.underlying48 hi
  rw [show (10000 : Nat) = 9998 + 1 + 1 from rfl, hr, hc]
  have p0 : ∀ (x y : ByteArray) (w : World), (part 9 #[.string x, .string y] (0 * 1)).run Tryd.prog w = .ok (.string x) w := fun x y w => by go_simp
  have p1 : ∀ (x y : ByteArray) (w : World), (part 9 #[.string x, .string y] (1 * 1)).run Tryd.prog w = .ok (.string y) w := fun x y w => by go_simp
  rw [show List.range 2 = [0, 1] from rfl]
  simp only [Op.eqItems, Sem.run_bind, p0, Result.andThen_ok, eqs_string]
  obtain ⟨a0, a1⟩ := a
  obtain ⟨b0, b1⟩ := b
  have p1' : ∀ (x y : ByteArray) (w : World), (part 9 #[.string x, .string y] 1).run Tryd.prog w = .ok (.string y) w := p1
  have he : ∀ (x y : ByteArray) (w : World), (Op.equalIn 9999 9 (.string x) (.string y)).run Tryd.prog w = .ok (decide (x = y)) w := fun x y w => eqs_string 9998 x y w
  by_cases h0 : a0 = b0 <;> by_cases h1 : a1 = b1 <;> simp [h0, h1, p1', he]
theorem keyP : KeyLaw Tryd.prog 48 (ByteArray × ByteArray) kp where
  inj := by
    intro a b h
    obtain ⟨a0, a1⟩ := a
    obtain ⟨b0, b1⟩ := b
    simp [kp] at h
    simp [h]
  check := by
    intro em t w
    have hs := check_string em
    rw [show (10000 : Nat) = 9998 + 1 + 1 from rfl]
    unfold kp
    rw [Instr.checkKey]
    have p0 : ∀ (x y : ByteArray) (w : World), (part 9 #[.string x, .string y] (0 * 1)).run Tryd.prog w = .ok (.string x) w := fun x y w => by go_simp
    have p1 : ∀ (x y : ByteArray) (w : World), (part 9 #[.string x, .string y] (1 * 1)).run Tryd.prog w = .ok (.string y) w := fun x y w => by go_simp
    simp only [Sem.run_bind, run_underlying Tryd.underlying48, Result.andThen_ok, Std.Legacy.Range.forIn_eq_forIn_range', Std.Legacy.Range.size, Nat.sub_zero, Nat.add_one_sub_one, Nat.div_one]
    rw [show List.range' 0 2 = [0, 1] from rfl]
    simp only [List.forIn_cons, List.forIn_nil, Sem.run_bind, Tryd.sizeOf9, Result.andThen_ok, p0, p1, hs, Sem.run_pure]
  find := find_of Tryd.underlying48 (fun t k => by simp [Instr.sameNow]) equal_P
  same := by
    intro t
    unfold kp
    rw [show (10000 : Nat) = 9999 + 1 from rfl, Instr.sameBits]
    simp [same_string]

/-! ### a range -/
/-- Block r is an iterator over the map m in block b; the keys of L are still to come. -/
def GRng {κ : Type} (ke : κ → Value) (w : World) (r b : Nat) (m : List (κ × Value)) (L : List κ) : Prop :=
  ∃ es clock since seen c, w.heap[b]? = some (.map es clock) ∧ es.toList.map ent = m.map (prG ke) ∧ (es.toList.map (·.born)).Nodup ∧ (∀ e ∈ es.toList, e.born < clock) ∧ (m.map Prod.fst).Nodup ∧
    w.heap[r]? = some (.mapIter (some b) since seen c) ∧ (∀ e ∈ es.toList, e.born < since) ∧ (since ≤ c ∧ since ≤ clock) ∧ (leftOf es seen).toList.map (·.key) = L.map ke
section
variable {κ : Type} {ke : κ → Value} {w w' : World} {r b : Nat} {m : List (κ × Value)} {L : List κ}
theorem GRng.kept (h : GRng ke w r b m L) (hb : w'.heap[b]? = w.heap[b]?) (hr : w'.heap[r]? = w.heap[r]?) : GRng ke w' r b m L := by
  obtain ⟨es, clock, since, seen, c, h1, h2, h3, h4, h5, h6, h7⟩ := h
  exact ⟨es, clock, since, seen, c, hb.trans h1, h2, h3, h4, h5, hr.trans h6, h7⟩
theorem GRng.toMap (h : GRng ke w r b m L) : GMap ke w b m := by
  obtain ⟨es, clock, since, seen, c, h1, h2, h3, h4, h5, _⟩ := h
  exact ⟨es, clock, h1, h2, h3, h4, h5⟩
theorem GRng.lt (h : GRng ke w r b m L) : r < w.heap.size ∧ b < w.heap.size := by
  obtain ⟨es, clock, since, seen, c, h1, h2, h3, h4, h5, h6, h7⟩ := h
  exact ⟨(Array.getElem?_eq_some_iff.1 h6).1, (Array.getElem?_eq_some_iff.1 h1).1⟩
theorem GRng.ne (h : GRng ke w r b m L) : r ≠ b := by
  obtain ⟨es, clock, since, seen, c, h1, h2, h3, h4, h5, h6, h7⟩ := h
  rintro rfl
  rw [h6] at h1; cases h1
theorem GRng.no_cells (h : GRng ke w r b m L) : ∀ cs q fr, w.heap[r]? ≠ some (.cells cs q fr) := by
  obtain ⟨es, clock, since, seen, c, h1, h2, h3, h4, h5, h6, h7⟩ := h
  intro _ _ _ e
  rw [h6] at e; cases e
theorem GRng.alloc (h : GRng ke w r b m L) (o : Obj) : GRng ke (w.alloc o) r b m L := h.kept (Below.heap_alloc _ _ _ h.lt.2) (Below.heap_alloc _ _ _ h.lt.1)
theorem GRng.grown {row : Option Nat} (h : GRng ke w r b m L) (hg : w.grownBy w' row) (h1 : some b ≠ row) (h2 : some r ≠ row) : GRng ke w' r b m L := h.kept (hg.block b h.lt.2 h1) (hg.block r h.lt.1 h2)
end

theorem ge_split {κ : Type} {ke : κ → Value} {es : List MapEntry} {m : List (κ × Value)} (hm : es.map ent = m.map (prG ke)) {e : MapEntry} (he : e ∈ es) : ∃ p ∈ m, e.key = ke p.1 ∧ e.val = p.2 := by
  have : ent e ∈ m.map (prG ke) := by rw [← hm]; exact List.mem_map_of_mem he
  obtain ⟨p, hp, hp2⟩ := List.mem_map.1 this
  exact ⟨p, hp, (congrArg Prod.fst hp2).symm, (congrArg Prod.snd hp2).symm⟩
theorem left_push' (es : Array MapEntry) (seen : Array Nat) (e : MapEntry) : (leftOf es (seen.push e.born)).toList = (leftOf es seen).toList.filter (fun x => decide (x.born ≠ e.born)) := by
  unfold leftOf
  simp only [Array.toList_filter, List.filter_filter]
  apply List.filter_congr
  intro x _
  by_cases h : x.born = e.born <;> simp [h]
section
variable {κ : Type} [DecidableEq κ] {ke : κ → Value} {mt kt et : TypeId}
omit [DecidableEq κ] in
theorem g_start (ht : Tryd.prog.underlying mt = some (.map kt et)) {w : World} {b : Nat} {m : List (κ × Value)} (h : GMap ke w b m) :
    ∃ o, Sem.run Tryd.prog (Instr.range mt (.map (some b))) w = .ok (.pointer (some ⟨w.heap.size, 0, none⟩)) (w.alloc o) ∧ GRng ke (w.alloc o) w.heap.size b m (m.map Prod.fst) := by
  obtain ⟨es, clock, hb, hm, hn, hl, hk⟩ := h
  refine ⟨.mapIter (some b) clock #[] clock, ?_, es, clock, clock, #[], clock, (Below.heap_alloc _ _ _ (Array.getElem?_eq_some_iff.1 hb).1).trans hb, hm, hn, hl, hk, blk_new _ _, hl, ⟨Nat.le_refl _, Nat.le_refl _⟩, ?_⟩
  · have hg : (getObj b).run Tryd.prog w = .ok (.map es clock) w := by simp [getObj, Sem.run, hb]
    unfold Instr.range
    simp [Sem.run_bind, run_underlying ht, hg, Result.andThen]
  · have : leftOf es #[] = es := by unfold leftOf; simp
    rw [this]
    have h1 := congrArg (List.map Prod.fst) hm
    simpa [List.map_map, ent, prG, Function.comp_def] using h1
theorem g_next (K : KeyLaw Tryd.prog kt κ ke) {w : World} {r b : Nat} {m : List (κ × Value)} {L : List κ} (h : GRng ke w r b m L) :
    (L = [] ∧ ∀ ty, Sem.run Tryd.prog (Instr.next (.pointer (some ⟨r, 0, none⟩)) false ty) w = .ok (.tuple #[.bool false]) w) ∨
    ∃ t v w' L1 L2, L = L1 ++ t :: L2 ∧ aget t m = some v ∧ (∀ ty, Sem.run Tryd.prog (Instr.next (.pointer (some ⟨r, 0, none⟩)) false ty) w = .ok (.tuple #[.bool true, ke t, v]) w') ∧ Sem.run Tryd.prog (Instr.entry (.pointer (some ⟨r, 0, none⟩))) w' = .ok (.tuple #[ke t, v]) w' ∧ GRng ke w' r b m (L1 ++ L2) ∧ w.grownBy w' (some r) := by
  have hne := h.ne
  obtain ⟨es, clock, since, seen, c, hb, hm, hn, hl, hk, hr, hs, ⟨hsc, hsk⟩, hL⟩ := h
  rcases run_next_at (P := Tryd.prog) w 0 r b since c seen es clock hr hb hs hsc with ⟨h0, _⟩ | ⟨_, he0, _⟩
  · left
    have hL0 : L = [] := by
      have h1 := congrArg List.length hL
      simp [h0] at h1
      exact List.eq_nil_of_length_eq_zero h1.symm
    refine ⟨hL0, fun ty => ?_⟩
    rcases run_next_at (P := Tryd.prog) w ty r b since c seen es clock hr hb hs hsc with ⟨_, h1⟩ | ⟨e, he, _⟩
    · exact h1
    · have : (leftOf es seen).toList.length = 0 := by simpa using h0
      rw [List.eq_nil_of_length_eq_zero this] at he
      cases he
  · right
    rcases run_next_at (P := Tryd.prog) w 0 r b since c seen es clock hr hb hs hsc with ⟨h0, _⟩ | ⟨e, he, w1, hw1, hrun⟩
    · have : (leftOf es seen).toList.length = 0 := by simpa using h0
      rw [List.eq_nil_of_length_eq_zero this] at he0
      cases he0
    · have hb1 : w1.heap[b]? = some (.map es clock) := by rcases hw1 with rfl | rfl <;> exact hb
      have hr1 : w1.heap[r]? = some (.mapIter (some b) since seen c) := by rcases hw1 with rfl | rfl <;> exact hr
      have hes : e ∈ es.toList := by
        unfold leftOf at he
        rw [Array.toList_filter] at he
        exact (List.mem_filter.1 he).1
      obtain ⟨p, hp, hkp, hvp⟩ := ge_split hm hes
      obtain ⟨t, v⟩ := p
      dsimp only at hkp hvp
      have hlt : r < w1.heap.size := (Array.getElem?_eq_some_iff.1 hr1).1
      have hb2 : (setBlock w1 r (.mapIter (some b) since (seen.push e.born) clock)).heap[b]? = some (.map es clock) := by
        unfold setBlock
        rw [Array.getElem?_setIfInBounds_ne hne]
        exact hb1
      have hr2 : (setBlock w1 r (.mapIter (some b) since (seen.push e.born) clock)).heap[r]? = some (.mapIter (some b) since (seen.push e.born) clock) := by
        unfold setBlock
        rw [Array.getElem?_setIfInBounds_self_of_lt hlt]
      have hnd : ((leftOf es seen).toList.map (·.born)).Nodup := by
        unfold leftOf
        rw [Array.toList_filter]
        exact hn.sublist (List.filter_sublist.map _)
      obtain ⟨l1, l2, hl12⟩ := List.append_of_mem he
      have hflt : (leftOf es (seen.push e.born)).toList = l1 ++ l2 := by
        rw [left_push', hl12]
        rw [hl12, List.map_append, List.map_cons, List.nodup_append] at hnd
        obtain ⟨_, hn2, hn3⟩ := hnd
        rw [List.nodup_cons] at hn2
        rw [List.filter_append, List.filter_cons_of_neg (by simp)]
        rw [List.filter_eq_self.2, List.filter_eq_self.2]
        · intro x hx
          have : x.born ≠ e.born := fun h => hn2.1 (by rw [← h]; exact List.mem_map_of_mem hx)
          simpa using this
        · intro x hx
          have := hn3 x.born (List.mem_map_of_mem hx) e.born (by simp)
          simpa using this
      rw [hl12, List.map_append, List.map_cons] at hL
      obtain ⟨L1, R, rfl, hL1, hR⟩ := List.map_eq_append_iff.1 hL.symm
      obtain ⟨t', L2, rfl, ht', hL2⟩ := List.map_eq_cons_iff.1 hR
      obtain rfl : t' = t := K.inj (ht'.trans hkp)
      refine ⟨t', v, _, L1, L2, rfl, aget_of_mem hk hp, fun ty => ?_, ?_, ⟨es, clock, since, seen.push e.born, clock, hb2, hm, hn, hl, hk, hr2, hs, ⟨hsk, hsk⟩, ?_⟩, ?_⟩
      · rw [← hkp, ← hvp]; exact hrun
      · rw [← hkp, ← hvp]; exact run_entry_at _ r b since seen es clock e hr2 hb2 hes hn
      · rw [hflt, List.map_append, List.map_append, hL1, hL2]
      · have hg : w.grownBy w1 none := by
          rcases hw1 with rfl | rfl
          · exact World.grownBy.refl _ _
          · exact ⟨rfl, rfl, rfl, Nat.le_refl _, fun _ _ _ => rfl⟩
        refine ⟨hg.os, hg.tape, hg.output, by simpa [setBlock] using hg.size, fun k hk hkr => ?_⟩
        have : r ≠ k := fun e => hkr (by rw [e])
        unfold setBlock
        rw [Array.getElem?_setIfInBounds_ne this]
        exact hg.block k hk (by simp)
end
end Go.Proofs.YtelmbimmkdobaaaDoor.Pr

namespace Go.Proofs.YtelmbimmkdobaaaDoor.Pr
open Go.Shelf Go.RowKit Go.Lib Go.Sort Go.Proofs.YtelmbimmkdobaaaDoor
open Go.Proofs.YtelmbimmkdobaaaDoorW.PrintWords Go.Proofs.YtelmbimmkdobaaaDoorW.PrintLast Go.Proofs.YtelmbimmkdobaaaDoorW.PrintMore

abbrev Sp := Int × Int
def enSp (s : Sp) : List Value := [.int .i64 s.1, .int .i64 s.2]
abbrev PK := ByteArray × ByteArray
abbrev Tag := Nat × Value
abbrev Own := Nat → Option Tag
def nov : Value := .bool false
def nilS : Value := .slice none 0 0
def ownSp (w : World) (v : Value) (l : List Sp) : Prop := w.ownsRow 0 56 2 v l.length (l.flatMap enSp)
def ownTs (w : World) (v : Value) (l : List T) : Prop := w.ownsRow 0 27 3 v l.length (l.flatMap enT)
theorem ownsRow_same {w w' : World} {base : Nat} {e : TypeId} {sz : Nat} {v : Value} {n : Nat} {xs : List Value} (h : w.ownsRow base e sz v n xs) (hb : ∀ b, v.ownBlock = some b → w'.heap[b]? = w.heap[b]?) : w'.ownsRow base e sz v n xs := by
  refine ⟨h.1, ?_⟩
  rcases h.2 with hn | ⟨g, cap, cur, rfl, h1, h2, h3⟩
  · exact .inl hn
  · exact .inr ⟨g, cap, cur, rfl, h1, (hb g rfl).trans h2, h3⟩
theorem ownSp_nil (w : World) : ownSp w nilS [] := World.ownsRow_nil _ _ _ _
theorem ownTs_nil (w : World) : ownTs w nilS [] := World.ownsRow_nil _ _ _ _
theorem ownSp_same {w w' : World} {v : Value} {l : List Sp} (h : ownSp w v l) (hb : ∀ b, v.ownBlock = some b → w'.heap[b]? = w.heap[b]?) : ownSp w' v l := ownsRow_same h hb
theorem ownTs_same {w w' : World} {v : Value} {l : List T} (h : ownTs w v l) (hb : ∀ b, v.ownBlock = some b → w'.heap[b]? = w.heap[b]?) : ownTs w' v l := ownsRow_same h hb
theorem ownB_lt {w : World} {base : Nat} {e : TypeId} {sz : Nat} {v : Value} {n : Nat} {xs : List Value} (h : w.ownsRow base e sz v n xs) {b : Nat} (hb : v.ownBlock = some b) : b < w.heap.size := (h.lt b hb).2

/-! ### lists of rows by a key -/
section
variable {κ β : Type} [DecidableEq κ]
def getL (k : κ) (m : List (κ × List β)) : List β := (aget k m).getD []
/-- The values v are slices that own the lists of m. -/
def Rep (own : World → Value → List β → Prop) (w : World) (m : List (κ × List β)) (v : List (κ × Value)) : Prop :=
  v.map Prod.fst = m.map Prod.fst ∧ ∀ t l x, aget t m = some l → aget t v = some x → own w x l
variable {own : World → Value → List β → Prop} {w w' : World} {m : List (κ × List β)} {v : List (κ × Value)}
theorem Rep.none_iff (h : Rep own w m v) (t : κ) : aget t v = none ↔ aget t m = none := by rw [aget_none, aget_none, h.1]
theorem Rep.get (h : Rep own w m v) (h0 : own w nilS []) (t : κ) : own w ((aget t v).getD nilS) (getL t m) := by
  unfold getL
  cases hv : aget t v with
  | none => rw [(h.none_iff t).1 hv]; exact h0
  | some x =>
    cases hm : aget t m with
    | none => rw [(h.none_iff t).2 hm] at hv; cases hv
    | some l => exact h.2 t l x hm hv
theorem Rep.put (h : Rep own w m v) {t : κ} {l : List β} {x : Value} (hx : own w x l) : Rep own w (aput t l m) (aput t x v) := by
  refine ⟨by rw [aput_keys, aput_keys, h.1], fun u l' x' h1 h2 => ?_⟩
  rw [aget_aput] at h1 h2
  by_cases e : u = t
  · rw [if_pos e] at h1 h2
    injection h1 with h1
    injection h2 with h2
    subst h1; subst h2; exact hx
  · rw [if_neg e] at h1 h2
    exact h.2 u l' x' h1 h2
theorem Rep.kept (h : Rep own w m v) (hk : ∀ t l x, aget t v = some x → own w x l → own w' x l) : Rep own w' m v := ⟨h.1, fun t l x h1 h2 => hk t l x h2 (h.2 t l x h1 h2)⟩
theorem Rep.nil : Rep own w ([] : List (κ × List β)) [] := ⟨rfl, fun t l x h _ => by cases h⟩
end

/-! ### who owns what -/
/-- From o, w to o', w': what bears no tag of the kinds c to d is as it was, new blocks that bear a tag bear one of these kinds. -/
structure Moves (c d : Nat) (o o' : Own) (w w' : World) : Prop where
  os : w'.os = w.os
  tape : w'.tape = w.tape
  output : w'.output = w.output
  size : w.heap.size ≤ w'.heap.size
  block : ∀ b, b < w.heap.size → (∀ g, o b = some g → ¬ (c ≤ g.1 ∧ g.1 ≤ d)) → w'.heap[b]? = w.heap[b]?
  same : ∀ b, b < w.heap.size → o' b = o b
  news : ∀ b g, w.heap.size ≤ b → o' b = some g → c ≤ g.1 ∧ g.1 ≤ d
/-- A block that bears a tag is there. -/
def Lives (o : Own) (w : World) : Prop := ∀ b g, o b = some g → b < w.heap.size
theorem Moves.refl (c d : Nat) {o : Own} {w : World} (hl : Lives o w) : Moves c d o o w w := ⟨rfl, rfl, rfl, Nat.le_refl _, fun _ _ _ => rfl, fun _ _ => rfl, fun b g hb hg => absurd (hl b g hg) (by omega)⟩
theorem Moves.trans {c d : Nat} {o o1 o2 : Own} {w w1 w2 : World} (h : Moves c d o o1 w w1) (k : Moves c d o1 o2 w1 w2) : Moves c d o o2 w w2 :=
  ⟨k.os.trans h.os, k.tape.trans h.tape, k.output.trans h.output, Nat.le_trans h.size k.size,
    fun b hb hg => (k.block b (Nat.lt_of_lt_of_le hb h.size) (fun g hg' => hg g (by rw [← h.same b hb]; exact hg'))).trans (h.block b hb hg),
    fun b hb => (k.same b (Nat.lt_of_lt_of_le hb h.size)).trans (h.same b hb),
    fun b g hb hg => by
      by_cases hlt : b < w1.heap.size
      · exact h.news b g hb (by rw [← k.same b hlt]; exact hg)
      · exact k.news b g (by omega) hg⟩
theorem Moves.mono {c d c' d' : Nat} {o o' : Own} {w w' : World} (h : Moves c d o o' w w') (hc : c' ≤ c) (hd : d ≤ d') : Moves c' d' o o' w w' :=
  ⟨h.os, h.tape, h.output, h.size, fun b hb hg => h.block b hb (fun g hg' q => hg g hg' ⟨Nat.le_trans hc q.1, Nat.le_trans q.2 hd⟩), h.same, fun b g hb hg => by have := h.news b g hb hg; omega⟩
/-- Nothing that was there turns. -/
theorem Moves.of_below (c d : Nat) {o : Own} {w w' : World} (hl : Lives o w) (h : Below w.heap.size w w') : Moves c d o o w w' :=
  ⟨h.os, h.tape, h.output, h.size, fun b hb _ => h.block b hb, fun _ _ => rfl, fun b g hb hg => absurd (hl b g hg) (by omega)⟩
theorem Lives.mono {o : Own} {w w' : World} (h : Lives o w) (hs : w.heap.size ≤ w'.heap.size) : Lives o w' := fun b g hg => Nat.lt_of_lt_of_le (h b g hg) hs
/-- A block that is the call's own has turned. -/
theorem Moves.of_grown {c d : Nat} {o : Own} {w w' : World} (hl : Lives o w) {row : Option Nat} (h : w.grownBy w' row) (hr : ∀ b, row = some b → b < w.heap.size → ∃ g, o b = some g ∧ c ≤ g.1 ∧ g.1 ≤ d) : Moves c d o o w w' :=
  ⟨h.os, h.tape, h.output, h.size, fun b hb hg => h.block b hb (fun e => by obtain ⟨g, h1, h2⟩ := hr b e.symm hb; exact hg g h1 h2), fun _ _ => rfl, fun b g hb hg => absurd (hl b g hg) (by omega)⟩
/-- One more block bears a tag. -/
def mark (o : Own) (b : Nat) (g : Tag) : Own := fun k => if k = b then some g else o k
theorem mark_self (o : Own) (b : Nat) (g : Tag) : mark o b g b = some g := if_pos rfl
theorem mark_ne {o : Own} {b k : Nat} {g : Tag} (h : k ≠ b) : mark o b g k = o k := if_neg h
theorem Lives.mark {o : Own} {w w' : World} (h : Lives o w) (hs : w.heap.size ≤ w'.heap.size) {b : Nat} (hb : b < w'.heap.size) (g : Tag) : Lives (mark o b g) w' := by
  intro k g' hk
  by_cases e : k = b
  · subst e; exact hb
  · rw [mark_ne e] at hk; exact Nat.lt_of_lt_of_le (h k g' hk) hs
theorem Moves.mark {c d : Nat} {o o' : Own} {w w' : World} (h : Moves c d o o' w w') {b : Nat} (hb : w.heap.size ≤ b) {g : Tag} (hg : c ≤ g.1 ∧ g.1 ≤ d) : Moves c d o (mark o' b g) w w' :=
  ⟨h.os, h.tape, h.output, h.size, h.block, fun k hk => by rw [mark_ne (by omega)]; exact h.same k hk, fun k g' hk hg' => by
    by_cases e : k = b
    · subst e; rw [mark_self] at hg'; injection hg' with hg'; subst hg'; exact hg
    · rw [mark_ne e] at hg'; exact h.news k g' hk hg'⟩

/-- What an index is in memory: q its block, tags from c on. -/
def IdxAt {κ : Type} [DecidableEq κ] (ke : κ → Value) (tI c : Nat) (w : World) (q : Nat) (ls : List (κ × List T)) (o : Own) : Prop :=
  ∃ bL v, w.heap[q]? = some (.cells #[.map (some bL)] tI (0, 0)) ∧ GMap ke w bL v ∧ Rep ownTs w ls v ∧ o q = some (c, nov) ∧ o bL = some (c + 1, nov) ∧ ∀ k x b, aget k v = some x → x.ownBlock = some b → o b = some (c + 2, ke k)
theorem IdxAt.kept {κ : Type} [DecidableEq κ] {ke : κ → Value} {tI c : Nat} {w w' : World} {q : Nat} {ls : List (κ × List T)} {o o' : Own} (h : IdxAt ke tI c w q ls o) (hb : ∀ b g, o b = some g → c ≤ g.1 → g.1 ≤ c + 2 → w'.heap[b]? = w.heap[b]? ∧ o' b = o b) : IdxAt ke tI c w' q ls o' := by
  obtain ⟨bL, v, h1, h2, h3, h4, h5, h6⟩ := h
  have q1 := hb q _ h4 (Nat.le_refl _) (Nat.le_add_right _ _)
  have q2 := hb bL _ h5 (Nat.le_add_right _ _) (by simp)
  refine ⟨bL, v, q1.1.trans h1, h2.kept q2.1, h3.kept (fun t l x hx hl => ownTs_same hl (fun b hxb => (hb b _ (h6 t x b hx hxb) (Nat.le_add_right _ _) (Nat.le_refl _)).1)), q1.2.trans h4, q2.2.trans h5, fun k x b hx hxb => ?_⟩
  have := h6 k x b hx hxb
  exact ((hb b _ this (Nat.le_add_right _ _) (Nat.le_refl _)).2).trans this
/-- Behind a step of other kinds an index is as it was. -/
theorem IdxAt.moved {κ : Type} [DecidableEq κ] {ke : κ → Value} {tI c : Nat} {w w' : World} {q : Nat} {ls : List (κ × List T)} {o o' : Own} (h : IdxAt ke tI c w q ls o) (hl : Lives o w) {a d : Nat} (hm : Moves a d o o' w w') (hd : d < c ∨ c + 2 < a) : IdxAt ke tI c w' q ls o' :=
  h.kept (fun b g hg h1 h2 => ⟨hm.block b (hl b g hg) (fun g' hg' q => by rw [hg] at hg'; injection hg' with hg'; subst hg'; omega), hm.same b (hl b g hg)⟩)

/-! ### the store -/
def keyO (t : T) : PK := (t.f0, t.f1)
def keyU (t : T) : ByteArray := t.f2
/-- The lists ls hold, by their keys, just the tuples ks, each once. -/
def IdxOK {κ : Type} [DecidableEq κ] (key : T → κ) (ks : List T) (ls : List (κ × List T)) : Prop :=
  ∀ k, (getL k ls).Nodup ∧ ∀ t, t ∈ getL k ls ↔ (key t = k ∧ t ∈ ks)
theorem nodup_len {α : Type} [DecidableEq α] : ∀ {l m : List α}, l.Nodup → (∀ x ∈ l, x ∈ m) → l.length ≤ m.length
  | [], _, _, _ => Nat.zero_le _
  | x :: l, m, hn, hs => by
    rw [List.nodup_cons] at hn
    have h1 : x ∈ m := hs x (by simp)
    have h2 := nodup_len (l := l) (m := m.erase x) hn.2 (fun y hy => (List.mem_erase_of_ne (fun e => hn.1 (by rw [← e]; exact hy))).2 (hs y (by simp [hy])))
    rw [List.length_erase_of_mem h1] at h2
    have h3 := List.length_pos_of_mem h1
    rw [List.length_cons]; omega
theorem IdxOK.len {κ : Type} [DecidableEq κ] {key : T → κ} {ks : List T} {ls : List (κ × List T)} (h : IdxOK key ks ls) (k : κ) : (getL k ls).length ≤ ks.length :=
  nodup_len (h k).1 (fun _ ht => (((h k).2 _).1 ht).2)
/-- Block p is a store that holds the spans m, with watermark wm; o says who owns what. Tags: 0 the store, 1 to 3 the index by objects, 4 to 6 by users, 7 the map of the spans, 8 the spans. -/
def StoreAt (w : World) (p : Nat) (m : List (T × List Sp)) (wm : Int) (o : Own) : Prop :=
  ∃ bO bU bS v lO lU, w.heap[p]? = some (.cells #[.map (some bS), .pointer (some ⟨bO, 0, none⟩), .pointer (some ⟨bU, 0, none⟩), .int .i64 wm] 52 (0, 0)) ∧
    GMap kv w bS v ∧ Rep ownSp w m v ∧ o p = some (0, nov) ∧ o bS = some (7, nov) ∧ (∀ t x b, aget t v = some x → x.ownBlock = some b → o b = some (8, kv t)) ∧
    IdxAt kp 66 1 w bO lO o ∧ IdxAt Value.string 70 4 w bU lU o ∧ IdxOK keyO (m.map Prod.fst) lO ∧ IdxOK keyU (m.map Prod.fst) lU ∧ Lives o w
theorem StoreAt.lives {w : World} {p : Nat} {m : List (T × List Sp)} {wm : Int} {o : Own} (h : StoreAt w p m wm o) : Lives o w := by
  obtain ⟨bO, bU, bS, v, lO, lU, _, _, _, _, _, _, _, _, _, _, h⟩ := h
  exact h
theorem StoreAt.nodup {w : World} {p : Nat} {m : List (T × List Sp)} {wm : Int} {o : Own} (h : StoreAt w p m wm o) : (m.map Prod.fst).Nodup := by
  obtain ⟨bO, bU, bS, v, lO, lU, _, h1, h2, _⟩ := h
  rw [← h2.1]; exact h1.nodup
/-- Where no block that bears a tag turns, the store is as it was. -/
theorem StoreAt.kept {w w' : World} {p : Nat} {m : List (T × List Sp)} {wm : Int} {o : Own} (h : StoreAt w p m wm o) (hs : w.heap.size ≤ w'.heap.size) (hb : ∀ b g, o b = some g → w'.heap[b]? = w.heap[b]?) : StoreAt w' p m wm o := by
  obtain ⟨bO, bU, bS, v, lO, lU, h1, h2, h3, h4, h5, h6, h7, h8, h9, h10, h11⟩ := h
  exact ⟨bO, bU, bS, v, lO, lU, (hb p _ h4).trans h1, h2.kept (hb bS _ h5), h3.kept (fun t l x hx hl => ownSp_same hl (fun b hxb => hb b _ (h6 t x b hx hxb))), h4, h5, h6, h7.kept (fun b g hg _ _ => ⟨hb b g hg, rfl⟩), h8.kept (fun b g hg _ _ => ⟨hb b g hg, rfl⟩), h9, h10, h11.mono hs⟩
theorem StoreAt.below {w w' : World} {p : Nat} {m : List (T × List Sp)} {wm : Int} {o : Own} (h : StoreAt w p m wm o) (hb : Below w.heap.size w w') : StoreAt w' p m wm o := h.kept hb.size (fun b g hg => hb.block b (h.lives b g hg))
end Go.Proofs.YtelmbimmkdobaaaDoor.Pr

namespace Go.Proofs.YtelmbimmkdobaaaDoor.Pr
open Go.Shelf Go.RowKit Go.Lib Go.Sort Go.Proofs.YtelmbimmkdobaaaDoor
open Go.Proofs.YtelmbimmkdobaaaDoorW.PrintWords Go.Proofs.YtelmbimmkdobaaaDoorW.PrintLast Go.Proofs.YtelmbimmkdobaaaDoorW.PrintMore

set_option maxHeartbeats 1000000 in
set_option maxRecDepth 100000 in
theorem index_none (A : Option Addr) (c : Nat) (t0 t1 t2 : ByteArray) (w : World) : Calls Tryd.prog 62 #[.slice A 0 c, .agg #[.string t0, .string t1, .string t2]] w fun e w' => e = .returned (.int .i64 (-1)) ∧ Below w.heap.size w w' := by
  go_enter Tryd.func62, Tryd.ntmps62
  go_wp2
  go_loopg [8] 0 (fun _ s8 wr => s8 = .int .i64 0 ∧ wr = w.alloc (Obj.cells #[.string t0, .string t1, .string t2] 27))
  case atStart => exact ⟨rfl, rfl⟩
  case round =>
    obtain ⟨rfl, rfl⟩ := hrel
    go_wp2
    go_ret
    exact ⟨rfl, (Below.refl _ _).alloc (Nat.le_refl _) _⟩
set_option maxHeartbeats 1000000 in
set_option maxRecDepth 100000 in
theorem contains_none (A : Option Addr) (c : Nat) (t0 t1 t2 : ByteArray) (w : World) : Calls Tryd.prog 38 #[.slice A 0 c, .agg #[.string t0, .string t1, .string t2]] w fun e w' => e = .returned (.bool false) ∧ Below w.heap.size w w' := by
  go_enter Tryd.func38, Tryd.ntmps38
  go_wp2_with (go_at_call 62; refine (index_none _ _ _ _ _ _).mono ?_; rintro e w' ⟨rfl, hb⟩)
  go_ret
  exact ⟨rfl, ((Below.refl _ w).alloc (Nat.le_refl _) _).trans (hb.mono (by simp))⟩

/-- slices.Contains at tuples. -/
theorem contains_T (A1 : Option Addr) (c1 : Nat) (l1 : List T) (w : World) (hr : Kd.C k27 w A1 l1.length l1) (t : T) :
    Calls Tryd.prog 38 #[.slice A1 l1.length c1, .agg #[.string t.f0, .string t.f1, .string t.f2]] w fun e w' => e = .returned (.bool (decide (t ∈ l1))) ∧ Below w.heap.size w w' := by
  rcases Nat.eq_zero_or_pos l1.length with h0 | h0
  · obtain rfl : l1 = [] := List.eq_nil_of_length_eq_zero h0
    refine (contains_none A1 c1 t.f0 t.f1 t.f2 w).mono ?_
    rintro e w' ⟨rfl, hb⟩
    exact ⟨by simp, hb⟩
  · obtain ⟨hn, hbig, hc0⟩ := hr
    obtain ⟨ad, rfl, hc⟩ := hc0 h0
    clear hc0
    have hspot : ad.spot = none := by
      obtain ⟨c, hl, hK, hcell⟩ := hc 0 l1[0] (by simp [h0])
      have h1 := k27_open hK
      have h2 := hcell 0 _ (by rw [h1]; rfl)
      cases hs : ad.spot with
      | none => rfl
      | some s =>
        exfalso
        have : (ad.add (0 * k27.sz + 0)).spot = some s := by simp [Addr.add, hs]
        unfold World.cell? at h2
        rw [this] at h2
        split at h2 <;> simp at h2
    obtain ⟨b, off, sp⟩ := ad
    obtain rfl : sp = none := hspot
    have h := AnyQ.slices_Contains Tryd.hasTuple 3 Tryd.isAgg27 Tryd.sizeOf27 enT (fun _ => rfl) (fun x y => decide (x = y)) eql_T b off l1.length c1 l1 t w (Nat.le_refl _) hbig (by
      intro j hj i v hv
      obtain ⟨c, hl, hK, hcell⟩ := hc j l1[j] (by simp [hj])
      have h1 := k27_open hK
      have h2 := hcell i v (by
        rw [h1]
        have e : l1[j]! = l1[j] := by simp [hj]
        rw [e] at hv
        exact hv)
      rw [Addr.add_lit] at h2
      rw [Nat.add_assoc]
      exact h2)
    refine h.mono ?_
    rintro e w' ⟨rfl, hb⟩
    refine ⟨?_, hb⟩
    rw [List.take_length]
    congr 2
    rw [Bool.eq_iff_iff]
    simp
end Go.Proofs.YtelmbimmkdobaaaDoor.Pr

namespace Go.Proofs.YtelmbimmkdobaaaDoor.Pr
open Go.Shelf Go.RowKit Go.Lib Go.Sort Go.Proofs.YtelmbimmkdobaaaDoor
open Go.Proofs.YtelmbimmkdobaaaDoorW.PrintWords Go.Proofs.YtelmbimmkdobaaaDoorW.PrintLast Go.Proofs.YtelmbimmkdobaaaDoorW.PrintMore

def spHas (rev : Int) (s : Sp) : Bool := decide (s.1 ≤ rev ∧ (s.2 = 0 ∨ rev < s.2))

set_option maxHeartbeats 1000000 in
theorem span_has (s : Sp) (rev : Int) (w : World) : Calls Tryd.prog 33 #[.agg #[.int .i64 s.1, .int .i64 s.2], .int .i64 rev] w fun e w' => e = .returned (.bool (spHas rev s)) ∧ Below w.heap.size w w' := by
  have HB : Aside (∀ o, Below w.heap.size w (w.alloc o)) := fun o => (Below.refl _ w).alloc (Nat.le_refl _) o
  obtain ⟨a, b⟩ := s
  by_cases c1 : a ≤ rev
  · have d1 : decide (a ≤ rev) = true := decide_eq_true c1
    by_cases c2 : b = 0
    · have d2 : (b == 0) = true := by simp [c2]
      have HH : Hid (spHas rev (a, b) = true) := decide_eq_true ⟨c1, .inl c2⟩
      clear c2
      go_enter Tryd.func33, Tryd.ntmps33
      go_wp2
      go_ret
      exact ⟨by rw [HH.out]; rfl, HB.out _⟩
    · have d2 : (b == 0) = false := by simp [c2]
      by_cases c3 : rev < b
      · have d3 : decide (rev < b) = true := decide_eq_true c3
        have HH : Hid (spHas rev (a, b) = true) := decide_eq_true ⟨c1, .inr c3⟩
        go_enter Tryd.func33, Tryd.ntmps33
        go_wp2
        go_ret
        exact ⟨by rw [HH.out]; rfl, HB.out _⟩
      · have d3 : decide (rev < b) = false := decide_eq_false c3
        have HH : Hid (spHas rev (a, b) = false) := decide_eq_false (by rintro ⟨_, h | h⟩; exact c2 h; exact c3 h)
        go_enter Tryd.func33, Tryd.ntmps33
        go_wp2
        go_ret
        exact ⟨by rw [HH.out]; rfl, HB.out _⟩
  · have d1 : decide (a ≤ rev) = false := decide_eq_false c1
    have HH : Hid (spHas rev (a, b) = false) := decide_eq_false (by rintro ⟨h, _⟩; exact c1 h)
    go_enter Tryd.func33, Tryd.ntmps33
    go_wp2
    go_ret
    exact ⟨by rw [HH.out]; rfl, HB.out _⟩

theorem at_closure (s : Sp) (rev : Int) (r : Nat) (w : World) (hr : w.cell? ⟨r, 0, none⟩ = some (.int .i64 rev)) :
    Calls Tryd.prog 32 #[.agg #[.int .i64 s.1, .int .i64 s.2], .pointer (some ⟨r, 0, none⟩)] w fun e w' => e = .returned (.bool (spHas rev s)) ∧ Below w.heap.size w w' := by
  have h2 := cell_below ((Below.refl _ w).alloc (Nat.le_refl _) (.cells #[.int .i64 s.1, .int .i64 s.2] 56)) hr
  clear hr
  go_enter Tryd.func32, Tryd.ntmps32
  go_wp2_with (go_at_call 33; refine (span_has s rev _).mono ?_; rintro e w' ⟨rfl, hb⟩)
  go_ret
  exact ⟨rfl, ((Below.refl _ w).alloc (Nat.le_refl _) _).trans (hb.mono (by simp))⟩

/-- The first place of a list of which p holds. -/
def firstAt {α : Type} (p : α → Bool) (l : List α) : Int := match l.findIdx? p with | some i => (i : Int) | none => -1
theorem el_Sp {w : World} {A : Option Addr} {n c : Nat} {xs : List Sp} {base : Nat} (h : w.ownsRow base 56 2 (.slice A n c) n (xs.flatMap enSp)) (hn : xs.length = n) (i : Nat) (hi : i < n) :
    ∃ g x, A = some ⟨g, 0, none⟩ ∧ xs[i]? = some x ∧ w.cell? ⟨g, i * 2, none⟩ = some (.int .i64 x.1) ∧ w.cell? ⟨g, i * 2 + 1, none⟩ = some (.int .i64 x.2) := by
  rcases h.2 with ⟨he, h0⟩ | ⟨g, cap, cur, he, h1, h2, h3, h4, h5, h6⟩
  · omega
  · injection he with he1 he2 he3
    subst he1; subst he3
    have hl : i < xs.length := by omega
    refine ⟨g, xs[i], rfl, List.getElem?_eq_getElem hl, ?_, ?_⟩
    · have := h.cellAt (i * 2) (by omega)
      rw [this]
      have q := get_flat (enc := enSp) (k := 2) (fun _ => rfl) xs i 0 hl (by omega)
      have hlen := len_flat (enc := enSp) (k := 2) (fun _ => rfl) xs
      rw [Nat.add_zero] at q
      rw [List.getElem?_eq_getElem (by omega)]
      simp [hl, enSp] at q
      rw [List.getElem?_eq_getElem (by omega)] at q
      simpa using q
    · have := h.cellAt (i * 2 + 1) (by omega)
      rw [this]
      have q := get_flat (enc := enSp) (k := 2) (fun _ => rfl) xs i 1 hl (by omega)
      have hlen := len_flat (enc := enSp) (k := 2) (fun _ => rfl) xs
      rw [List.getElem?_eq_getElem (by omega)]
      simp [hl, enSp] at q
      rw [List.getElem?_eq_getElem (by omega)] at q
      simpa using q

end Go.Proofs.YtelmbimmkdobaaaDoor.Pr

namespace Go.Proofs.YtelmbimmkdobaaaDoor.Pr
open Go.Shelf Go.RowKit Go.Lib Go.Sort Go.Proofs.YtelmbimmkdobaaaDoor
open Go.Proofs.YtelmbimmkdobaaaDoorW.PrintWords Go.Proofs.YtelmbimmkdobaaaDoorW.PrintLast Go.Proofs.YtelmbimmkdobaaaDoorW.PrintMore

/-- A variable that holds a tuple. -/
def BoxT (w : World) (r : Nat) (v : T) : Prop := w.cell? ⟨r, 0, none⟩ = some (.string v.f0) ∧ w.cell? ⟨r, 1, none⟩ = some (.string v.f1) ∧ w.cell? ⟨r, 2, none⟩ = some (.string v.f2)
theorem BoxT.below {w w' : World} {r : Nat} {v : T} (h : BoxT w r v) (hb : Below w.heap.size w w') : BoxT w' r v := ⟨cell_below hb h.1, cell_below hb h.2.1, cell_below hb h.2.2⟩
theorem BoxT.new (w : World) (v : T) : BoxT (w.alloc (.cells #[.string v.f0, .string v.f1, .string v.f2] 27)) w.heap.size v := ⟨(blk_cell (blk_new w _) 0).trans rfl, (blk_cell (blk_new w _) 1).trans rfl, (blk_cell (blk_new w _) 2).trans rfl⟩
/-! ### the first place -/
theorem first_some {α : Type} {p : α → Bool} {l : List α} {i : Nat} {x : α} (hx : l[i]? = some x) (hn : ∀ y ∈ l.take i, p y = false) (hp : p x = true) : firstAt p l = (i : Int) := by
  have hi := lt_of_get hx
  have he : l = l.take i ++ x :: l.drop (i + 1) := by
    conv => lhs; rw [← List.take_append_drop i l, List.drop_eq_getElem_cons hi]
    rw [List.getElem?_eq_getElem hi] at hx
    injection hx with hx
    rw [hx]
  unfold firstAt
  have h1 : List.findIdx? p (l.take i) = none := List.findIdx?_eq_none_iff.2 hn
  have hl : (l.take i).length = i := by rw [List.length_take]; omega
  have h2 : l.findIdx? p = some i := by
    rw [he, List.findIdx?_append, h1, List.findIdx?_cons, hp]
    simp only [if_true, Option.map_some, Option.none_or, hl, Nat.zero_add]
  rw [h2]
theorem first_none {α : Type} {p : α → Bool} {l : List α} (hn : ∀ y ∈ l, p y = false) : firstAt p l = -1 := by
  unfold firstAt
  rw [List.findIdx?_eq_none_iff.2 hn]
theorem first_nonneg {α : Type} {p : α → Bool} {l : List α} : decide (0 ≤ firstAt p l) = l.any p := by
  unfold firstAt
  cases h : l.findIdx? p with
  | none =>
    have h1 := List.findIdx?_eq_none_iff.1 h
    have h2 : l.any p = false := by rw [List.any_eq_false]; intro x hx; rw [h1 x hx]; simp
    rw [h2]; simp
  | some i =>
    have h2 : l.any p = true := by
      have := List.findIdx?_isSome (p := p) (xs := l)
      rw [h] at this
      exact this.symm
    rw [h2]
    simp

/-- An element of a row of tuples. -/
theorem el_Ts {w : World} {A : Option Addr} {n c : Nat} {xs : List T} {base : Nat} (h : w.ownsRow base 27 3 (.slice A n c) n (xs.flatMap enT)) (hn : xs.length = n) (i : Nat) (hi : i < n) :
    ∃ g x, A = some ⟨g, 0, none⟩ ∧ xs[i]? = some x ∧ w.cell? ⟨g, i * 3, none⟩ = some (.string x.f0) ∧ w.cell? ⟨g, i * 3 + 1, none⟩ = some (.string x.f1) ∧ w.cell? ⟨g, i * 3 + 2, none⟩ = some (.string x.f2) := by
  rcases h.2 with ⟨he, h0⟩ | ⟨g, cap, cur, he, h1, h2, h3, h4, h5, h6⟩
  · omega
  · injection he with he1 he2 he3
    subst he1; subst he3
    have hl : i < xs.length := by omega
    have key : ∀ j, j < 3 → ∀ v, (enT xs[i])[j]? = some v → w.cell? ⟨g, i * 3 + j, none⟩ = some v := by
      intro j hj v hv
      have h7 := h.cellAt (i * 3 + j) (by omega)
      rw [h7]
      have q := get_flat (enc := enT) (k := 3) (fun _ => rfl) xs i j hl hj
      have hlen := len_flat (enc := enT) (k := 3) (fun _ => rfl) xs
      rw [List.getElem?_eq_getElem (by omega)]
      have q2 : (enT xs[i]!)[j]! = v := by
        have : xs[i]! = xs[i] := by simp [hl]
        rw [this, List.getElem!_eq_getElem?_getD, hv]; rfl
      rw [q2, List.getElem!_eq_getElem?_getD, List.getElem?_eq_getElem (by omega)] at q
      exact congrArg some q
    exact ⟨g, xs[i], rfl, List.getElem?_eq_getElem hl, key 0 (by omega) _ rfl, key 1 (by omega) _ rfl, key 2 (by omega) _ rfl⟩
end Go.Proofs.YtelmbimmkdobaaaDoor.Pr

namespace Go.Proofs.YtelmbimmkdobaaaDoor.Pr
open Go.Shelf Go.RowKit Go.Lib Go.Sort Go.Proofs.YtelmbimmkdobaaaDoor
open Go.Proofs.YtelmbimmkdobaaaDoorW.PrintWords Go.Proofs.YtelmbimmkdobaaaDoorW.PrintLast Go.Proofs.YtelmbimmkdobaaaDoorW.PrintMore

theorem bl_take (s : ByteArray) (n : Nat) : bl (s.extract 0 n) = (bl s).take n := by rw [bl_extract, List.drop_zero]
theorem bl_drop (s : ByteArray) (n : Nat) : bl (s.extract n s.size) = (bl s).drop n := by
  rw [bl_extract, ← bl_len, List.take_length]
theorem ext_size (s : ByteArray) (a b : Nat) : (s.extract a b).size ≤ s.size := by
  rw [← bl_len, ← bl_len, bl_extract, List.length_drop, List.length_take]; omega

/-- Of an object, or of a user, the error's number. -/
def Tells (v : Int) (w : World) (e : Ending) (w' : World) : Prop := (∃ a b : ByteArray, e = .returned (.tuple #[.string a, .string b, .int .i64 v])) ∧ Below w.heap.size w w'

set_option maxHeartbeats 8000000 in
set_option maxRecDepth 100000 in
theorem tuple_Object (s : ByteArray) (w : World) (hs : s.size ≤ 4611686018427387904) : Calls Tryd.prog 35 #[.string s] w (Tells (objL (bl s)) w) := by
  rcases ib_lt 58 (bl s) with hneg | ⟨n, hn, hlt⟩
  · have hV : objL (bl s) = 51 := by unfold objL; rw [if_pos hneg]
    rw [hV]
    have hC := cut_Col_no s w hs hneg
    have HC : Aside (type_of% hC) := hC
    clear hC hneg hV hs
    go_enter Tryd.func35, Tryd.ntmps35
    go_wp2_with (go_at_call 60; refine HC.out.mono ?_; rintro e w1 ⟨rfl, hb⟩; have HB : Aside _ := hb; clear hb)
    go_ret3
    exact ⟨⟨_, _, rfl⟩, HB.out⟩
  · have hV : objL (bl s) = if nameL (bl (s.extract 0 n)) && nameL (bl (s.extract (n + 1) s.size)) then 0 else 50 := by
      unfold objL; rw [if_neg (by omega), hn, bl_take, bl_drop]; rfl
    rw [hV]
    have hC := cut_Col_yes s n w hs hn hlt
    have HC : Aside (type_of% hC) := hC
    have hA := fun W => tuple_name (s.extract 0 n) W (by have := ext_size s 0 n; omega)
    have hB := fun W => tuple_name (s.extract (n + 1) s.size) W (by have := ext_size s (n + 1) s.size; omega)
    generalize s.extract 0 n = x at HC hA ⊢
    generalize s.extract (n + 1) s.size = y at HC hB ⊢
    clear hC hn hlt hV hs
    cases h1 : nameL (bl x)
    · rw [h1] at hA
      have HA : Aside (type_of% hA) := hA
      clear hA hB h1
      go_enter Tryd.func35, Tryd.ntmps35
      go_wp2_with (first | (go_at_call 60; refine HC.out.mono ?_; rintro e w1 ⟨rfl, hb⟩; have HB : Aside _ := hb; clear hb) | (go_at_call 36; refine (HA.out _).mono ?_; rintro e w2 ⟨rfl, hb⟩; have HB2 : Aside _ := hb; clear hb))
      go_ret3
      exact ⟨⟨_, _, rfl⟩, HB.out.trans (HB2.out.mono HB.out.size)⟩
    · cases h2 : nameL (bl y)
      · rw [h1] at hA
        rw [h2] at hB
        have HA : Aside (type_of% hA) := hA
        have HN : Aside (type_of% hB) := hB
        clear hA hB h1 h2
        go_enter Tryd.func35, Tryd.ntmps35
        go_wp2_with (first | (go_at_call 60; refine HC.out.mono ?_; rintro e w1 ⟨rfl, hb⟩; have HB : Aside _ := hb; clear hb) | (go_at_call 36; (with_reducible refine (HA.out _).mono ?_); rintro e w2 ⟨rfl, hb⟩; have HB2 : Aside _ := hb; clear hb) | (go_at_call 36; (with_reducible refine (HN.out _).mono ?_); rintro e w3 ⟨rfl, hb⟩; have HB3 : Aside _ := hb; clear hb))
        go_ret3
        exact ⟨⟨_, _, rfl⟩, (HB.out.trans (HB2.out.mono HB.out.size)).trans (HB3.out.mono (HB.out.trans (HB2.out.mono HB.out.size)).size)⟩
      · rw [h1] at hA
        rw [h2] at hB
        have HA : Aside (type_of% hA) := hA
        have HN : Aside (type_of% hB) := hB
        clear hA hB h1 h2
        go_enter Tryd.func35, Tryd.ntmps35
        go_wp2_with (first | (go_at_call 60; refine HC.out.mono ?_; rintro e w1 ⟨rfl, hb⟩; have HB : Aside _ := hb; clear hb) | (go_at_call 36; (with_reducible refine (HA.out _).mono ?_); rintro e w2 ⟨rfl, hb⟩; have HB2 : Aside _ := hb; clear hb) | (go_at_call 36; (with_reducible refine (HN.out _).mono ?_); rintro e w3 ⟨rfl, hb⟩; have HB3 : Aside _ := hb; clear hb))
        go_ret3
        exact ⟨⟨_, _, rfl⟩, (HB.out.trans (HB2.out.mono HB.out.size)).trans (HB3.out.mono (HB.out.trans (HB2.out.mono HB.out.size)).size)⟩

set_option maxHeartbeats 8000000 in
set_option maxRecDepth 100000 in
theorem tuple_User (s : ByteArray) (w : World) (hs : s.size ≤ 4611686018427387904) : Calls Tryd.prog 37 #[.string s] w (Tells (userL (bl s)) w) := by
  rcases ib_lt 35 (bl s) with hneg | ⟨n, hn, hlt⟩
  · have hV : userL (bl s) = objL (bl s) := by unfold userL; rw [if_pos hneg]
    rw [hV]
    have hC := cut_Hash_no s w hs hneg
    have HC : Aside (type_of% hC) := hC
    have hO := fun W => tuple_Object s W hs
    clear hC hneg hV hs
    by_cases h0 : objL (bl s) = 0
    · rw [h0] at hO ⊢
      have HO : Aside (type_of% hO) := hO
      clear hO h0
      go_enter Tryd.func37, Tryd.ntmps37
      go_wp2_with (first | (go_at_call 60; refine HC.out.mono ?_; rintro e w1 ⟨rfl, hb⟩; have HB : Aside _ := hb; clear hb) | (go_at_call 35; refine (HO.out _).mono ?_; rintro e w2 ⟨⟨a2, b2, rfl⟩, hb⟩; have HB2 : Aside _ := hb; clear hb))
      go_ret3
      exact ⟨⟨_, _, rfl⟩, HB.out.trans (HB2.out.mono HB.out.size)⟩
    · have d : (objL (bl s) != 0) = true := by simp [h0]
      generalize objL (bl s) = v at hO d ⊢
      have HO : Aside (type_of% hO) := hO
      clear hO h0
      go_enter Tryd.func37, Tryd.ntmps37
      go_wp2_with (first | (go_at_call 60; refine HC.out.mono ?_; rintro e w1 ⟨rfl, hb⟩; have HB : Aside _ := hb; clear hb) | (go_at_call 35; refine (HO.out _).mono ?_; rintro e w2 ⟨⟨a2, b2, rfl⟩, hb⟩; have HB2 : Aside _ := hb; clear hb))
      go_ret3
      exact ⟨⟨_, _, rfl⟩, HB.out.trans (HB2.out.mono HB.out.size)⟩
  · have hV : userL (bl s) = if objL (bl (s.extract 0 n)) ≠ 0 then objL (bl (s.extract 0 n)) else if nameL (bl (s.extract (n + 1) s.size)) then 0 else 50 := by
      unfold userL; rw [if_neg (by omega), hn, bl_take, bl_drop]; rfl
    rw [hV]
    have hC := cut_Hash_yes s n w hs hn hlt
    have HC : Aside (type_of% hC) := hC
    have hO := fun W => tuple_Object (s.extract 0 n) W (by have := ext_size s 0 n; omega)
    have hB := fun W => tuple_name (s.extract (n + 1) s.size) W (by have := ext_size s (n + 1) s.size; omega)
    generalize s.extract 0 n = x at HC hO ⊢
    generalize s.extract (n + 1) s.size = y at HC hB ⊢
    clear hC hn hlt hV hs
    by_cases h0 : objL (bl x) = 0
    · rw [h0] at hO ⊢
      rw [if_neg (by simp)]
      have HO : Aside (type_of% hO) := hO
      cases h2 : nameL (bl y)
      · rw [h2] at hB
        have HN : Aside (type_of% hB) := hB
        clear hO hB h0 h2
        go_enter Tryd.func37, Tryd.ntmps37
        go_wp2_with (first | (go_at_call 60; refine HC.out.mono ?_; rintro e w1 ⟨rfl, hb⟩; have HB : Aside _ := hb; clear hb) | (go_at_call 35; refine (HO.out _).mono ?_; rintro e w2 ⟨⟨a2, b2, rfl⟩, hb⟩; have HB2 : Aside _ := hb; clear hb) | (go_at_call 36; refine (HN.out _).mono ?_; rintro e w3 ⟨rfl, hb⟩; have HB3 : Aside _ := hb; clear hb))
        go_ret3
        exact ⟨⟨_, _, rfl⟩, (HB.out.trans (HB2.out.mono HB.out.size)).trans (HB3.out.mono (HB.out.trans (HB2.out.mono HB.out.size)).size)⟩
      · rw [h2] at hB
        have HN : Aside (type_of% hB) := hB
        clear hO hB h0 h2
        go_enter Tryd.func37, Tryd.ntmps37
        go_wp2_with (first | (go_at_call 60; refine HC.out.mono ?_; rintro e w1 ⟨rfl, hb⟩; have HB : Aside _ := hb; clear hb) | (go_at_call 35; refine (HO.out _).mono ?_; rintro e w2 ⟨⟨a2, b2, rfl⟩, hb⟩; have HB2 : Aside _ := hb; clear hb) | (go_at_call 36; refine (HN.out _).mono ?_; rintro e w3 ⟨rfl, hb⟩; have HB3 : Aside _ := hb; clear hb))
        go_ret3
        exact ⟨⟨_, _, rfl⟩, (HB.out.trans (HB2.out.mono HB.out.size)).trans (HB3.out.mono (HB.out.trans (HB2.out.mono HB.out.size)).size)⟩
    · rw [if_pos h0]
      have d : (objL (bl x) != 0) = true := by simp [h0]
      generalize objL (bl x) = v at hO d ⊢
      have HO : Aside (type_of% hO) := hO
      clear hO h0 hB
      go_enter Tryd.func37, Tryd.ntmps37
      go_wp2_with (first | (go_at_call 60; refine HC.out.mono ?_; rintro e w1 ⟨rfl, hb⟩; have HB : Aside _ := hb; clear hb) | (go_at_call 35; refine (HO.out _).mono ?_; rintro e w2 ⟨⟨a2, b2, rfl⟩, hb⟩; have HB2 : Aside _ := hb; clear hb))
      go_ret3
      exact ⟨⟨_, _, rfl⟩, HB.out.trans (HB2.out.mono HB.out.size)⟩

/-- The texts of a tuple are no longer than 2^62 bytes. -/
def SzT (t : T) : Prop := t.f0.size ≤ 4611686018427387904 ∧ t.f1.size ≤ 4611686018427387904 ∧ t.f2.size ≤ 4611686018427387904
def chkL : List T → Int
  | [] => 0
  | t :: l => if checkT t ≠ 0 then checkT t else chkL l
theorem chk_drop {l : List T} {i : Nat} (h : ∀ t ∈ l.take i, checkT t = 0) : chkL l = chkL (l.drop i) := by
  induction l generalizing i with
  | nil => simp
  | cons t l ih =>
    cases i with
    | zero => rfl
    | succ i =>
      rw [List.drop_succ_cons, chkL, if_neg (by simp [h t (by simp)])]
      exact ih (fun u hu => h u (by simp [hu]))

theorem drop_get {α : Type} {l : List α} {i : Nat} {x : α} (h : l[i]? = some x) : l.drop i = x :: l.drop (i + 1) := by
  have hi := lt_of_get h
  rw [List.drop_eq_getElem_cons hi]
  rw [List.getElem?_eq_getElem hi] at h
  injection h with h
  rw [h]

set_option maxHeartbeats 16000000 in
set_option maxRecDepth 100000 in
theorem tuple_Check (A : Option Addr) (c : Nat) (l : List T) (w : World) (hr : Kd.C k27 w A l.length l) (hl : l.length < 4294967296) (hz : ∀ t ∈ l, SzT t) : Calls Tryd.prog 24 #[.slice A l.length c] w fun e w' => e = .returned (.int .i64 (chkL l)) ∧ Below w.heap.size w w' := by
  have HR : Aside (Kd.C k27 w A l.length l) := hr
  have HZ : Aside (∀ t ∈ l, SzT t) := hz
  clear hr hz
  go_enter Tryd.func24, Tryd.ntmps24
  go_wp2
  go_loopg [13] l.length (fun gk s13 wr => ∃ i : Nat, s13 = .int .i64 i ∧ i ≤ l.length ∧ l.length - i ≤ gk ∧ Hid (∀ t ∈ l.take i, checkT t = 0) ∧ Aside (Below w.heap.size w wr))
  case atStart => exact ⟨0, rfl, Nat.zero_le _, Nat.le_refl _, by show ∀ t ∈ _, _; simp, Below.refl _ _⟩
  case round =>
    obtain ⟨i, rfl, hi, hg, HP, HB⟩ := hrel
    by_cases hlt : i < l.length
    · have hltz : (i : Int) < (l.length : Int) := by omega
      obtain ⟨ad, x, rfl, hx, h0, h1, h2⟩ := el_T HR.out rfl i hlt
      replace h0 := cell_below HB.out h0
      replace h1 := cell_below HB.out h1
      replace h2 := cell_below HB.out h2
      have hzx := HZ.out x (List.mem_of_getElem? hx)
      have HX : Aside (l[i]? = some x) := hx
      have HT := BoxT.new wr x
      have hO := fun W => tuple_Object x.f0 W hzx.1
      have hN := fun W => tuple_name x.f1 W (by have := hzx.2.1; omega)
      have hU := fun W => tuple_User x.f2 W hzx.2.2
      have hV : checkT x = if objL (bl x.f0) ≠ 0 then objL (bl x.f0) else if nameL (bl x.f1) then userL (bl x.f2) else 50 := rfl
      have HV : Hid (type_of% hV) := hV
      clear hx hzx hV
      have HBa : Aside (Below w.heap.size w (wr.alloc (.cells #[.string x.f0, .string x.f1, .string x.f2] 27))) := HB.out.alloc HB.out.size _
      obtain ⟨t0, t1, t2⟩ := x
      dsimp only at h0 h1 h2 hO hN hU HV HT HBa
      have HTa : Aside (BoxT (wr.alloc (.cells #[.string t0, .string t1, .string t2] 27)) wr.heap.size ⟨t0, t1, t2⟩) := HT
      clear HT
      have HT : Aside (BoxT (wr.alloc (.cells #[.string t0, .string t1, .string t2] 27)) wr.heap.size ⟨t0, t1, t2⟩) := HTa.out
      clear HTa
      by_cases c1 : objL (bl t0) = 0
      · rw [c1] at hO
        have HO : Aside (type_of% hO) := hO
        cases c2 : nameL (bl t1)
        · rw [c2] at hN
          have HN : Aside (type_of% hN) := hN
          have HF : Hid (chkL l = 50) := by
            show _ = _
            rw [chk_drop HP.out, drop_get HX.out, chkL]
            have : checkT ⟨t0, t1, t2⟩ = 50 := by rw [HV.out, if_neg (by simp [c1]), if_neg (by simp [c2])]
            rw [this]; rfl
          clear hO hN hU c1 c2 HV
          go_wp2_with (first | (go_at_call 35; refine (HO.out _).mono ?_; rintro e w2 ⟨⟨a2, b2, rfl⟩, hb⟩; obtain ⟨e0, e1, e2⟩ := BoxT.below HT.out hb; have HT2 : Aside (BoxT w2 wr.heap.size ⟨t0, t1, t2⟩) := BoxT.below HT.out hb; have HB2 : Aside _ := hb; clear hb) | (go_at_call 36; refine (HN.out _).mono ?_; rintro e w3 ⟨rfl, hb⟩; obtain ⟨f0, f1, f2⟩ := BoxT.below HT2.out hb; have HB3 : Aside _ := hb; clear hb))
          go_ret
          exact ⟨by rw [HF.out]; rfl, (HBa.out.trans (HB2.out.mono HBa.out.size)).trans (HB3.out.mono (HBa.out.trans (HB2.out.mono HBa.out.size)).size)⟩
        · rw [c2] at hN
          have HN : Aside (type_of% hN) := hN
          by_cases c3 : userL (bl t2) = 0
          · rw [c3] at hU
            have HU : Aside (type_of% hU) := hU
            have HQ : Hid (∀ t ∈ l.take (i + 1), checkT t = 0) := by
              show ∀ t ∈ _, _
              intro t ht
              rw [take_step l i _ HX.out, List.mem_append, List.mem_singleton] at ht
              rcases ht with ht | rfl
              · exact HP.out t ht
              · rw [HV.out, if_neg (by simp [c1]), if_pos c2, c3]
            clear hO hN hU c1 c2 c3 HV
            go_wp2_with (first | (go_at_call 35; refine (HO.out _).mono ?_; rintro e w2 ⟨⟨a2, b2, rfl⟩, hb⟩; obtain ⟨e0, e1, e2⟩ := BoxT.below HT.out hb; have HT2 : Aside (BoxT w2 wr.heap.size ⟨t0, t1, t2⟩) := BoxT.below HT.out hb; have HB2 : Aside _ := hb; clear hb) | (go_at_call 36; refine (HN.out _).mono ?_; rintro e w3 ⟨rfl, hb⟩; obtain ⟨f0, f1, f2⟩ := BoxT.below HT2.out hb; have HB3 : Aside _ := hb; clear hb) | (go_at_call 37; refine (HU.out _).mono ?_; rintro e w4 ⟨⟨a4, b4, rfl⟩, hb⟩; have HB4 : Aside _ := hb; clear hb))
            go_roundg (l.length - (i + 1))
            case measure => omega
            case rel => exact ⟨i + 1, by first | rfl | go_num, by omega, Nat.le_refl _, HQ.out, ((HBa.out.trans (HB2.out.mono HBa.out.size)).trans (HB3.out.mono (HBa.out.trans (HB2.out.mono HBa.out.size)).size)).trans (HB4.out.mono ((HBa.out.trans (HB2.out.mono HBa.out.size)).trans (HB3.out.mono (HBa.out.trans (HB2.out.mono HBa.out.size)).size)).size)⟩
          · have d : (userL (bl t2) != 0) = true := by simp [c3]
            have HF : Hid (chkL l = userL (bl t2)) := by
              show _ = _
              rw [chk_drop HP.out, drop_get HX.out, chkL]
              have : checkT ⟨t0, t1, t2⟩ = userL (bl t2) := by rw [HV.out, if_neg (by simp [c1]), if_pos c2]
              rw [this, if_pos c3]
            generalize userL (bl t2) = v at hU d HF HV
            have HU : Aside (type_of% hU) := hU
            clear hO hN hU c1 c2 c3 HV
            go_wp2_with (first | (go_at_call 35; refine (HO.out _).mono ?_; rintro e w2 ⟨⟨a2, b2, rfl⟩, hb⟩; obtain ⟨e0, e1, e2⟩ := BoxT.below HT.out hb; have HT2 : Aside (BoxT w2 wr.heap.size ⟨t0, t1, t2⟩) := BoxT.below HT.out hb; have HB2 : Aside _ := hb; clear hb) | (go_at_call 36; refine (HN.out _).mono ?_; rintro e w3 ⟨rfl, hb⟩; obtain ⟨f0, f1, f2⟩ := BoxT.below HT2.out hb; have HB3 : Aside _ := hb; clear hb) | (go_at_call 37; refine (HU.out _).mono ?_; rintro e w4 ⟨⟨a4, b4, rfl⟩, hb⟩; have HB4 : Aside _ := hb; clear hb))
            go_ret
            exact ⟨by rw [HF.out]; rfl, ((HBa.out.trans (HB2.out.mono HBa.out.size)).trans (HB3.out.mono (HBa.out.trans (HB2.out.mono HBa.out.size)).size)).trans (HB4.out.mono ((HBa.out.trans (HB2.out.mono HBa.out.size)).trans (HB3.out.mono (HBa.out.trans (HB2.out.mono HBa.out.size)).size)).size)⟩
      · have d : (objL (bl t0) != 0) = true := by simp [c1]
        have HF : Hid (chkL l = objL (bl t0)) := by
          show _ = _
          rw [chk_drop HP.out, drop_get HX.out, chkL]
          have : checkT ⟨t0, t1, t2⟩ = objL (bl t0) := by rw [HV.out, if_pos c1]
          rw [this, if_pos c1]
        clear HV
        generalize objL (bl t0) = v at hO d HF
        have HO : Aside (type_of% hO) := hO
        clear hO hN hU c1
        go_wp2_with (first | (go_at_call 35; refine (HO.out _).mono ?_; rintro e w2 ⟨⟨a2, b2, rfl⟩, hb⟩; obtain ⟨e0, e1, e2⟩ := BoxT.below HT.out hb; have HT2 : Aside (BoxT w2 wr.heap.size ⟨t0, t1, t2⟩) := BoxT.below HT.out hb; have HB2 : Aside _ := hb; clear hb))
        go_ret
        exact ⟨by rw [HF.out]; rfl, HBa.out.trans (HB2.out.mono HBa.out.size)⟩
    · have hltz : ¬ (i : Int) < (l.length : Int) := by omega
      have HF : Hid (chkL l = 0) := by
        show _ = _
        rw [chk_drop HP.out, List.drop_of_length_le (by omega)]; rfl
      go_wp2
      go_ret
      exact ⟨by rw [HF.out]; rfl, HB.out⟩
end Go.Proofs.YtelmbimmkdobaaaDoor.Pr

namespace Go.Proofs.YtelmbimmkdobaaaDoor.Pr
open Go.ChangeShapes Go.WideShapes Go.ChangeAt Go.RowKit Go.Deep
open Go.Proofs.YtelmbimmkdobaaaDoorW.PrintWords Go.Proofs.YtelmbimmkdobaaaDoorW.PrintLast Go.Proofs.YtelmbimmkdobaaaDoorW.PrintMore

section
variable {H : Type} {enc : TypeId × Value → H} {W : World}
/-- A slice of structs of k cells that came in, each no bigger than its datum. -/
theorem open_genB {α : Type} [Inhabited α] {enc1 : α → List Value} {sz : α → Nat} {k : Nat} {t e : TypeId} (ht : Tryd.prog.underlying t = some (.slice e)) (hk : Tryd.prog.cellsOf e = k) (hlen : ∀ y, (enc1 y).length = k)
    (hel : ∀ {base : Nat} {sp : Nat → Bool} {hd : Bool} {fuel : Nat} {cs : List Value} {x : DataW H × List MemPlace}, DataW.trod enc Tryd.prog W base sp hd fuel e cs = some x → ∃ y : α, cs = enc1 y ∧ sz y ≤ Rows.uptoBulk x.1)
    {a : Option Addr} {len cap : Nat} {d : DataW H} {p : List MemPlace} {sp : Nat → Bool} {hd : Bool} (h : DataW.Trod enc Tryd.prog W 0 sp hd t (.slice a len cap) d p) :
    ∃ l : List α, l.length = len ∧ len ≤ cap ∧ len ≤ maxLen ∧ len ≤ Rows.uptoBulk d ∧ (∀ y ∈ l, sz y ≤ Rows.uptoBulk d) ∧ (0 < len → ∃ ad, a = some ad ∧ ∀ j y, l[j]? = some y → ∀ i u, (enc1 y)[i]? = some u → W.cell? (ad.add (j * k + i)) = some u) := by
  obtain ⟨fuel, hf⟩ := h
  rcases open_slice ht hf with ⟨hcs, _⟩ | ⟨a', len', cap', m, n, D, Pl, hcs, _, hl, hm, hmm, hx, hi⟩
  · simp [Value.cells] at hcs
    obtain ⟨rfl, rfl, rfl⟩ := hcs
    exact ⟨[], rfl, Nat.le_refl _, Nat.zero_le _, Nat.zero_le _, (fun y hy => by cases hy), fun h => absurd h (Nat.lt_irrefl _)⟩
  · simp [Value.cells] at hcs
    obtain ⟨rfl, rfl, rfl⟩ := hcs
    have hle : len ≤ m := by rw [hmm]; split <;> omega
    have key : ∀ i, ∃ y : α, i < m → sz y ≤ Rows.uptoBulk (D i) ∧ ∀ j u, (enc1 y)[j]? = some u → W.cell? (a'.add (i * k + j)) = some u := by
      intro i
      by_cases him : i < m
      · obtain ⟨cs', hc, ht'⟩ := hi i him
        obtain ⟨y, hy, hs⟩ := hel ht'
        refine ⟨y, fun _ => ⟨hs, fun j u hu => ?_⟩⟩
        obtain ⟨_, hcl, hat⟩ := World.cells?_some hc
        rw [hk] at hat hcl
        have hj : j < k := by
          have := (List.getElem?_eq_some_iff.1 hu).1
          rw [hlen] at this; exact this
        have := hat j hj
        rw [← Go.Deep.add_add, this, hy]
        exact hu
      · exact ⟨default, fun h => absurd h him⟩
    obtain ⟨f, hf2⟩ := Classical.axiomOfChoice key
    have h1 := congrArg Prod.fst hx
    dsimp only at h1
    have hd : len ≤ Rows.uptoBulk d := by
      rw [h1]
      have := bulk_slice (List.map D (List.range len)) (List.map (fun j => D (len + j)) (List.range (m - len)))
      simpa using this
    refine ⟨(List.range len).map f, by simp, hl, Nat.le_trans hl hm, hd, fun y hy => ?_, fun _ => ⟨a', rfl, fun j y hy i u hu => ?_⟩⟩
    · obtain ⟨q, hq, rfl⟩ := List.mem_map.1 hy
      have hq' : q < len := by simpa using hq
      have g1 := (hf2 q (by omega)).1
      have g2 := bulk_mem (H := H) (d := D q) (l := List.map D (List.range len)) (List.mem_map.2 ⟨q, hq, rfl⟩)
      rw [h1]
      simp only [Rows.uptoBulk]
      omega
    · rw [List.getElem?_map] at hy
      obtain ⟨q, hq, rfl⟩ := Option.map_eq_some_iff.1 hy
      have hj : j < len := by have := lt_of_get hq; simpa using this
      obtain rfl : q = j := by rw [List.getElem?_range hj] at hq; exact (Option.some.inj hq).symm
      exact (hf2 q (by omega)).2 i u hu
def szT (t : T) : Nat := t.f0.size + t.f1.size + t.f2.size
set_option maxRecDepth 100000 in
theorem el_of_TB {base : Nat} {sp : Nat → Bool} {hd : Bool} {fuel : Nat} {cs : List Value} {x : DataW H × List MemPlace} (h : DataW.trod enc Tryd.prog W base sp hd fuel 27 cs = some x) : ∃ y : T, cs = enT y ∧ szT y ≤ Rows.uptoBulk x.1 := by
  obtain ⟨y0, y1, y2, n, hx, hcl, g0, g1, g2⟩ := trod_struct3 Tryd.underlying27 h
  have c9 : Tryd.prog.cellsOf 9 = 1 := by kernel_rfl
  rw [show Tryd.prog.cellsOf 27 = 3 by kernel_rfl] at hcl
  match cs, hcl with
  | [c0, c1, c2], _ =>
    have g0 : DataW.trod enc Tryd.prog W base sp hd n 9 ([c0, c1, c2].take (Tryd.prog.cellsOf 9)) = some y0 := g0
    have g1 : DataW.trod enc Tryd.prog W base sp hd n 9 ([c1, c2].take (Tryd.prog.cellsOf 9)) = some y1 := g1
    have g2 : DataW.trod enc Tryd.prog W base sp hd n 9 ([c2].take (Tryd.prog.cellsOf 9)) = some y2 := g2
    rw [c9] at g0 g1 g2
    obtain ⟨s0, e0, f0, _⟩ := DataW.trod_string Tryd.underlying9 g0
    obtain ⟨s1, e1, f1, _⟩ := DataW.trod_string Tryd.underlying9 g1
    obtain ⟨s2, e2, f2, _⟩ := DataW.trod_string Tryd.underlying9 g2
    injection e0 with e0
    injection e1 with e1
    injection e2 with e2
    refine ⟨⟨s0, s1, s2⟩, by rw [e0, e1, e2]; rfl, ?_⟩
    have hB : Rows.uptoBulk x.1 = (s0.size + 1) + ((s1.size + 1) + ((s2.size + 1) + 0)) + 1 := by
      rw [hx, f0, f1, f2]
      simp only [Rows.uptoBulk, Rows.uptoBulkAll]; rfl
    unfold szT; dsimp only; omega
set_option maxRecDepth 100000 in
theorem el_of_MuB {base : Nat} {sp : Nat → Bool} {hd : Bool} {fuel : Nat} {cs : List Value} {x : DataW H × List MemPlace} (h : DataW.trod enc Tryd.prog W base sp hd fuel 30 cs = some x) : ∃ y : Mu, cs = enMu y ∧ szT y.f1 ≤ Rows.uptoBulk x.1 := by
  obtain ⟨y0, y1, n, hx, hcl, g0, g1⟩ := trod_struct2 Tryd.underlying30 h
  have cb : Tryd.prog.cellsOf 4 = 1 := by kernel_rfl
  have ct : Tryd.prog.cellsOf 27 = 3 := by kernel_rfl
  rw [show Tryd.prog.cellsOf 30 = 4 by kernel_rfl] at hcl
  match cs, hcl with
  | [c0, c1, c2, c3], _ =>
    have g0 : DataW.trod enc Tryd.prog W base sp hd n 4 ([c0, c1, c2, c3].take (Tryd.prog.cellsOf 4)) = some y0 := g0
    have g1 : DataW.trod enc Tryd.prog W base sp hd n 27 ([c1, c2, c3].take (Tryd.prog.cellsOf 27)) = some y1 := g1
    rw [cb] at g0
    rw [ct] at g1
    obtain ⟨b, e0, _⟩ := DataW.trod_bool Tryd.underlying4 g0
    obtain ⟨t, e1, hs⟩ := el_of_TB g1
    injection e0 with e0
    have e1' : [c1, c2, c3] = enT t := e1
    refine ⟨⟨b, t⟩, by rw [e0, e1']; rfl, ?_⟩
    rw [hx]
    simp only [Rows.uptoBulk, Rows.uptoBulkAll]
    omega
theorem open_Mu {a : Option Addr} {len cap : Nat} {d : DataW H} {p : List MemPlace} {sp : Nat → Bool} {hd : Bool} (h : DataW.Trod enc Tryd.prog W 0 sp hd 22 (.slice a len cap) d p) (hu : Rows.uptoBulk d ≤ 1048576) :
    ∃ l : List Mu, l.length = len ∧ len ≤ cap ∧ len ≤ Rows.uptoBulk d ∧ Kd.C k30 W a len l ∧ ∀ x ∈ l, SzT x.f1 := by
  obtain ⟨l, h1, h2, h3, h4, h6, h5⟩ := open_genB (α := Mu) (enc1 := enMu) (sz := fun x => szT x.f1) (k := 4) Tryd.underlying22 (by kernel_rfl) (fun _ => rfl) el_of_MuB h
  refine ⟨l, h1, h2, h4, ⟨h1, h3, fun h0 => ?_⟩, fun x hx => ?_⟩
  · obtain ⟨ad, ha, hc⟩ := h5 h0
    exact ⟨ad, ha, fun j y hy => ⟨enMu y, rfl, k30_mk W y, hc j y hy⟩⟩
  · have := h6 x hx
    unfold szT at this
    exact ⟨by omega, by omega, by omega⟩
set_option maxRecDepth 100000 in
/-- A slice that came in lies in a block that is there. -/
theorem okWide_slice_lt {base : Nat} {t e : TypeId} {a : Option Addr} {len cap : Nat} (ht : Tryd.prog.underlying t = some (.slice e)) (h : Value.okWide Tryd.prog W .any base t (.slice a len cap)) : ∀ ad, a = some ad → ad.block < W.heap.size := by
  rintro ad rfl
  unfold Value.okWide at h
  rw [ht] at h
  have h2 : Cell.ok Tryd.prog W .any base t (.slice (some ad) len cap) := by
    unfold Cell.okWide at h
    rw [ht] at h
    exact h
  unfold Cell.ok at h2
  rw [ht] at h2
  obtain ⟨_, _, _, _, row, cells, hs, _⟩ := h2
  unfold World.shape? at hs
  cases hb : W.heap[ad.block]? with
  | none => rw [hb] at hs; cases hs
  | some o => exact (Array.getElem?_eq_some_iff.1 hb).1
end
end Go.Proofs.YtelmbimmkdobaaaDoor.Pr

namespace Go.Proofs.YtelmbimmkdobaaaDoor.Pr
open Go.Shelf Go.RowKit Go.Lib Go.Sort Go.Proofs.YtelmbimmkdobaaaDoor
open Go.Proofs.YtelmbimmkdobaaaDoorW.PrintWords Go.Proofs.YtelmbimmkdobaaaDoorW.PrintLast Go.Proofs.YtelmbimmkdobaaaDoorW.PrintMore

theorem enRo_one (x : Ro) : ∀ v ∈ enRo x, v.oneCell' = true := by intro v hv; simp [enRo, enT] at hv; rcases hv with rfl | rfl | rfl | rfl | rfl <;> rfl

theorem grownBy_SWK {α : Type} [Inhabited α] {enc : α → List Value} {k : Nat} {w w' : World} {g : Nat} {d : Array α} (S : SWK enc k w g 0 d w') : w.grownBy w' (some g) := by
  obtain ⟨n, os, rfl⟩ := S
  refine ⟨rfl, rfl, rfl, by unfold sortWorldK; rw [size_grow, size_putRowK]; exact Nat.le_add_right _ _, fun i hi hne => ?_⟩
  unfold sortWorldK
  rw [heap_grow_old _ _ (by rw [size_putRowK]; exact hi)]
  have : g ≠ i := fun e => hne (by rw [e])
  simp [putRowK, putRow, mapBlock, Sort.ahead, Array.getElem?_modify, this]

theorem lays_of {α : Type} [Inhabited α] {P : Program} {g : Nat} {enc : α → List Value} {cf : α → α → Int} (h : ∀ (x y : α) (W : World), Calls P g #[.agg (enc x).toArray, .agg (enc y).toArray] W fun e w' => e = .returned (.int .i64 (cf x y)) ∧ Gr W w') (k blk off sz : Nat) (w : World) :
    CmpLays P g #[] enc k cf blk off sz w := fun m os dk _ x y => by
  rw [Array.append_empty]
  exact h x y _

theorem msort_nil {α : Type} (lt : α → α → Bool) : msort lt [] = [] := by simp [msort]

/-! ### SortFunc -/
theorem sortF_of {α : Type} [Inhabited α] {ρ : Ren} (L : SlLaysF0.n6 Tryd.prog ρ) (e k : Nat) (aE : ∀ w, (isAgg (ρ.t 24)).run Tryd.prog w = .ok true w) (zE : ∀ w, (Go.sizeOf (ρ.t 24)).run Tryd.prog w = .ok k w) (enc : α → List Value) (hk : ∀ x, (enc x).length = k) (h1 : ∀ x, ∀ v ∈ enc x, v.oneCell' = true)
    (cf : α → α → Int) (hO : SWO (ltOf cf)) (g : Nat) (eg : ∀ args w, (callFunc g args).run Tryd.prog w = .ok (.enter g args) w) (hc : ∀ (x y : α) (W : World), Calls Tryd.prog g #[.agg (enc x).toArray, .agg (enc y).toArray] W fun e w' => e = .returned (.int .i64 (cf x y)) ∧ Gr W w')
    (base : Nat) (v : Value) (l : List α) (w : World) (h : w.ownsRow base e k v l.length (l.flatMap enc)) (hl : l.length < 4611686018427387904) (he : ∀ x ∈ l, ∀ y ∈ l, ltOf cf x y = false → ltOf cf y x = false → x = y) :
    Calls Tryd.prog (ρ.f 6) #[v, .func (.func g) #[] #[]] w fun r w' => r = .returned (.tuple #[]) ∧ w'.ownsRow base e k v (msort (ltOf cf) l).length ((msort (ltOf cf) l).flatMap enc) ∧ w.grownBy w' v.ownBlock := by
  rcases h.2 with ⟨rfl, hn⟩ | ⟨b, cap, cur, rfl, _⟩
  · obtain rfl : l = [] := List.eq_nil_of_length_eq_zero hn
    refine (AnyF.slices_SortFunc_none L none 0 (.func (.func g) #[] #[]) w).mono ?_
    rintro r w' ⟨rfl, rfl⟩
    exact ⟨rfl, by rw [msort_nil]; exact h, World.grownBy.refl _ _⟩
  · obtain ⟨hH, hb, hbase, hcap⟩ := holdsK_of_own hk h rfl
    refine (AnyQ.slices_SortFunc L k aE zE enc hk h1 cf hO g #[] b 0 cap l.toArray w eg (lays_of hc k b 0 _ w) hH hb (by simpa using hl)).mono ?_
    rintro r w' ⟨rfl, d', n, os, hp, hs, rfl⟩
    obtain ⟨p1, p2⟩ := sortedIn_list hp hs
    have p1' : d'.toList.Perm l := by simpa using p1
    have hd : d'.toList = msort (ltOf cf) l := sorted_perm_eq hO p2 (msort_sorted hO l) (p1'.trans (msort_perm _ l).symm) (fun x hx y hy => he x (p1'.mem_iff.1 hx) y (p1'.mem_iff.1 hy))
    have S : SWK enc k w b 0 (msort (ltOf cf) l ++ []).toArray (sortWorldK enc k w b 0 n d' os) := by
      rw [List.append_nil, ← hd, Array.toArray_toList]; exact ⟨n, os, rfl⟩
    have hml : (msort (ltOf cf) l).length = l.length := (msort_perm _ l).length_eq
    refine ⟨rfl, ?_, grownBy_SWK S⟩
    have := own_of_SWK hk h S (by simp [hml])
    rw [hml] at this ⊢
    exact this

end Go.Proofs.YtelmbimmkdobaaaDoor.Pr

namespace Go.Proofs.YtelmbimmkdobaaaDoor.Pr
open Go.Shelf Go.RowKit Go.Lib Go.Sort Go.Proofs.YtelmbimmkdobaaaDoor
open Go.Proofs.YtelmbimmkdobaaaDoorW.PrintWords Go.Proofs.YtelmbimmkdobaaaDoorW.PrintLast Go.Proofs.YtelmbimmkdobaaaDoorW.PrintMore

def enS (s : ByteArray) : List Value := [.string s]
def ltS : ByteArray → ByteArray → Bool := ltOf cmpS
theorem lt_bytes : ∀ a b : List UInt8, Lib.compareBytes a b < 0 ↔ a < b
  | [], [] => by simp [Lib.compareBytes]
  | [], b :: bs => by simp [Lib.compareBytes]
  | a :: u, [] => by simp [Lib.compareBytes]
  | a :: u, b :: v => by
    rw [Lib.compareBytes, List.cons_lt_cons_iff]
    by_cases h : a < b
    · rw [if_pos h]; simp [h]
    · rw [if_neg h]
      by_cases h2 : b < a
      · rw [if_pos h2]
        have : ¬ a = b := by rintro rfl; exact h h2
        simp [h, this]
      · rw [if_neg h2]
        have e : a = b := by
          rw [UInt8.lt_iff_toNat_lt] at h h2
          exact UInt8.toNat_inj.1 (by omega)
        rw [lt_bytes u v]
        simp [e]
theorem sorted_bl (l : List ByteArray) : (l.map bl).mergeSort (fun x y => decide (x ≤ y)) = (msort ltS l).map bl := by
  unfold msort
  refine (List.map_mergeSort (f := bl) (fun a _ b _ => ?_)).symm
  unfold ltS ltOf cmpS
  rw [Bool.eq_iff_iff]
  simp only [Bool.not_eq_true', decide_eq_false_iff_not, decide_eq_true_eq]
  rw [lt_bytes]
  exact List.not_lt
theorem encStr_bl (s : ByteArray) : encStr (bl s) = .string s := by
  unfold encStr bl; simp
theorem SWK_of_str {w w' : World} {g : Nat} {l : List ByteArray} {n : Nat} {os : Array Obj} (h : w' = grow (putRow encStr (Sort.ahead w n) g 0 (l.map bl).toArray) os) : SWK enS 1 w g 0 l.toArray w' := by
  refine ⟨n, os, ?_⟩
  rw [h]
  unfold sortWorldK putRowK
  congr 1
  unfold putRow
  congr 1
  funext c
  unfold putCells
  rw [flatK_list (enc := enS) (k := 1) (fun _ => rfl)]
  have hs : (l.flatMap enS).toArray.size = ((l.map bl).toArray).size := by
    simp only [List.size_toArray]; rw [len_flat (enc := enS) (k := 1) (fun _ => rfl)]; simp
  rw [hs]
  apply Array.ext
  · simp
  · intro i h1 h2
    simp only [Array.getElem_mapIdx]
    split
    · rename_i hi
      have hi2 : i - 0 < l.length := by have := hi.2; simp at this; omega
      have hi3 : i < l.length := by omega
      have e1 : ((l.map bl).toArray)[i - 0]! = bl l[i - 0] := by simp [hi3]
      have e2 : ((l.flatMap enS).toArray)[i - 0]! = .string l[i - 0] := by
        have q := get_flat (enc := enS) (k := 1) (fun _ => rfl) l (i - 0) 0 hi2 (by omega)
        simp only [Nat.mul_one, Nat.add_zero] at q
        have : ((l.flatMap enS).toArray)[i - 0]! = (l.flatMap enS)[i - 0]! := by simp
        rw [this, q]
        simp [enS, hi3]
      rw [e1, e2, encStr_bl]; rfl
    · rfl
theorem sort_S (base : Nat) (v : Value) (l : List ByteArray) (w : World) (h : w.ownsRow base 9 1 v l.length (l.flatMap enS)) (hl : l.length < 4611686018427387904) :
    Calls Tryd.prog 23 #[v] w fun r w' => r = .returned (.tuple #[]) ∧ w'.ownsRow base 9 1 v (msort ltS l).length ((msort ltS l).flatMap enS) ∧ w.grownBy w' v.ownBlock := by
  rcases h.2 with ⟨rfl, hn⟩ | ⟨b, cap, cur, rfl, _⟩
  · obtain rfl : l = [] := List.eq_nil_of_length_eq_zero hn
    refine (Any.slices_Sort_string_none Tryd.sortStr none 0 w).mono ?_
    rintro r w' ⟨rfl, rfl⟩
    exact ⟨rfl, by rw [msort_nil]; exact h, World.grownBy.refl _ _⟩
  · obtain ⟨hH, hb, hbase, hcap⟩ := holdsK_of_own (enc := enS) (k := 1) (fun _ => rfl) h rfl
    have hH2 : Holds encStr w b 0 (l.map bl).toArray := by
      intro j hj
      have hj' : j < l.length := by simpa using hj
      have q := hH j (by rw [flatK_list (enc := enS) (k := 1) (fun _ => rfl)]; simp only [List.size_toArray]; rw [len_flat (enc := enS) (k := 1) (fun _ => rfl)]; omega)
      refine ⟨?_, q.2⟩
      rw [q.1]
      have e1 : ((l.map bl).toArray)[j]! = bl l[j] := by simp [hj']
      rw [e1, encStr_bl, flatK_list (enc := enS) (k := 1) (fun _ => rfl)]
      have q := get_flat (enc := enS) (k := 1) (fun _ => rfl) l j 0 hj' (by omega)
      simp only [Nat.mul_one, Nat.add_zero] at q
      have : ((l.flatMap enS).toArray)[j]! = (l.flatMap enS)[j]! := by simp
      rw [this, q]
      simp [enS, hj']
    have hc := Any.slices_Sort_string Tryd.sortStr b 0 cap (l.map bl) w hH2 hb (by simpa using hl)
    rw [List.length_map, sorted_bl] at hc
    refine hc.mono ?_
    rintro r w' ⟨rfl, n, os, hw⟩
    have S : SWK enS 1 w b 0 (msort ltS l ++ []).toArray w' := by rw [List.append_nil]; exact SWK_of_str hw
    have hml : (msort ltS l).length = l.length := (msort_perm _ l).length_eq
    refine ⟨rfl, ?_, grownBy_SWK S⟩
    have := own_of_SWK (enc := enS) (k := 1) (C := msort ltS l) (Z := []) (fun _ => rfl) h S (by simp [hml])
    rw [hml] at this ⊢
    exact this
end Go.Proofs.YtelmbimmkdobaaaDoor.Pr

namespace Go.Proofs.YtelmbimmkdobaaaDoor.Pr
open Go.Shelf Go.RowKit Go.Lib Go.Sort Go.Proofs.YtelmbimmkdobaaaDoor

theorem below_grown {base : Nat} {w0 w w' : World} {v : Value} {e : TypeId} {size n : Nat} {xs : List Value} (hb : Below base w0 w) (hg : w.grownBy w' v.ownBlock) (hbase : base ≤ w.heap.size) (ho : w.ownsRow base e size v n xs) : Below base w0 w' :=
  hb.grown hg hbase (fun k hk => (ho.lt k hk).1)
theorem ne_row {w : World} {base : Nat} {v : Value} {n : Nat} {xs : List Value} {e : TypeId} {sz b : Nat} (h : w.ownsRow base e sz v n xs) (hb : ∀ cs q fr, w.heap[b]? ≠ some (.cells cs q fr)) : some b ≠ v.ownBlock := by
  rcases h.2 with ⟨rfl, _⟩ | ⟨g, cap, cur, rfl, _, hg, _⟩
  · simp [Value.ownBlock]
  · intro e
    have : b = g := by simpa [Value.ownBlock] using e
    subst this
    exact hb _ _ _ hg
end Go.Proofs.YtelmbimmkdobaaaDoor.Pr

namespace Go.Proofs.YtelmbimmkdobaaaDoor.Pr
open Go.Shelf Go.RowKit Go.Lib Go.Sort Go.Proofs.YtelmbimmkdobaaaDoor
open Go.Proofs.YtelmbimmkdobaaaDoorW.PrintWords Go.Proofs.YtelmbimmkdobaaaDoorW.PrintLast Go.Proofs.YtelmbimmkdobaaaDoorW.PrintMore

set_option maxHeartbeats 4000000 in
set_option maxRecDepth 100000 in
theorem index_at (rev : Int) (r : Nat) (A : Option Addr) (c : Nat) (l : List Sp) (w : World) (h : ownSp w (.slice A l.length c) l) (hl : l.length < 4294967296) (hc : w.cell? ⟨r, 0, none⟩ = some (.int .i64 rev)) :
    Calls Tryd.prog 50 #[.slice A l.length c, .func (.func 32) #[] #[.pointer (some ⟨r, 0, none⟩)]] w fun e w' => e = .returned (.int .i64 (firstAt (spHas rev) l)) ∧ Below w.heap.size w w' := by
  have HO : Aside (ownSp w (.slice A l.length c) l) := h
  have HC : Aside (w.cell? ⟨r, 0, none⟩ = some (.int .i64 rev)) := hc
  clear h hc
  go_enter Tryd.func50, Tryd.ntmps50
  go_wp2
  go_loopg [8] l.length (fun gk s8 wr => ∃ i : Nat, s8 = .int .i64 i ∧ i ≤ l.length ∧ l.length - i ≤ gk ∧ Hid (∀ x ∈ l.take i, (spHas rev) x = false) ∧ Aside (Below w.heap.size w wr))
  case atStart => exact ⟨0, rfl, Nat.zero_le _, Nat.le_refl _, by show ∀ x ∈ _, _; simp, Below.refl _ _⟩
  case round =>
    obtain ⟨i, rfl, hi, hg, HP, HB⟩ := hrel
    by_cases hlt : i < l.length
    · have hltz : (i : Int) < (l.length : Int) := by omega
      obtain ⟨g, x, rfl, hx, h0, h1⟩ := el_Sp HO.out rfl i hlt
      replace h0 := cell_below HB.out h0
      replace h1 := cell_below HB.out h1
      have HX : Aside (l[i]? = some x) := hx
      clear hx
      obtain ⟨x0, x1⟩ := x
      dsimp only at h0 h1
      have hcl := at_closure (x0, x1) rev r _ (cell_below HB.out HC.out)
      cases hp : (spHas rev) (x0, x1)
      · rw [hp] at hcl
        have HK : Aside (type_of% hcl) := hcl
        have HQ : Hid ((spHas rev) (x0, x1) = false) := hp
        clear hp hcl
        go_wp2_with (go_at_call 32; refine (HK.out).mono ?_; rintro e w1 ⟨rfl, hb⟩; have HB1 : Aside _ := hb; clear hb)
        go_roundg (l.length - (i + 1))
        case measure => omega
        case rel =>
          refine ⟨i + 1, by first | rfl | go_num, by omega, Nat.le_refl _, ?_, HB.out.trans (HB1.out.mono HB.out.size)⟩
          show ∀ x ∈ _, _
          intro x hx
          rw [take_step l i _ HX.out, List.mem_append, List.mem_singleton] at hx
          rcases hx with hx | rfl
          · exact HP.out x hx
          · exact HQ.out
      · rw [hp] at hcl
        have HK : Aside (type_of% hcl) := hcl
        have HF : Hid (firstAt (spHas rev) l = (i : Int)) := first_some HX.out HP.out hp
        clear hp hcl
        go_wp2_with (go_at_call 32; refine (HK.out).mono ?_; rintro e w1 ⟨rfl, hb⟩; have HB1 : Aside _ := hb; clear hb)
        go_ret
        exact ⟨by rw [HF.out]; rfl, HB.out.trans (HB1.out.mono HB.out.size)⟩
    · have hltz : ¬ (i : Int) < (l.length : Int) := by omega
      have HF : Hid (firstAt (spHas rev) l = -1) := first_none (by have h := HP.out; rw [List.take_of_length_le (by omega)] at h; exact h)
      go_wp2
      go_ret
      exact ⟨by rw [HF.out]; rfl, HB.out⟩

end Go.Proofs.YtelmbimmkdobaaaDoor.Pr

namespace Go.Proofs.YtelmbimmkdobaaaDoor.Pr
open Go.Shelf Go.RowKit Go.Lib Go.Sort Go.Proofs.YtelmbimmkdobaaaDoor
open Go.Proofs.YtelmbimmkdobaaaDoorW.PrintWords Go.Proofs.YtelmbimmkdobaaaDoorW.PrintLast Go.Proofs.YtelmbimmkdobaaaDoorW.PrintMore

def lastOf (l : List Sp) : Int := match l.getLast? with | none => 0 | some s => max s.1 s.2
def thereB (l : List Sp) : Bool := match l.getLast? with | none => false | some s => s.2 == 0
theorem zeroSp (w : World) : (zeroValue 53).run Tryd.prog w = .ok nilS w := Tryd.zeroValue53 w
theorem zeroTs (w : World) : (zeroValue 63).run Tryd.prog w = .ok nilS w := Tryd.zeroValue63 w
theorem drewN_below (w : World) (n : Nat) : Below w.heap.size w (w.drewN n) := pw_below_drewN (Below.refl _ _) n

/-- What a look-up among the spans gives: a slice that owns the tuple's spans. -/
theorem StoreAt.look {w : World} {p : Nat} {m : List (T × List Sp)} {wm : Int} {o : Own} (h : StoreAt w p m wm o) (t : T) :
    ∃ bS x, w.cell? ⟨p, 0, none⟩ = some (.map (some bS)) ∧ ownSp w x (getL t m) ∧ (∀ W, Below w.heap.size w W → Sem.run Tryd.prog (Instr.lookup 45 (.map (some bS)) (kv t) false) W = .ok x W) := by
  obtain ⟨bO, bU, bS, v, lO, lU, h1, h2, h3, h4, h5, h6, h7⟩ := h
  refine ⟨bS, (aget t v).getD nilS, (blk_cell h1 0).trans rfl, h3.get (ownSp_nil w) t, fun W hW => ?_⟩
  exact look1 keyT Tryd.underlying45 zeroSp (h2.kept (hW.block _ h2.lt)) t
theorem StoreAt.mark {w : World} {p : Nat} {m : List (T × List Sp)} {wm : Int} {o : Own} (h : StoreAt w p m wm o) : w.cell? ⟨p, 3, none⟩ = some (.int .i64 wm) := by
  obtain ⟨bO, bU, bS, v, lO, lU, h1, _⟩ := h
  exact (blk_cell h1 3).trans rfl
theorem own_nil {w : World} {x : Value} {base : Nat} {e : TypeId} {sz : Nat} {xs : List Value} (h : w.ownsRow base e sz x 0 xs) : ∃ A c, x = .slice A 0 c := by
  rcases h.2 with ⟨rfl, _⟩ | ⟨g, cap, cur, rfl, _⟩
  · exact ⟨_, _, rfl⟩
  · exact ⟨_, _, rfl⟩
theorem own_form {w : World} {x : Value} {n base : Nat} {e : TypeId} {sz : Nat} {xs : List Value} (h : w.ownsRow base e sz x n xs) : ∃ A c, x = .slice A n c := by
  rcases h.2 with ⟨rfl, rfl⟩ | ⟨g, cap, cur, rfl, _⟩
  · exact ⟨_, _, rfl⟩
  · exact ⟨_, _, rfl⟩
theorem sp_last {w : World} {A : Option Addr} {c : Nat} {l : List Sp} (h : ownSp w (.slice A l.length c) l) (hl : 0 < l.length) :
    ∃ g s, A = some ⟨g, 0, none⟩ ∧ l.getLast? = some s ∧ w.cell? ⟨g, (l.length - 1) * 2, none⟩ = some (.int .i64 s.1) ∧ w.cell? ⟨g, (l.length - 1) * 2 + 1, none⟩ = some (.int .i64 s.2) := by
  obtain ⟨g, x, hA, hx, h0, h1⟩ := el_Sp h rfl (l.length - 1) (by omega)
  exact ⟨g, x, hA, by rw [List.getLast?_eq_getElem?]; exact hx, h0, h1⟩

set_option maxHeartbeats 2000000 in
theorem store_last (p : Nat) (t : T) (w : World) {m : List (T × List Sp)} {wm : Int} {o : Own} (h : StoreAt w p m wm o) (hm : (getL t m).length < 4294967296) :
    Calls Tryd.prog 25 #[.pointer (some ⟨p, 0, none⟩), .agg #[.string t.f0, .string t.f1, .string t.f2]] w fun e w' => e = .returned (.int .i64 (lastOf (getL t m))) ∧ Below w.heap.size w w' := by
  obtain ⟨bS, x, hc, hx, hlk⟩ := h.look t
  clear h
  have hB := (Below.refl _ w).alloc (Nat.le_refl _) (.cells #[.string t.f0, .string t.f1, .string t.f2] 27)
  replace hc := cell_below hB hc
  have hlook := fun n => hlk _ (hB.trans ((drewN_below _ n).mono hB.size))
  clear hlk
  generalize getL t m = l at hx hm ⊢
  by_cases h0 : l.length = 0
  · obtain rfl : l = [] := List.eq_nil_of_length_eq_zero h0
    obtain ⟨A, c, rfl⟩ := own_nil hx
    have HB : Aside (type_of% hB) := hB
    clear hx hB h0 hm
    obtain ⟨t0, t1, t2⟩ := t
    simp only [kv] at hlook hc
    go_enter Tryd.func25, Tryd.ntmps25
    go_wp2
    go_quiet (fail)
    go_wp2
    go_ret
    exact ⟨rfl, by repeat (first | exact HB.out | apply pw_below_drewN)⟩
  · obtain ⟨A, c, rfl⟩ := own_form hx
    obtain ⟨g, s, rfl, hs, g0, g1⟩ := sp_last hx (by omega)
    replace g0 := cell_below hB g0
    replace g1 := cell_below hB g1
    have HL : Hid (lastOf l = max s.1 s.2) := by show _ = _; unfold lastOf; rw [hs]
    have HB : Aside (type_of% hB) := hB
    clear hx hB hs
    obtain ⟨t0, t1, t2⟩ := t
    obtain ⟨a, b⟩ := s
    simp only [kv] at hlook hc
    dsimp only at g0 g1 HL
    have hpos : 0 < l.length := by omega
    have hz : ((l.length : Int) == 0) = false := beq_eq_false_iff_ne.2 (by omega)
    have hz2 : (l.length == 0) = false := beq_eq_false_iff_ne.2 (by omega)
    have hidx : (l.length : Int) - 1 = ((l.length - 1 : Nat) : Int) := by omega
    clear h0
    go_enter Tryd.func25, Tryd.ntmps25
    go_wp2
    go_quiet (fail)
    go_wp2
    go_quiet (fail)
    go_wp2
    go_ret
    exact ⟨by rw [HL.out]; rfl, by repeat (first | exact HB.out | apply pw_below_drewN)⟩

set_option maxHeartbeats 2000000 in
theorem store_there (p : Nat) (t : T) (w : World) {m : List (T × List Sp)} {wm : Int} {o : Own} (h : StoreAt w p m wm o) (hm : (getL t m).length < 4294967296) :
    Calls Tryd.prog 16 #[.pointer (some ⟨p, 0, none⟩), .agg #[.string t.f0, .string t.f1, .string t.f2]] w fun e w' => e = .returned (.bool (thereB (getL t m))) ∧ Below w.heap.size w w' := by
  obtain ⟨bS, x, hc, hx, hlk⟩ := h.look t
  clear h
  have hB := (Below.refl _ w).alloc (Nat.le_refl _) (.cells #[.string t.f0, .string t.f1, .string t.f2] 27)
  replace hc := cell_below hB hc
  have hlook := fun n => hlk _ (hB.trans ((drewN_below _ n).mono hB.size))
  clear hlk
  generalize getL t m = l at hx hm ⊢
  by_cases h0 : l.length = 0
  · obtain rfl : l = [] := List.eq_nil_of_length_eq_zero h0
    obtain ⟨A, c, rfl⟩ := own_nil hx
    have HB : Aside (type_of% hB) := hB
    clear hx hB h0 hm
    obtain ⟨t0, t1, t2⟩ := t
    simp only [kv] at hlook hc
    go_enter Tryd.func16, Tryd.ntmps16
    go_wp2
    go_quiet (fail)
    go_wp2
    go_ret
    exact ⟨rfl, by repeat (first | exact HB.out | apply pw_below_drewN)⟩
  · obtain ⟨A, c, rfl⟩ := own_form hx
    obtain ⟨g, s, rfl, hs, g0, g1⟩ := sp_last hx (by omega)
    replace g0 := cell_below hB g0
    replace g1 := cell_below hB g1
    have HL : Hid (thereB l = (s.2 == 0)) := by show _ = _; unfold thereB; rw [hs]
    have HB : Aside (type_of% hB) := hB
    clear hx hB hs
    obtain ⟨t0, t1, t2⟩ := t
    obtain ⟨a, b⟩ := s
    simp only [kv] at hlook hc
    dsimp only at g0 g1 HL
    have hpos : 0 < l.length := by omega
    have hz : decide (0 < (l.length : Int)) = true := decide_eq_true (by omega)
    have hz2 : decide (0 < l.length) = true := decide_eq_true (by omega)
    have hidx : (l.length : Int) - 1 = ((l.length - 1 : Nat) : Int) := by omega
    clear h0
    go_enter Tryd.func16, Tryd.ntmps16
    go_wp2
    go_quiet (fail)
    go_wp2
    go_ret
    exact ⟨by rw [HL.out]; rfl, by repeat (first | exact HB.out | apply pw_below_drewN)⟩

set_option maxHeartbeats 2000000 in
theorem store_readable (p : Nat) (rev : Int) (w : World) {m : List (T × List Sp)} {wm : Int} {o : Own} (h : StoreAt w p m wm o) :
    Calls Tryd.prog 21 #[.pointer (some ⟨p, 0, none⟩), .int .i64 rev] w fun e w' => e = .returned (.int .i64 (if rev < 0 then 1 else if rev < wm then 71 else 0)) ∧ Below w.heap.size w w' := by
  have hc := h.mark
  clear h
  have HB : Aside (Below w.heap.size w w) := Below.refl _ _
  by_cases c1 : rev < 0
  · have d1 : decide (rev < 0) = true := decide_eq_true c1
    rw [if_pos c1]
    go_enter Tryd.func21, Tryd.ntmps21
    go_wp2
    go_ret
    exact ⟨rfl, HB.out⟩
  · have d1 : decide (rev < 0) = false := decide_eq_false c1
    rw [if_neg c1]
    by_cases c2 : rev < wm
    · have d2 : decide (rev < wm) = true := decide_eq_true c2
      rw [if_pos c2]
      go_enter Tryd.func21, Tryd.ntmps21
      go_wp2
      go_ret
      exact ⟨rfl, HB.out⟩
    · have d2 : decide (rev < wm) = false := decide_eq_false c2
      rw [if_neg c2]
      go_enter Tryd.func21, Tryd.ntmps21
      go_wp2
      go_ret
      exact ⟨rfl, HB.out⟩
set_option maxHeartbeats 2000000 in
theorem contains_Sp (rev : Int) (r : Nat) (A : Option Addr) (c : Nat) (l : List Sp) (w : World) (h : ownSp w (.slice A l.length c) l) (hl : l.length < 4294967296) (hc : w.cell? ⟨r, 0, none⟩ = some (.int .i64 rev)) :
    Calls Tryd.prog 31 #[.slice A l.length c, .func (.func 32) #[] #[.pointer (some ⟨r, 0, none⟩)]] w fun e w' => e = .returned (.bool (l.any (spHas rev))) ∧ Below w.heap.size w w' := by
  have hI := index_at rev r A c l w h hl hc
  have HI : Aside (type_of% hI) := hI
  clear hI h hc
  have HN : Hid (decide (0 ≤ firstAt (spHas rev) l) = l.any (spHas rev)) := first_nonneg
  go_enter Tryd.func31, Tryd.ntmps31
  go_wp2_with (go_at_call 50; refine HI.out.mono ?_; rintro e w1 ⟨rfl, hb⟩; have HB1 : Aside _ := hb; clear hb)
  go_ret
  exact ⟨by rw [← HN.out]; rfl, HB1.out⟩
end Go.Proofs.YtelmbimmkdobaaaDoor.Pr

namespace Go.Proofs.YtelmbimmkdobaaaDoor.Pr
open Go.Shelf Go.RowKit Go.Lib Go.Sort Go.Proofs.YtelmbimmkdobaaaDoor
open Go.Proofs.YtelmbimmkdobaaaDoorW.PrintWords Go.Proofs.YtelmbimmkdobaaaDoorW.PrintLast Go.Proofs.YtelmbimmkdobaaaDoorW.PrintMore
attribute [local go_sem ↓] Go.wp_at_zero Go.wp_at_succ

set_option maxHeartbeats 4000000 in
set_option maxRecDepth 100000 in
theorem store_at (p : Nat) (t : T) (rev : Int) (w : World) {m : List (T × List Sp)} {wm : Int} {o : Own} (h : StoreAt w p m wm o) (hm : (getL t m).length < 4294967296) :
    Calls Tryd.prog 22 #[.pointer (some ⟨p, 0, none⟩), .agg #[.string t.f0, .string t.f1, .string t.f2], .int .i64 rev] w fun e w' => e = .returned (.bool ((getL t m).any (spHas rev))) ∧ Below w.heap.size w w' := by
  obtain ⟨bS, x, hc, hx, hlk⟩ := h.look t
  clear h
  have hB1 := (Below.refl _ w).alloc (Nat.le_refl _) (.cells #[.string t.f0, .string t.f1, .string t.f2] 27)
  have hB := hB1.alloc hB1.size (.cells #[.int .i64 rev] 2)
  replace hc := cell_below hB hc
  have hx2 := ownSp_same hx (fun b hb => hB.block b (ownB_lt hx hb))
  obtain ⟨A, c, rfl⟩ := own_form hx
  have HLk : Aside (type_of% hlk) := hlk
  have hcon := fun (W : World) (hW : Below (w.heap.size + 2) ((w.alloc (.cells #[.string t.f0, .string t.f1, .string t.f2] 27)).alloc (.cells #[.int .i64 rev] 2)) W) =>
    contains_Sp rev (w.heap.size + 1) A c (getL t m) W (ownSp_same hx2 (fun b hb => hW.block b (by have := ownB_lt hx hb; omega))) hm ((hW.cell (p := ⟨w.heap.size + 1, 0, none⟩) (show w.heap.size + 1 < w.heap.size + 2 by omega)).trans (by go_simp))
  have HK : Aside (type_of% hcon) := hcon
  have HB : Aside (Below w.heap.size w ((w.alloc (.cells #[.string t.f0, .string t.f1, .string t.f2] 27)).alloc (.cells #[.int .i64 rev] 2))) := hB
  clear hlk hcon hB1 hB hx hx2
  generalize (getL t m).any (spHas rev) = an at HK ⊢
  generalize (getL t m).length = n at HK HLk hm
  obtain ⟨t0, t1, t2⟩ := t
  simp only [kv] at HLk
  dsimp only at hc HK HB
  go_enter Tryd.func22, Tryd.ntmps22
  go_wp2_with fail
  go_region_held3 (fun w' => w'.cell? ⟨p, 0, none⟩ = some (.map (some bS)) ∧ w'.cell? ⟨w.heap.size, 0, none⟩ = some (.string t0) ∧ w'.cell? ⟨w.heap.size, 1, none⟩ = some (.string t1) ∧ w'.cell? ⟨w.heap.size, 2, none⟩ = some (.string t2) ∧ (Instr.lookup 45 (.map (some bS)) (.agg #[.string t0, .string t1, .string t2]) false).run Tryd.prog w' = .ok (.slice A n c) w')
    (first | (go_split_ands; exact ⟨by go_keep, by go_keep, by go_keep, by go_keep, HLk.out _ (by repeat (first | exact HB.out | apply below_drew1 | apply pw_below_drewN))⟩) | (go_split_ands; exact ⟨cell_below hb (by go_keep), cell_below hb (by go_keep), cell_below hb (by go_keep), cell_below hb (by go_keep), HLk.out _ (below_step (by repeat (first | exact HB.out | apply below_drew1 | apply pw_below_drewN)) hb)⟩))
    (first | (go_at_call 31; refine (HK.out _ ?_).mono ?_; (repeat (first | exact Below.refl _ _ | apply below_drew1 | apply pw_below_drewN)); rintro e w1 ⟨rfl, hb⟩))
  all_goals (go_wp2; go_ret; exact ⟨rfl, below_step (by repeat (first | exact HB.out | apply below_drew1 | apply pw_below_drewN)) hb⟩)

set_option maxHeartbeats 2000000 in
theorem store_Has (p : Nat) (t : T) (rev : Int) (w : World) {m : List (T × List Sp)} {wm : Int} {o : Own} (h : StoreAt w p m wm o) (hm : (getL t m).length < 4294967296) :
    Calls Tryd.prog 11 #[.pointer (some ⟨p, 0, none⟩), .agg #[.string t.f0, .string t.f1, .string t.f2], .int .i64 rev] w fun e w' => e = .returned (.tuple #[.bool (if rev < 0 then false else if rev < wm then false else (getL t m).any (spHas rev)), .int .i64 (if rev < 0 then 1 else if rev < wm then 71 else 0)]) ∧ Below w.heap.size w w' := by
  have hB := (Below.refl _ w).alloc (Nat.le_refl _) (.cells #[.string t.f0, .string t.f1, .string t.f2] 27)
  have h1 := store_readable p rev _ (h.below hB)
  have HB : Aside (type_of% hB) := hB
  have HH : Aside (StoreAt w p m wm o) := h
  clear h hB
  by_cases c1 : rev < 0
  · rw [if_pos c1] at h1
    rw [if_pos c1, if_pos c1]
    have H1 : Aside (type_of% h1) := h1
    clear h1
    obtain ⟨t0, t1, t2⟩ := t
    go_enter Tryd.func11, Tryd.ntmps11
    go_wp2_with (go_at_call 21; refine H1.out.mono ?_; rintro e w1 ⟨rfl, hb⟩; have HB1 : Aside _ := hb; clear hb)
    go_ret2
    exact ⟨rfl, HB.out.trans (HB1.out.mono HB.out.size)⟩
  · rw [if_neg c1] at h1
    rw [if_neg c1, if_neg c1]
    by_cases c2 : rev < wm
    · rw [if_pos c2] at h1
      rw [if_pos c2, if_pos c2]
      have H1 : Aside (type_of% h1) := h1
      clear h1
      obtain ⟨t0, t1, t2⟩ := t
      go_enter Tryd.func11, Tryd.ntmps11
      go_wp2_with (go_at_call 21; refine H1.out.mono ?_; rintro e w1 ⟨rfl, hb⟩; have HB1 : Aside _ := hb; clear hb)
      go_ret2
      exact ⟨rfl, HB.out.trans (HB1.out.mono HB.out.size)⟩
    · rw [if_neg c2] at h1
      rw [if_neg c2, if_neg c2]
      have H1 : Aside (type_of% h1) := h1
      have h2 := fun (W : World) (hW : Below w.heap.size w W) => store_at p t rev W (HH.out.below hW) hm
      have H2 : Aside (type_of% h2) := h2
      clear h2
      have HT := BoxT.new w t
      clear h1
      obtain ⟨t0, t1, t2⟩ := t
      dsimp only at HT
      go_enter Tryd.func11, Tryd.ntmps11
      go_wp2_with (first | (go_at_call 21; refine H1.out.mono ?_; rintro e w1 ⟨rfl, hb⟩; have hb1 := HT.below hb; obtain ⟨e0, e1, e2⟩ := hb1; have HB1 : Aside _ := hb; clear hb) | (go_at_call 22; refine (H2.out _ (HB.out.trans (HB1.out.mono HB.out.size))).mono ?_; rintro e w2 ⟨rfl, hb⟩; have HB2 : Aside _ := hb; clear hb))
      go_ret2
      exact ⟨rfl, (HB.out.trans (HB1.out.mono HB.out.size)).trans (HB2.out.mono (HB.out.trans (HB1.out.mono HB.out.size)).size)⟩
end Go.Proofs.YtelmbimmkdobaaaDoor.Pr

namespace Go.Proofs.YtelmbimmkdobaaaDoor.Pr
open Go.Shelf Go.RowKit Go.Lib Go.Sort Go.Proofs.YtelmbimmkdobaaaDoor
open Go.Proofs.YtelmbimmkdobaaaDoorW.PrintWords Go.Proofs.YtelmbimmkdobaaaDoorW.PrintLast Go.Proofs.YtelmbimmkdobaaaDoorW.PrintMore
attribute [local go_sem ↓] Go.wp_at_zero Go.wp_at_succ

def putL {κ : Type} [DecidableEq κ] (k : κ) (t : T) (ls : List (κ × List T)) : List (κ × List T) := if t ∈ getL k ls then ls else aput k (getL k ls ++ [t]) ls
theorem C_of_own {w : World} {A : Option Addr} {c : Nat} {l : List T} (h : ownTs w (.slice A l.length c) l) : Kd.C k27 w A l.length l := (Kd.R_reads' (R_T h)).2.2
theorem grown_after {w W w1 : World} {row : Option Nat} (hB : Below w.heap.size w W) (hg : W.grownBy w1 row) {b : Nat} (hb : b < w.heap.size) (hne : some b ≠ row) : w1.heap[b]? = w.heap[b]? :=
  (hg.block b (Nat.lt_of_lt_of_le hb hB.size) hne).trans (hB.block b hb)
theorem tag_inj {κ : Type} {ke : κ → Value} (hi : ∀ {a b : κ}, ke a = ke b → a = b) {c : Nat} {a b : κ} (h : (c, ke a) = (c, ke b)) : a = b := hi (congrArg Prod.snd h)

/-- The slice under a key has grown, and was stored. -/
theorem idx_append {κ : Type} [DecidableEq κ] {ke : κ → Value} (hi : ∀ {a b : κ}, ke a = ke b → a = b) {tI c : Nat} {w W w1 w2 : World} {q : Nat} {ls : List (κ × List T)} {o : Own} (hl : Lives o w) {bL : Nat} {v : List (κ × Value)}
    (h1 : w.heap[q]? = some (.cells #[.map (some bL)] tI (0, 0))) (h3 : Rep ownTs w ls v) (h4 : o q = some (c, nov)) (h5 : o bL = some (c + 1, nov)) (h6 : ∀ k x b, aget k v = some x → x.ownBlock = some b → o b = some (c + 2, ke k))
    (k : κ) (l : List T) {g n cap : Nat} (hB : Below w.heap.size w W) (hown : ownTs w1 (.slice (some ⟨g, 0, none⟩) n cap) l) (hgrow : W.grownBy w1 ((aget k v).getD nilS).ownBlock) (hat : ((aget k v).getD nilS).ownBlock = some g ∨ g = W.heap.size) (hlt : g < w1.heap.size)
    (hM : GMap ke w2 bL (aput k (.slice (some ⟨g, 0, none⟩) n cap) v)) (hput : w1.grownBy w2 (some bL)) : ∃ o', IdxAt ke tI c w2 q (aput k l ls) o' ∧ Lives o' w2 ∧ Moves c (c + 2) o o' w w2 := by
  have hold : ∀ b, ((aget k v).getD nilS).ownBlock = some b → o b = some (c + 2, ke k) := by
    intro b hb
    cases hv : aget k v with
    | none => rw [hv] at hb; cases hb
    | some x => rw [hv] at hb; exact h6 k x b hv hb
  have hlq := hl q _ h4
  have hlb := hl bL _ h5
  have s1 : w.heap.size ≤ w1.heap.size := Nat.le_trans hB.size hgrow.size
  have hkeep : ∀ b, b < w.heap.size → (∀ g', o b = some g' → g' ≠ (c + 1, nov) ∧ g' ≠ (c + 2, ke k)) → w2.heap[b]? = w.heap[b]? := by
    intro b hb hg
    have n1 : some b ≠ ((aget k v).getD nilS).ownBlock := fun e => (hg _ (hold b e.symm)).2 rfl
    have n2 : some b ≠ some bL := by
      rintro e; injection e with e; subst e
      exact (hg _ h5).1 rfl
    exact (hput.block b (Nat.lt_of_lt_of_le hb s1) n2).trans (grown_after hB hgrow hb n1)
  have hmk : ∀ b, b < w.heap.size → mark o g (c + 2, ke k) b = o b := by
    intro b hb
    by_cases e : b = g
    · subst e
      rw [mark_self]
      rcases hat with h | h
      · exact (hold b h).symm
      · have := hB.size; omega
    · exact mark_ne e
  refine ⟨mark o g (c + 2, ke k), ⟨bL, aput k (.slice (some ⟨g, 0, none⟩) n cap) v, ?_, hM, ?_, ?_, ?_, ?_⟩, ?_, ?_⟩
  · rw [hkeep q hlq (fun g' hg' => by rw [h4] at hg'; injection hg' with hg'; subst hg'; exact ⟨by simp, by simp⟩)]; exact h1
  · have hne : g ≠ bL := by
      rintro rfl
      rcases hat with h | h
      · have := hold g h; rw [h5] at this; injection this with this; simp at this
      · have := hB.size; omega
    have hown2 : ownTs w2 (.slice (some ⟨g, 0, none⟩) n cap) l := ownTs_same hown (fun b hb => by
      have : g = b := by simpa [Value.ownBlock] using hb
      subst this
      exact hput.block g hlt (fun e => hne (by injection e)))
    refine ⟨by rw [aput_keys, aput_keys, h3.1], fun u l' x' e1 e2 => ?_⟩
    rw [aget_aput] at e1 e2
    by_cases e : u = k
    · rw [if_pos e] at e1 e2
      injection e1 with e1
      injection e2 with e2
      subst e1; subst e2; exact hown2
    · rw [if_neg e] at e1 e2
      refine ownTs_same (h3.2 u l' x' e1 e2) (fun b hb => ?_)
      have ht := h6 u x' b e2 hb
      exact hkeep b (hl b _ ht) (fun g' hg' => by
        rw [ht] at hg'; injection hg' with hg'; subst hg'
        exact ⟨by simp, fun h => e (tag_inj hi h)⟩)
  · rw [hmk q hlq]; exact h4
  · rw [hmk bL hlb]; exact h5
  · intro u x b e1 e2
    rw [aget_aput] at e1
    by_cases e : u = k
    · rw [if_pos e] at e1
      injection e1 with e1
      subst e1
      have : g = b := by simpa [Value.ownBlock] using e2
      subst this
      rw [mark_self, e]
    · rw [if_neg e] at e1
      have ht := h6 u x b e1 e2
      rw [hmk b (hl b _ ht)]; exact ht
  · exact hl.mark (Nat.le_trans s1 hput.size) (Nat.lt_of_lt_of_le hlt hput.size) _
  · refine ⟨hput.os.trans (hgrow.os.trans hB.os), hput.tape.trans (hgrow.tape.trans hB.tape), hput.output.trans (hgrow.output.trans hB.output), Nat.le_trans s1 hput.size, fun b hb hg => hkeep b hb (fun g' hg' => ?_), hmk, fun b g' hb hg' => ?_⟩
    · have := hg g' hg'
      refine ⟨?_, ?_⟩
      · rintro rfl; exact this ⟨by simp, by simp⟩
      · rintro rfl; exact this ⟨by simp, by simp⟩
    · by_cases e : b = g
      · subst e; rw [mark_self] at hg'; injection hg' with hg'; subst hg'; exact ⟨by simp, by simp⟩
      · rw [mark_ne e] at hg'; have := hl b g' hg'; omega
theorem ne_of {κ : Type} [DecidableEq κ] {ke : κ → Value} {c : Nat} {w : World} {o : Own} {v : List (κ × Value)} {k : κ} {x : Value} {l : List T} (hx : ownTs w x l) (hE : (aget k v).getD nilS = x) {q i : Nat} (h4 : o q = some (c + i, nov)) (hi : i < 2) (h6 : ∀ k x b, aget k v = some x → x.ownBlock = some b → o b = some (c + 2, ke k)) :
    some q ≠ x.ownBlock ∧ ∀ b, w.heap.size ≤ b → some b ≠ x.ownBlock := by
  refine ⟨fun e => ?_, fun b hb e => by have := ownB_lt hx e.symm; omega⟩
  cases hv : aget k v with
  | none => rw [hv] at hE; rw [← hE] at e; cases e
  | some y =>
    rw [hv] at hE
    have hE : y = x := hE
    subst hE
    have := h6 k y q hv e.symm
    rw [h4] at this; injection this with this; injection this with this; omega
theorem own_snoc {w : World} {g cap : Nat} {l : List T} {t : T} (h : w.ownsRow 0 27 3 (.slice (some ⟨g, 0, none⟩) (l.length + 1) cap) (l.length + 1) (l.flatMap enT ++ [.string t.f0, .string t.f1, .string t.f2])) : ownTs w (.slice (some ⟨g, 0, none⟩) (l.length + 1) cap) (l ++ [t]) := by
  unfold ownTs
  rw [List.flatMap_append, List.length_append]
  exact h

set_option maxHeartbeats 8000000 in
set_option maxRecDepth 100000 in
theorem putO (q : Nat) (k : PK) (t : T) (w : World) {ls : List (PK × List T)} {o : Own} (h : IdxAt kp 66 1 w q ls o) (hl : Lives o w) (hlen : (getL k ls).length < 2147483648) :
    Calls Tryd.prog 26 #[.pointer (some ⟨q, 0, none⟩), (kp k), .agg #[.string t.f0, .string t.f1, .string t.f2]] w fun e w' => e = .returned (.tuple #[]) ∧ ∃ o', IdxAt kp 66 1 w' q (putL k t ls) o' ∧ Lives o' w' ∧ Moves 1 (1 + 2) o o' w w' := by
  have hAt := h
  obtain ⟨bL, v, h1, h2, h3, h4, h5, h6⟩ := h
  have hx := h3.get (ownTs_nil w) k
  obtain ⟨A, c, hAc⟩ := own_form hx
  have hlk := fun (W : World) (hW : Below w.heap.size w W) => look1 keyP Tryd.underlying64 zeroTs (h2.kept (hW.block _ h2.lt)) k
  have hc : w.cell? ⟨q, 0, none⟩ = some (.map (some bL)) := (blk_cell h1 0).trans rfl
  rw [hAc] at hx hlk
  obtain ⟨l, hlE⟩ : ∃ l, l = getL k ls := ⟨_, rfl⟩
  rw [← hlE] at hx hlen hAc hlk
  have hcon := fun (W : World) (hW : Below w.heap.size w W) => contains_T A c l W (C_of_own (ownTs_same hx (fun b hb => hW.block b (ownB_lt hx hb)))) t
  have HC : Aside (type_of% hcon) := hcon
  have HLk : Aside (type_of% hlk) := hlk
  have HX : Aside (ownTs w (.slice A l.length c) l) := hx
  have HE : Hid (l = getL k ls ∧ (aget k v).getD nilS = .slice A l.length c) := ⟨hlE, hAc⟩
  have HI : Aside (type_of% h1 ∧ GMap kp w bL v ∧ Rep ownTs w ls v ∧ o q = some (1, nov) ∧ o bL = some (1 + 1, nov) ∧ (∀ k x b, aget k v = some x → x.ownBlock = some b → o b = some (1 + 2, kp k)) ∧ Lives o w ∧ IdxAt kp 66 1 w q ls o) := ⟨h1, h2, h3, h4, h5, h6, hl, hAt⟩
  clear hcon hlk hx hlE hAc h1 h2 h3 h4 h5 h6 hl hAt
  obtain ⟨t0, t1, t2⟩ := t
  obtain ⟨k0, k1⟩ := k
  have hB : Below w.heap.size w ((w.alloc (.cells #[.string k0, .string k1] 48)).alloc (.cells #[.string t0, .string t1, .string t2] 27)) := ((Below.refl _ w).alloc (Nat.le_refl _) _).alloc (by simp) _
  replace hc := cell_below hB hc
  have HB : Aside (type_of% hB) := hB
  clear hB
  simp only [kp] at HLk
  dsimp only at HC
  by_cases hin : (⟨t0, t1, t2⟩ : T) ∈ l
  · have HD : Hid (decide ((⟨t0, t1, t2⟩ : T) ∈ l) = true ∧ (⟨t0, t1, t2⟩ : T) ∈ l) := ⟨decide_eq_true hin, hin⟩
    clear hin
    dsimp only [kp]
    go_enter Tryd.func26, Tryd.ntmps26
    go_wp2_with fail
    go_region_held3 (fun w' => w'.cell? ⟨q, 0, none⟩ = some (.map (some bL)) ∧ w'.cell? ⟨w.heap.size, 0, none⟩ = some (.string k0) ∧ w'.cell? ⟨w.heap.size, 1, none⟩ = some (.string k1) ∧ w'.cell? ⟨w.heap.size + 1, 0, none⟩ = some (.string t0) ∧ w'.cell? ⟨w.heap.size + 1, 1, none⟩ = some (.string t1) ∧ w'.cell? ⟨w.heap.size + 1, 2, none⟩ = some (.string t2) ∧ (Instr.lookup 64 (.map (some bL)) (.agg #[.string k0, .string k1]) false).run Tryd.prog w' = .ok (.slice A l.length c) w')
      (first | (go_split_ands; exact ⟨by go_keep, by go_keep, by go_keep, by go_keep, by go_keep, by go_keep, HLk.out _ (by repeat (first | exact HB.out | apply below_alloc | apply below_drew1 | apply pw_below_drewN))⟩) | (go_split_ands; exact ⟨cell_below hb (by go_keep), cell_below hb (by go_keep), cell_below hb (by go_keep), cell_below hb (by go_keep), cell_below hb (by go_keep), cell_below hb (by go_keep), HLk.out _ (below_step (by repeat (first | exact HB.out | apply below_alloc | apply below_drew1 | apply pw_below_drewN)) hb)⟩))
      (first | (go_at_call 38; refine (HC.out _ (by repeat (first | exact HB.out | apply below_alloc | apply below_drew1 | apply pw_below_drewN))).mono ?_; rintro e w1 ⟨rfl, hb⟩; rw [HD.out.1]))
    all_goals (go_wp2; go_end0; have hBf := below_step (by repeat (first | exact HB.out | apply below_alloc | apply below_drew1 | apply pw_below_drewN)) hb; exact ⟨rfl, o, by rw [putL, if_pos (by rw [← HE.out.1]; exact HD.out.2)]; exact HI.out.2.2.2.2.2.2.2.kept (fun b g hg _ _ => ⟨hBf.block b (HI.out.2.2.2.2.2.2.1 b g hg), rfl⟩), HI.out.2.2.2.2.2.2.1.mono hBf.size, Moves.of_below _ _ HI.out.2.2.2.2.2.2.1 hBf⟩)
  · have HD : Hid (decide ((⟨t0, t1, t2⟩ : T) ∈ l) = false ∧ ¬ (⟨t0, t1, t2⟩ : T) ∈ l) := ⟨decide_eq_false hin, hin⟩
    clear hin
    dsimp only [kp]
    go_enter Tryd.func26, Tryd.ntmps26
    go_wp2_with fail
    go_region_held3 (fun w' => w'.cell? ⟨q, 0, none⟩ = some (.map (some bL)) ∧ w'.cell? ⟨w.heap.size, 0, none⟩ = some (.string k0) ∧ w'.cell? ⟨w.heap.size, 1, none⟩ = some (.string k1) ∧ w'.cell? ⟨w.heap.size + 1, 0, none⟩ = some (.string t0) ∧ w'.cell? ⟨w.heap.size + 1, 1, none⟩ = some (.string t1) ∧ w'.cell? ⟨w.heap.size + 1, 2, none⟩ = some (.string t2) ∧ (Instr.lookup 64 (.map (some bL)) (.agg #[.string k0, .string k1]) false).run Tryd.prog w' = .ok (.slice A l.length c) w')
      (first | (go_split_ands; exact ⟨by go_keep, by go_keep, by go_keep, by go_keep, by go_keep, by go_keep, HLk.out _ (by repeat (first | exact HB.out | apply below_alloc | apply below_drew1 | apply pw_below_drewN))⟩) | (go_split_ands; exact ⟨cell_below hb (by go_keep), cell_below hb (by go_keep), cell_below hb (by go_keep), cell_below hb (by go_keep), cell_below hb (by go_keep), cell_below hb (by go_keep), HLk.out _ (below_step (by repeat (first | exact HB.out | apply below_alloc | apply below_drew1 | apply pw_below_drewN)) hb)⟩))
      (first | (go_at_call 38; refine (HC.out _ (by repeat (first | exact HB.out | apply below_alloc | apply below_drew1 | apply pw_below_drewN))).mono ?_; rintro e w1 ⟨rfl, hb⟩; rw [HD.out.1]))
    all_goals (obtain ⟨k0_, k1_, k2_, k3_, k4_, k5_, klk⟩ : w1.cell? ⟨q, 0, none⟩ = some (.map (some bL)) ∧ w1.cell? ⟨w.heap.size, 0, none⟩ = some (.string k0) ∧ w1.cell? ⟨w.heap.size, 1, none⟩ = some (.string k1) ∧ w1.cell? ⟨w.heap.size + 1, 0, none⟩ = some (.string t0) ∧ w1.cell? ⟨w.heap.size + 1, 1, none⟩ = some (.string t1) ∧ w1.cell? ⟨w.heap.size + 1, 2, none⟩ = some (.string t2) ∧ (Instr.lookup 64 (.map (some bL)) (.agg #[.string k0, .string k1]) false).run Tryd.prog w1 = .ok (.slice A l.length c) w1 := by assumption)
    all_goals (have HB2 : Aside (Below w.heap.size w w1) := below_step (by repeat (first | exact HB.out | apply below_alloc | apply below_drew1 | apply pw_below_drewN)) hb)
    all_goals clear hb hc klk
    all_goals have hl1 := HLk.out w1.drew (by repeat (first | exact HB2.out | apply below_alloc | apply below_drew1 | apply pw_below_drewN))
    all_goals have hl2 := fun ob => HLk.out (w1.alloc ob).drew (by repeat (first | exact HB2.out | apply below_alloc | apply below_drew1 | apply pw_below_drewN))
    all_goals obtain ⟨i0, hi0, hz0, hz1, hz2⟩ := info_parts info27
    all_goals (have NE : Aside (some q ≠ (Value.slice A l.length c).ownBlock ∧ ∀ b, w.heap.size ≤ b → some b ≠ (Value.slice A l.length c).ownBlock) := ne_of (i := 0) HX.out HE.out.2 HI.out.2.2.2.1 (by omega) HI.out.2.2.2.2.2.1)
    all_goals (have NB : Aside (q ≠ bL ∧ bL < w.heap.size ∧ some bL ≠ (Value.slice A l.length c).ownBlock) := ⟨by rintro rfl; have h := HI.out.2.2.2.1.symm.trans HI.out.2.2.2.2.1; injection h with h; simp at h, HI.out.2.1.lt, (ne_of (i := 1) HX.out HE.out.2 HI.out.2.2.2.2.1 (by omega) HI.out.2.2.2.2.2.1).1⟩)
    all_goals go_wp2_with fail
    all_goals go_region_held3 (fun w' => w'.cell? ⟨q, 0, none⟩ = some (.map (some bL)) ∧ w'.cell? ⟨w.heap.size, 0, none⟩ = some (.string k0) ∧ w'.cell? ⟨w.heap.size, 1, none⟩ = some (.string k1) ∧ w'.cell? ⟨w.heap.size + 1, 0, none⟩ = some (.string t0) ∧ w'.cell? ⟨w.heap.size + 1, 1, none⟩ = some (.string t1) ∧ w'.cell? ⟨w.heap.size + 1, 2, none⟩ = some (.string t2))
      (first | (go_split_ands; exact ⟨by go_keep, by go_keep, by go_keep, by go_keep, by go_keep, by go_keep⟩) | (go_split_ands; exact ⟨by assumption, by assumption, by assumption, by assumption, by assumption, by assumption⟩))
      ((refine step_append_lies _ (by rfl) _ _ _ (by rfl) 0 27 i0 _ 3 48 Tryd.underlying63 hi0 hz0 hz1 hz2 rfl (by omega) (.slice A l.length c) l.length (l.flatMap enT) (by rfl) (ownTs_same HX.out (fun b hb => ((by repeat (first | exact HB2.out | apply below_alloc | apply below_drew1 | apply pw_below_drewN)) : Below w.heap.size w _).block b (ownB_lt HX.out hb))) ⟨w1.heap.size, 0, none⟩ 1 1 [.string t0, .string t1, .string t2] (by rfl) (by rfl) (World.news_of_block (cs := #[.string t0, .string t1, .string t2]) (t := 27) (fr := (0, 0)) (heap_alloc_new w1 _)) (by simp [Value.oneCell']) (by omega) (by unfold maxLen; omega) (by omega) (Nat.zero_le _) (w1.heap.size + 1) (by simp) ?_; intro g cap w2 hown1 hgrow hat hlt; obtain ⟨m0_, m1_, m2_, m3_, m4_, m5_⟩ : w2.cell? ⟨q, 0, none⟩ = some (.map (some bL)) ∧ w2.cell? ⟨w.heap.size, 0, none⟩ = some (.string k0) ∧ w2.cell? ⟨w.heap.size, 1, none⟩ = some (.string k1) ∧ w2.cell? ⟨w.heap.size + 1, 0, none⟩ = some (.string t0) ∧ w2.cell? ⟨w.heap.size + 1, 1, none⟩ = some (.string t1) ∧ w2.cell? ⟨w.heap.size + 1, 2, none⟩ = some (.string t2) := ⟨hgrow.cell (by go_keep) NE.out.1, hgrow.cell (by go_keep) (NE.out.2 _ (by simp)), hgrow.cell (by go_keep) (NE.out.2 _ (by simp)), hgrow.cell (by go_keep) (NE.out.2 _ (by simp)), hgrow.cell (by go_keep) (NE.out.2 _ (by simp)), hgrow.cell (by go_keep) (NE.out.2 _ (by simp))⟩; have hG := HI.out.2.1.kept (grown_after ((by repeat (first | exact HB2.out | apply below_alloc | apply below_drew1 | apply pw_below_drewN)) : Below w.heap.size w _) hgrow NB.out.2.1 NB.out.2.2); obtain ⟨w3, hrun, hM, hg3⟩ := g_put keyP Tryd.underlying64 hG (k0, k1) (.slice (some ⟨g, 0, none⟩) (l.length + 1) cap); simp only [kp] at hrun; obtain ⟨n0_, n1_, n2_, n3_, n4_, n5_⟩ : w3.cell? ⟨q, 0, none⟩ = some (.map (some bL)) ∧ w3.cell? ⟨w.heap.size, 0, none⟩ = some (.string k0) ∧ w3.cell? ⟨w.heap.size, 1, none⟩ = some (.string k1) ∧ w3.cell? ⟨w.heap.size + 1, 0, none⟩ = some (.string t0) ∧ w3.cell? ⟨w.heap.size + 1, 1, none⟩ = some (.string t1) ∧ w3.cell? ⟨w.heap.size + 1, 2, none⟩ = some (.string t2) := ⟨hg3.cell m0_ (fun e => NB.out.1 (by injection e)), hg3.cell m1_ (fun e => by have := NB.out.2.1; injection e with e; simp at e; omega), hg3.cell m2_ (fun e => by have := NB.out.2.1; injection e with e; simp at e; omega), hg3.cell m3_ (fun e => by have := NB.out.2.1; injection e with e; simp at e; omega), hg3.cell m4_ (fun e => by have := NB.out.2.1; injection e with e; simp at e; omega), hg3.cell m5_ (fun e => by have := NB.out.2.1; injection e with e; simp at e; omega)⟩; have HR : Aside (type_of% hown1 ∧ type_of% hgrow ∧ type_of% hat ∧ type_of% hlt ∧ type_of% hM ∧ type_of% hg3) := ⟨hown1, hgrow, hat, hlt, hM, hg3⟩; clear hown1 hgrow hat hlt hM hg3 hG))
    all_goals (go_wp2; go_end0)
    all_goals (refine ⟨rfl, ?_⟩; rw [putL, if_neg (by rw [← HE.out.1]; exact HD.out.2), ← HE.out.1]; exact idx_append (W := (w1.alloc (.cells #[.string t0, .string t1, .string t2] 27)).drew) keyP.inj HI.out.2.2.2.2.2.2.1 HI.out.1 HI.out.2.2.1 HI.out.2.2.2.1 HI.out.2.2.2.2.1 HI.out.2.2.2.2.2.1 _ _ ((by repeat (first | exact HB2.out | apply below_alloc | apply below_drew1 | apply pw_below_drewN)) : Below w.heap.size w _) (own_snoc (t := ⟨t0, t1, t2⟩) HR.out.1) (by rw [HE.out.2]; exact HR.out.2.1) (by rw [HE.out.2]; simpa using HR.out.2.2.1) HR.out.2.2.2.1 HR.out.2.2.2.2.1 HR.out.2.2.2.2.2)

set_option maxHeartbeats 8000000 in
set_option maxRecDepth 100000 in
theorem putU (q : Nat) (k : ByteArray) (t : T) (w : World) {ls : List (ByteArray × List T)} {o : Own} (h : IdxAt Value.string 70 4 w q ls o) (hl : Lives o w) (hlen : (getL k ls).length < 2147483648) :
    Calls Tryd.prog 27 #[.pointer (some ⟨q, 0, none⟩), (.string k), .agg #[.string t.f0, .string t.f1, .string t.f2]] w fun e w' => e = .returned (.tuple #[]) ∧ ∃ o', IdxAt Value.string 70 4 w' q (putL k t ls) o' ∧ Lives o' w' ∧ Moves 4 (4 + 2) o o' w w' := by
  have hAt := h
  obtain ⟨bL, v, h1, h2, h3, h4, h5, h6⟩ := h
  have hx := h3.get (ownTs_nil w) k
  obtain ⟨A, c, hAc⟩ := own_form hx
  have hlk := fun (W : World) (hW : Below w.heap.size w W) => look1 keyS Tryd.underlying68 zeroTs (h2.kept (hW.block _ h2.lt)) k
  have hc : w.cell? ⟨q, 0, none⟩ = some (.map (some bL)) := (blk_cell h1 0).trans rfl
  rw [hAc] at hx hlk
  obtain ⟨l, hlE⟩ : ∃ l, l = getL k ls := ⟨_, rfl⟩
  rw [← hlE] at hx hlen hAc hlk
  have hcon := fun (W : World) (hW : Below w.heap.size w W) => contains_T A c l W (C_of_own (ownTs_same hx (fun b hb => hW.block b (ownB_lt hx hb)))) t
  have HC : Aside (type_of% hcon) := hcon
  have HLk : Aside (type_of% hlk) := hlk
  have HX : Aside (ownTs w (.slice A l.length c) l) := hx
  have HE : Hid (l = getL k ls ∧ (aget k v).getD nilS = .slice A l.length c) := ⟨hlE, hAc⟩
  have HI : Aside (type_of% h1 ∧ GMap Value.string w bL v ∧ Rep ownTs w ls v ∧ o q = some (4, nov) ∧ o bL = some (4 + 1, nov) ∧ (∀ k x b, aget k v = some x → x.ownBlock = some b → o b = some (4 + 2, Value.string k)) ∧ Lives o w ∧ IdxAt Value.string 70 4 w q ls o) := ⟨h1, h2, h3, h4, h5, h6, hl, hAt⟩
  clear hcon hlk hx hlE hAc h1 h2 h3 h4 h5 h6 hl hAt
  obtain ⟨t0, t1, t2⟩ := t
  skip
  have hB : Below w.heap.size w (w.alloc (.cells #[.string t0, .string t1, .string t2] 27)) := (Below.refl _ w).alloc (Nat.le_refl _) _
  replace hc := cell_below hB hc
  have HB : Aside (type_of% hB) := hB
  clear hB
  skip
  dsimp only at HC
  by_cases hin : (⟨t0, t1, t2⟩ : T) ∈ l
  · have HD : Hid (decide ((⟨t0, t1, t2⟩ : T) ∈ l) = true ∧ (⟨t0, t1, t2⟩ : T) ∈ l) := ⟨decide_eq_true hin, hin⟩
    clear hin
    skip
    go_enter Tryd.func27, Tryd.ntmps27
    go_wp2_with fail
    go_region_held3 (fun w' => w'.cell? ⟨q, 0, none⟩ = some (.map (some bL)) ∧ w'.cell? ⟨w.heap.size, 0, none⟩ = some (.string t0) ∧ w'.cell? ⟨w.heap.size, 1, none⟩ = some (.string t1) ∧ w'.cell? ⟨w.heap.size, 2, none⟩ = some (.string t2) ∧ (Instr.lookup 68 (.map (some bL)) (.string k) false).run Tryd.prog w' = .ok (.slice A l.length c) w')
      (first | (go_split_ands; exact ⟨by go_keep, by go_keep, by go_keep, by go_keep, HLk.out _ (by repeat (first | exact HB.out | apply below_alloc | apply below_drew1 | apply pw_below_drewN))⟩) | (go_split_ands; exact ⟨cell_below hb (by go_keep), cell_below hb (by go_keep), cell_below hb (by go_keep), cell_below hb (by go_keep), HLk.out _ (below_step (by repeat (first | exact HB.out | apply below_alloc | apply below_drew1 | apply pw_below_drewN)) hb)⟩))
      (first | (go_at_call 38; refine (HC.out _ (by repeat (first | exact HB.out | apply below_alloc | apply below_drew1 | apply pw_below_drewN))).mono ?_; rintro e w1 ⟨rfl, hb⟩; rw [HD.out.1]))
    all_goals (go_wp2; go_end0; have hBf := below_step (by repeat (first | exact HB.out | apply below_alloc | apply below_drew1 | apply pw_below_drewN)) hb; exact ⟨rfl, o, by rw [putL, if_pos (by rw [← HE.out.1]; exact HD.out.2)]; exact HI.out.2.2.2.2.2.2.2.kept (fun b g hg _ _ => ⟨hBf.block b (HI.out.2.2.2.2.2.2.1 b g hg), rfl⟩), HI.out.2.2.2.2.2.2.1.mono hBf.size, Moves.of_below _ _ HI.out.2.2.2.2.2.2.1 hBf⟩)
  · have HD : Hid (decide ((⟨t0, t1, t2⟩ : T) ∈ l) = false ∧ ¬ (⟨t0, t1, t2⟩ : T) ∈ l) := ⟨decide_eq_false hin, hin⟩
    clear hin
    skip
    go_enter Tryd.func27, Tryd.ntmps27
    go_wp2_with fail
    go_region_held3 (fun w' => w'.cell? ⟨q, 0, none⟩ = some (.map (some bL)) ∧ w'.cell? ⟨w.heap.size, 0, none⟩ = some (.string t0) ∧ w'.cell? ⟨w.heap.size, 1, none⟩ = some (.string t1) ∧ w'.cell? ⟨w.heap.size, 2, none⟩ = some (.string t2) ∧ (Instr.lookup 68 (.map (some bL)) (.string k) false).run Tryd.prog w' = .ok (.slice A l.length c) w')
      (first | (go_split_ands; exact ⟨by go_keep, by go_keep, by go_keep, by go_keep, HLk.out _ (by repeat (first | exact HB.out | apply below_alloc | apply below_drew1 | apply pw_below_drewN))⟩) | (go_split_ands; exact ⟨cell_below hb (by go_keep), cell_below hb (by go_keep), cell_below hb (by go_keep), cell_below hb (by go_keep), HLk.out _ (below_step (by repeat (first | exact HB.out | apply below_alloc | apply below_drew1 | apply pw_below_drewN)) hb)⟩))
      (first | (go_at_call 38; refine (HC.out _ (by repeat (first | exact HB.out | apply below_alloc | apply below_drew1 | apply pw_below_drewN))).mono ?_; rintro e w1 ⟨rfl, hb⟩; rw [HD.out.1]))
    all_goals (obtain ⟨k0_, k1_, k2_, k3_, klk⟩ : w1.cell? ⟨q, 0, none⟩ = some (.map (some bL)) ∧ w1.cell? ⟨w.heap.size, 0, none⟩ = some (.string t0) ∧ w1.cell? ⟨w.heap.size, 1, none⟩ = some (.string t1) ∧ w1.cell? ⟨w.heap.size, 2, none⟩ = some (.string t2) ∧ (Instr.lookup 68 (.map (some bL)) (.string k) false).run Tryd.prog w1 = .ok (.slice A l.length c) w1 := by assumption)
    all_goals (have HB2 : Aside (Below w.heap.size w w1) := below_step (by repeat (first | exact HB.out | apply below_alloc | apply below_drew1 | apply pw_below_drewN)) hb)
    all_goals clear hb hc klk
    all_goals have hl1 := HLk.out w1.drew (by repeat (first | exact HB2.out | apply below_alloc | apply below_drew1 | apply pw_below_drewN))
    all_goals have hl2 := fun ob => HLk.out (w1.alloc ob).drew (by repeat (first | exact HB2.out | apply below_alloc | apply below_drew1 | apply pw_below_drewN))
    all_goals obtain ⟨i0, hi0, hz0, hz1, hz2⟩ := info_parts info27
    all_goals (have NE : Aside (some q ≠ (Value.slice A l.length c).ownBlock ∧ ∀ b, w.heap.size ≤ b → some b ≠ (Value.slice A l.length c).ownBlock) := ne_of (i := 0) HX.out HE.out.2 HI.out.2.2.2.1 (by omega) HI.out.2.2.2.2.2.1)
    all_goals (have NB : Aside (q ≠ bL ∧ bL < w.heap.size ∧ some bL ≠ (Value.slice A l.length c).ownBlock) := ⟨by rintro rfl; have h := HI.out.2.2.2.1.symm.trans HI.out.2.2.2.2.1; injection h with h; simp at h, HI.out.2.1.lt, (ne_of (i := 1) HX.out HE.out.2 HI.out.2.2.2.2.1 (by omega) HI.out.2.2.2.2.2.1).1⟩)
    all_goals go_wp2_with fail
    all_goals go_region_held3 (fun w' => w'.cell? ⟨q, 0, none⟩ = some (.map (some bL)) ∧ w'.cell? ⟨w.heap.size, 0, none⟩ = some (.string t0) ∧ w'.cell? ⟨w.heap.size, 1, none⟩ = some (.string t1) ∧ w'.cell? ⟨w.heap.size, 2, none⟩ = some (.string t2))
      (first | (go_split_ands; exact ⟨by go_keep, by go_keep, by go_keep, by go_keep⟩) | (go_split_ands; exact ⟨by assumption, by assumption, by assumption, by assumption⟩))
      ((refine step_append_lies _ (by rfl) _ _ _ (by rfl) 0 27 i0 _ 3 48 Tryd.underlying63 hi0 hz0 hz1 hz2 rfl (by omega) (.slice A l.length c) l.length (l.flatMap enT) (by rfl) (ownTs_same HX.out (fun b hb => ((by repeat (first | exact HB2.out | apply below_alloc | apply below_drew1 | apply pw_below_drewN)) : Below w.heap.size w _).block b (ownB_lt HX.out hb))) ⟨w1.heap.size, 0, none⟩ 1 1 [.string t0, .string t1, .string t2] (by rfl) (by rfl) (World.news_of_block (cs := #[.string t0, .string t1, .string t2]) (t := 27) (fr := (0, 0)) (heap_alloc_new w1 _)) (by simp [Value.oneCell']) (by omega) (by unfold maxLen; omega) (by omega) (Nat.zero_le _) (w1.heap.size + 1) (by simp) ?_; intro g cap w2 hown1 hgrow hat hlt; obtain ⟨m0_, m1_, m2_, m3_⟩ : w2.cell? ⟨q, 0, none⟩ = some (.map (some bL)) ∧ w2.cell? ⟨w.heap.size, 0, none⟩ = some (.string t0) ∧ w2.cell? ⟨w.heap.size, 1, none⟩ = some (.string t1) ∧ w2.cell? ⟨w.heap.size, 2, none⟩ = some (.string t2) := ⟨hgrow.cell (by go_keep) NE.out.1, hgrow.cell (by go_keep) (NE.out.2 _ (by simp)), hgrow.cell (by go_keep) (NE.out.2 _ (by simp)), hgrow.cell (by go_keep) (NE.out.2 _ (by simp))⟩; have hG := HI.out.2.1.kept (grown_after ((by repeat (first | exact HB2.out | apply below_alloc | apply below_drew1 | apply pw_below_drewN)) : Below w.heap.size w _) hgrow NB.out.2.1 NB.out.2.2); obtain ⟨w3, hrun, hM, hg3⟩ := g_put keyS Tryd.underlying68 hG k (.slice (some ⟨g, 0, none⟩) (l.length + 1) cap); skip; obtain ⟨n0_, n1_, n2_, n3_⟩ : w3.cell? ⟨q, 0, none⟩ = some (.map (some bL)) ∧ w3.cell? ⟨w.heap.size, 0, none⟩ = some (.string t0) ∧ w3.cell? ⟨w.heap.size, 1, none⟩ = some (.string t1) ∧ w3.cell? ⟨w.heap.size, 2, none⟩ = some (.string t2) := ⟨hg3.cell m0_ (fun e => NB.out.1 (by injection e)), hg3.cell m1_ (fun e => by have := NB.out.2.1; injection e with e; simp at e; omega), hg3.cell m2_ (fun e => by have := NB.out.2.1; injection e with e; simp at e; omega), hg3.cell m3_ (fun e => by have := NB.out.2.1; injection e with e; simp at e; omega)⟩; have HR : Aside (type_of% hown1 ∧ type_of% hgrow ∧ type_of% hat ∧ type_of% hlt ∧ type_of% hM ∧ type_of% hg3) := ⟨hown1, hgrow, hat, hlt, hM, hg3⟩; clear hown1 hgrow hat hlt hM hg3 hG))
    all_goals (go_wp2; go_end0)
    all_goals (refine ⟨rfl, ?_⟩; rw [putL, if_neg (by rw [← HE.out.1]; exact HD.out.2), ← HE.out.1]; exact idx_append (W := (w1.alloc (.cells #[.string t0, .string t1, .string t2] 27)).drew) keyS.inj HI.out.2.2.2.2.2.2.1 HI.out.1 HI.out.2.2.1 HI.out.2.2.2.1 HI.out.2.2.2.2.1 HI.out.2.2.2.2.2.1 _ _ ((by repeat (first | exact HB2.out | apply below_alloc | apply below_drew1 | apply pw_below_drewN)) : Below w.heap.size w _) (own_snoc (t := ⟨t0, t1, t2⟩) HR.out.1) (by rw [HE.out.2]; exact HR.out.2.1) (by rw [HE.out.2]; simpa using HR.out.2.2.1) HR.out.2.2.2.1 HR.out.2.2.2.2.1 HR.out.2.2.2.2.2)
end Go.Proofs.YtelmbimmkdobaaaDoor.Pr

namespace Go.Proofs.YtelmbimmkdobaaaDoor.Pr
open Go.Shelf Go.RowKit Go.Lib Go.Sort Go.Proofs.YtelmbimmkdobaaaDoor
open Go.Proofs.YtelmbimmkdobaaaDoorW.PrintWords Go.Proofs.YtelmbimmkdobaaaDoorW.PrintLast Go.Proofs.YtelmbimmkdobaaaDoorW.PrintMore
attribute [local go_sem ↓] Go.wp_at_zero Go.wp_at_succ

def SpansAt (w : World) (bS : Nat) (m : List (T × List Sp)) (o : Own) : Prop :=
  ∃ v, GMap kv w bS v ∧ Rep ownSp w m v ∧ o bS = some (7, nov) ∧ ∀ t x b, aget t v = some x → x.ownBlock = some b → o b = some (8, kv t)
theorem SpansAt.kept {w w' : World} {bS : Nat} {m : List (T × List Sp)} {o o' : Own} (h : SpansAt w bS m o) (hb : ∀ b g, o b = some g → 7 ≤ g.1 → g.1 ≤ 8 → w'.heap[b]? = w.heap[b]? ∧ o' b = o b) : SpansAt w' bS m o' := by
  obtain ⟨v, h1, h2, h3, h4⟩ := h
  have q := hb bS _ h3 (Nat.le_refl _) (by simp)
  refine ⟨v, h1.kept q.1, h2.kept (fun t l x hx hl => ownSp_same hl (fun b hxb => (hb b _ (h4 t x b hx hxb) (by simp) (Nat.le_refl _)).1)), q.2.trans h3, fun t x b hx hxb => ?_⟩
  have := h4 t x b hx hxb
  exact ((hb b _ this (by simp) (Nat.le_refl _)).2).trans this
theorem SpansAt.moved {w w' : World} {bS : Nat} {m : List (T × List Sp)} {o o' : Own} (h : SpansAt w bS m o) (hl : Lives o w) {a d : Nat} (hm : Moves a d o o' w w') (hd : d < 7 ∨ 8 < a) : SpansAt w' bS m o' :=
  h.kept (fun b g hg h1 h2 => ⟨hm.block b (hl b g hg) (fun g' hg' q => by rw [hg] at hg'; injection hg' with hg'; subst hg'; omega), hm.same b (hl b g hg)⟩)
/-- The store's own block. -/
def HeadAt (w : World) (p bS bO bU : Nat) (wm : Int) (o : Own) : Prop :=
  w.heap[p]? = some (.cells #[.map (some bS), .pointer (some ⟨bO, 0, none⟩), .pointer (some ⟨bU, 0, none⟩), .int .i64 wm] 52 (0, 0)) ∧ o p = some (0, nov)
theorem HeadAt.moved {w w' : World} {p bS bO bU : Nat} {wm : Int} {o o' : Own} (h : HeadAt w p bS bO bU wm o) (hl : Lives o w) {a d : Nat} (hm : Moves a d o o' w w') (hd : 0 < a) : HeadAt w' p bS bO bU wm o' :=
  ⟨(hm.block p (hl p _ h.2) (fun g' hg' q => by rw [h.2] at hg'; injection hg' with hg'; subst hg'; simp at q; omega)).trans h.1, (hm.same p (hl p _ h.2)).trans h.2⟩
theorem HeadAt.cells {w : World} {p bS bO bU : Nat} {wm : Int} {o : Own} (h : HeadAt w p bS bO bU wm o) : w.cell? ⟨p, 0, none⟩ = some (.map (some bS)) ∧ w.cell? ⟨p, 1, none⟩ = some (.pointer (some ⟨bO, 0, none⟩)) ∧ w.cell? ⟨p, 2, none⟩ = some (.pointer (some ⟨bU, 0, none⟩)) ∧ w.cell? ⟨p, 3, none⟩ = some (.int .i64 wm) :=
  ⟨(blk_cell h.1 0).trans rfl, (blk_cell h.1 1).trans rfl, (blk_cell h.1 2).trans rfl, (blk_cell h.1 3).trans rfl⟩
theorem StoreAt.open {w : World} {p : Nat} {m : List (T × List Sp)} {wm : Int} {o : Own} (h : StoreAt w p m wm o) :
    ∃ bS bO bU lO lU, HeadAt w p bS bO bU wm o ∧ SpansAt w bS m o ∧ IdxAt kp 66 1 w bO lO o ∧ IdxAt Value.string 70 4 w bU lU o ∧ IdxOK keyO (m.map Prod.fst) lO ∧ IdxOK keyU (m.map Prod.fst) lU ∧ Lives o w := by
  obtain ⟨bO, bU, bS, v, lO, lU, h1, h2, h3, h4, h5, h6, h7, h8, h9, h10, h11⟩ := h
  exact ⟨bS, bO, bU, lO, lU, ⟨h1, h4⟩, ⟨v, h2, h3, h5, h6⟩, h7, h8, h9, h10, h11⟩
theorem StoreAt.shut {w : World} {p : Nat} {m : List (T × List Sp)} {wm : Int} {o : Own} {bS bO bU : Nat} {lO : List (PK × List T)} {lU : List (ByteArray × List T)} (h1 : HeadAt w p bS bO bU wm o) (h2 : SpansAt w bS m o) (h3 : IdxAt kp 66 1 w bO lO o)
    (h4 : IdxAt Value.string 70 4 w bU lU o) (h5 : IdxOK keyO (m.map Prod.fst) lO) (h6 : IdxOK keyU (m.map Prod.fst) lU) (h7 : Lives o w) : StoreAt w p m wm o := by
  obtain ⟨v, a, b, c, d⟩ := h2
  exact ⟨bO, bU, bS, v, lO, lU, h1.1, a, b, h1.2, c, d, h3, h4, h5, h6, h7⟩

theorem getL_aput {κ β : Type} [DecidableEq κ] (k u : κ) (l : List β) (ls : List (κ × List β)) : getL u (aput k l ls) = if u = k then l else getL u ls := by
  unfold getL; rw [aget_aput]; by_cases e : u = k
  · rw [if_pos e, if_pos e]; rfl
  · rw [if_neg e, if_neg e]
theorem IdxOK.put {κ : Type} [DecidableEq κ] {key : T → κ} {ks : List T} {ls : List (κ × List T)} (h : IdxOK key ks ls) (t : T) : IdxOK key (if t ∈ ks then ks else ks ++ [t]) (putL (key t) t ls) := by
  have hin : t ∈ getL (key t) ls ↔ t ∈ ks := by rw [(h (key t)).2 t]; simp
  intro u
  unfold putL
  by_cases e : t ∈ ks
  · rw [if_pos e, if_pos (hin.2 e)]; exact h u
  · rw [if_neg e, if_neg (fun q => e (hin.1 q)), getL_aput]
    by_cases hu : u = key t
    · rw [if_pos hu]
      refine ⟨?_, fun s => ?_⟩
      · rw [List.nodup_append]
        refine ⟨(h _).1, by simp, ?_⟩
        rintro a ha b hb rfl
        rw [List.mem_singleton] at hb
        exact e (hin.1 (hb ▸ ha))
      · rw [List.mem_append, (h _).2 s, List.mem_append, hu]
        constructor
        · rintro (⟨q1, q2⟩ | q)
          · exact ⟨q1, .inl q2⟩
          · rw [List.mem_singleton] at q; rw [q]; exact ⟨rfl, .inr (by simp)⟩
        · rintro ⟨q1, q2 | q2⟩
          · exact .inl ⟨q1, q2⟩
          · exact .inr q2
    · rw [if_neg hu]
      refine ⟨(h u).1, fun s => ?_⟩
      rw [(h u).2 s, List.mem_append]
      constructor
      · rintro ⟨q1, q2⟩; exact ⟨q1, .inl q2⟩
      · rintro ⟨q1, q2 | q2⟩
        · exact ⟨q1, q2⟩
        · rw [List.mem_singleton] at q2; rw [q2] at q1; exact absurd q1.symm hu
theorem keys_aput {β : Type} (t : T) (l : β) (m : List (T × β)) : (aput t l m).map Prod.fst = if t ∈ m.map Prod.fst then m.map Prod.fst else m.map Prod.fst ++ [t] := aput_keys t l m

/-- As 'idx_append', for spans: W is the world behind the entry's making, in which block bS alone may have turned. -/
theorem spans_append {w W w1 w2 : World} {m : List (T × List Sp)} {o : Own} (hl : Lives o w) {bS : Nat} {v : List (T × Value)}
    (h3 : Rep ownSp w m v) (h5 : o bS = some (7, nov)) (h6 : ∀ k x b, aget k v = some x → x.ownBlock = some b → o b = some (8, kv k))
    (k : T) (l : List Sp) {g n cap : Nat} (hos : W.os = w.os ∧ W.tape = w.tape ∧ W.output = w.output) (hs : w.heap.size ≤ W.heap.size) (hB : ∀ b, b < w.heap.size → b ≠ bS → W.heap[b]? = w.heap[b]?) (hown : ownSp w1 (.slice (some ⟨g, 0, none⟩) n cap) l) (hgrow : W.grownBy w1 ((aget k v).getD nilS).ownBlock)
    (hat : ((aget k v).getD nilS).ownBlock = some g ∨ (w.heap.size ≤ g)) (hlt : g < w1.heap.size)
    (hM : GMap kv w2 bS (aput k (.slice (some ⟨g, 0, none⟩) n cap) (aput k ((aget k v).getD nilS) v))) (hput : w1.grownBy w2 (some bS)) : ∃ o', SpansAt w2 bS (aput k l m) o' ∧ Lives o' w2 ∧ Moves 7 8 o o' w w2 := by
  have hold : ∀ b, ((aget k v).getD nilS).ownBlock = some b → o b = some (8, kv k) := by
    intro b hb
    cases hv : aget k v with
    | none => rw [hv] at hb; cases hb
    | some x => rw [hv] at hb; exact h6 k x b hv hb
  have hlb := hl bS _ h5
  have s1 : w.heap.size ≤ w1.heap.size := Nat.le_trans hs hgrow.size
  have hkeep : ∀ b, b < w.heap.size → (∀ g', o b = some g' → g' ≠ (7, nov) ∧ g' ≠ (8, kv k)) → w2.heap[b]? = w.heap[b]? := by
    intro b hb hg
    have n1 : some b ≠ ((aget k v).getD nilS).ownBlock := fun e => (hg _ (hold b e.symm)).2 rfl
    have n3 : b ≠ bS := by rintro rfl; exact (hg _ h5).1 rfl
    have n2 : some b ≠ some bS := fun e => n3 (by injection e)
    exact (hput.block b (Nat.lt_of_lt_of_le hb s1) n2).trans ((hgrow.block b (Nat.lt_of_lt_of_le hb hs) n1).trans (hB b hb n3))
  have hmk : ∀ b, b < w.heap.size → mark o g (8, kv k) b = o b := by
    intro b hb
    by_cases e : b = g
    · subst e
      rw [mark_self]
      rcases hat with h | h
      · exact (hold b h).symm
      · omega
    · exact mark_ne e
  have hne : g ≠ bS := by
    rintro rfl
    rcases hat with h | h
    · have := hold g h; rw [h5] at this; injection this with this; simp at this
    · omega
  have hown2 : ownSp w2 (.slice (some ⟨g, 0, none⟩) n cap) l := ownSp_same hown (fun b hb => by
    have : g = b := by simpa [Value.ownBlock] using hb
    subst this
    exact hput.block g hlt (fun e => hne (by injection e)))
  have hpp : ∀ (u : T), aget u (aput k (.slice (some ⟨g, 0, none⟩) n cap) (aput k ((aget k v).getD nilS) v)) = if u = k then some (.slice (some ⟨g, 0, none⟩) n cap) else aget u v := by
    intro u; rw [aget_aput, aget_aput]; by_cases e : u = k
    · rw [if_pos e, if_pos e]
    · rw [if_neg e, if_neg e, if_neg e]
  refine ⟨mark o g (8, kv k), ⟨_, hM, ⟨?_, fun u l' x' e1 e2 => ?_⟩, ?_, ?_⟩, ?_, ?_⟩
  · rw [aput_keys, aput_keys, aput_keys, h3.1]
    by_cases e : k ∈ m.map Prod.fst
    · simp [e]
    · simp [e]
  · rw [aget_aput] at e1
    rw [hpp] at e2
    by_cases e : u = k
    · rw [if_pos e] at e1 e2
      injection e1 with e1
      injection e2 with e2
      subst e1; subst e2; exact hown2
    · rw [if_neg e] at e1 e2
      refine ownSp_same (h3.2 u l' x' e1 e2) (fun b hb => ?_)
      have ht := h6 u x' b e2 hb
      exact hkeep b (hl b _ ht) (fun g' hg' => by
        rw [ht] at hg'; injection hg' with hg'; subst hg'
        exact ⟨by simp, fun h => e (tag_inj keyT.inj h)⟩)
  · rw [hmk bS hlb]; exact h5
  · intro u x b e1 e2
    rw [hpp] at e1
    by_cases e : u = k
    · rw [if_pos e] at e1
      injection e1 with e1
      subst e1
      have : g = b := by simpa [Value.ownBlock] using e2
      subst this
      rw [mark_self, e]
    · rw [if_neg e] at e1
      have ht := h6 u x b e1 e2
      rw [hmk b (hl b _ ht)]; exact ht
  · exact hl.mark (Nat.le_trans s1 hput.size) (Nat.lt_of_lt_of_le hlt hput.size) _
  · refine ⟨hput.os.trans (hgrow.os.trans hos.1), hput.tape.trans (hgrow.tape.trans hos.2.1), hput.output.trans (hgrow.output.trans hos.2.2), Nat.le_trans s1 hput.size, fun b hb hg => hkeep b hb (fun g' hg' => ?_), hmk, fun b g' hb hg' => ?_⟩
    · have := hg g' hg'
      refine ⟨?_, ?_⟩
      · rintro rfl; exact this ⟨by simp, by simp⟩
      · rintro rfl; exact this ⟨by simp, by simp⟩
    · by_cases e : b = g
      · subst e; rw [mark_self] at hg'; injection hg' with hg'; subst hg'; exact ⟨by simp, by simp⟩
      · rw [mark_ne e] at hg'; have := hl b g' hg'; omega
theorem own_snocS {w : World} {g cap : Nat} {l : List Sp} {a b : Int} (h : w.ownsRow 0 56 2 (.slice (some ⟨g, 0, none⟩) (l.length + 1) cap) (l.length + 1) (l.flatMap enSp ++ [.int .i64 a, .int .i64 b])) : ownSp w (.slice (some ⟨g, 0, none⟩) (l.length + 1) cap) (l ++ [(a, b)]) := by
  unfold ownSp
  rw [List.flatMap_append, List.length_append]
  exact h
theorem infoSp : (Tryd.prog.info? 56).map (fun i => (i.zero, i.size, i.bytes)) = some (some (.agg #[.int .i64 0, .int .i64 0]), 2, 16) := by kernel_rfl
theorem ne_ofS {w : World} {o : Own} {v : List (T × Value)} {k : T} {x : Value} {l : List Sp} (hx : ownSp w x l) (hE : (aget k v).getD nilS = x) {q i : Nat} {gv : Value} (h4 : o q = some (i, gv)) (hi : i ≠ 8) (h6 : ∀ k x b, aget k v = some x → x.ownBlock = some b → o b = some (8, kv k)) :
    some q ≠ x.ownBlock ∧ ∀ b, w.heap.size ≤ b → some b ≠ x.ownBlock := by
  refine ⟨fun e => ?_, fun b hb e => by have := ownB_lt hx e.symm; omega⟩
  cases hv : aget k v with
  | none => rw [hv] at hE; rw [← hE] at e; cases e
  | some y =>
    rw [hv] at hE
    have hE : y = x := hE
    subst hE
    have := h6 k y q hv e.symm
    rw [h4] at this; injection this with this; injection this with this; exact hi this

theorem Moves.undrew {c d : Nat} {o o' : Own} {w w' : World} (h : Moves c d o o' w.drew w') : Moves c d o o' w w' := ⟨h.os, h.tape, h.output, h.size, h.block, h.same, h.news⟩
theorem Moves.cell {c d : Nat} {o o' : Own} {w w' : World} (hm : Moves c d o o' w w') {a : Addr} {v : Value} (h : w.cell? a = some v) (hg : ∀ g, o a.block = some g → ¬ (c ≤ g.1 ∧ g.1 ≤ d)) : w'.cell? a = some v :=
  (World.cell?_of_block (hm.block a.block (World.block_lt_of_cell? w a h) hg)).trans h
/-- What is below w is, but for block bS, in W as in w. -/
def Sel (bS : Nat) (w W : World) : Prop := (W.os = w.os ∧ W.tape = w.tape ∧ W.output = w.output) ∧ w.heap.size ≤ W.heap.size ∧ ∀ b, b < w.heap.size → b ≠ bS → W.heap[b]? = w.heap[b]?
theorem Sel.of_below {bS : Nat} {w W : World} (h : Below w.heap.size w W) : Sel bS w W := ⟨⟨h.os, h.tape, h.output⟩, h.size, fun b hb _ => h.block b hb⟩
theorem Sel.grown {bS : Nat} {w W W' : World} (h : Sel bS w W) (hg : W.grownBy W' (some bS)) : Sel bS w W' := ⟨⟨hg.os.trans h.1.1, hg.tape.trans h.1.2.1, hg.output.trans h.1.2.2⟩, Nat.le_trans h.2.1 hg.size, fun b hb hne => (hg.block b (Nat.lt_of_lt_of_le hb h.2.1) (fun e => hne (by injection e))).trans (h.2.2 b hb hne)⟩
theorem Sel.alloc {bS : Nat} {w W : World} (h : Sel bS w W) (o : Obj) : Sel bS w (W.alloc o) := ⟨h.1, by have := h.2.1; simp; omega, fun b hb hne => (Below.heap_alloc _ _ _ (Nat.lt_of_lt_of_le hb h.2.1)).trans (h.2.2 b hb hne)⟩
theorem alloc_cell {w : World} (o : Obj) {a : Addr} {v : Value} (h : w.cell? a = some v) : (w.alloc o).cell? a = some v := cell_below ((Below.refl _ w).alloc (Nat.le_refl _) o) h

set_option maxHeartbeats 16000000 in
set_option maxRecDepth 100000 in
theorem store_add (p : Nat) (t : T) (x : Sp) (w : World) {m : List (T × List Sp)} {wm : Int} {o : Own} (h : StoreAt w p m wm o) (hm : m.length < 2147483648) (hs : (getL t m).length < 2147483648) :
    Calls Tryd.prog 17 #[.pointer (some ⟨p, 0, none⟩), .agg #[.string t.f0, .string t.f1, .string t.f2], .agg #[.int .i64 x.1, .int .i64 x.2]] w fun e w' => e = .returned (.tuple #[]) ∧ ∃ o', StoreAt w' p (aput t (getL t m ++ [x]) m) wm o' ∧ Moves 0 8 o o' w w' := by
  obtain ⟨bS, bO, bU, lO, lU, hH, hS, hO, hU, hkO, hkU, hl⟩ := h.open
  clear h
  obtain ⟨v, hM, hR, hoS, hoT⟩ := hS
  have hx := hR.get (ownSp_nil w) t
  obtain ⟨A, c, hA⟩ := own_form hx
  obtain ⟨l, hlE⟩ : ∃ l, l = getL t m := ⟨_, rfl⟩
  rw [← hlE] at hs hx hA
  have hxA := hx
  rw [hA] at hxA
  have hB : Below w.heap.size w ((w.alloc (.cells #[.string t.f0, .string t.f1, .string t.f2] 27)).alloc (.cells #[.int .i64 x.1, .int .i64 x.2] 56)) := ((Below.refl _ w).alloc (Nat.le_refl _) _).alloc (by simp) _
  obtain ⟨W2, hW2⟩ : ∃ W, W = (w.alloc (.cells #[.string t.f0, .string t.f1, .string t.f2] 27)).alloc (.cells #[.int .i64 x.1, .int .i64 x.2] 56) := ⟨_, rfl⟩
  have hz2 : W2.heap.size = w.heap.size + 2 := by rw [hW2]; simp
  have k0 : W2.cell? ⟨p, 0, none⟩ = some (.map (some bS)) := by rw [hW2]; exact cell_below hB hH.cells.1
  have kT : BoxT W2 w.heap.size t := by rw [hW2]; exact (BoxT.new w t).below ((Below.refl _ _).alloc (Nat.le_refl _) _)
  have k4 : W2.cell? ⟨w.heap.size + 1, 0, none⟩ = some (.int .i64 x.1) := by rw [hW2]; go_simp
  have k5 : W2.cell? ⟨w.heap.size + 1, 1, none⟩ = some (.int .i64 x.2) := by rw [hW2]; go_simp
  rw [← hW2] at hB
  have hMd2 : GMap kv (W2.alloc (.cells #[.int .i64 x.1, .int .i64 x.2] 56)).drew bS v := hM.kept ((Below.heap_alloc _ _ _ (by have := hl _ _ hoS; omega)).trans (hB.block bS (hl _ _ hoS)))
  obtain ⟨s2, wE2, hr2, hG2, hg2⟩ := g_entry keyT Tryd.underlying45 zeroSp hMd2 t
  have hpS : p ≠ bS := by rintro rfl; have := hH.2.symm.trans hoS; injection this with this; simp at this
  have hbS := hl _ _ hoS
  have n0 : ∀ b, w.heap.size ≤ b → some b ≠ some bS := fun b hb e => by injection e with e; omega
  have np : some p ≠ some bS := fun e => hpS (by injection e)
  have i0_ := hg2.cell (v := .map (some bS)) (alloc_cell _ k0) np
  have i1_ := hg2.cell (v := .string t.f0) (alloc_cell _ kT.1) (n0 _ (Nat.le_refl _))
  have i2_ := hg2.cell (v := .string t.f1) (alloc_cell _ kT.2.1) (n0 _ (Nat.le_refl _))
  have i3_ := hg2.cell (v := .string t.f2) (alloc_cell _ kT.2.2) (n0 _ (Nat.le_refl _))
  have i4_ := hg2.cell (v := .int .i64 x.1) (alloc_cell _ k4) (n0 _ (by simp))
  have i5_ := hg2.cell (v := .int .i64 x.2) (alloc_cell _ k5) (n0 _ (by simp))
  have hse2 : Sel bS w wE2 := (show Sel bS w (W2.alloc (.cells #[.int .i64 x.1, .int .i64 x.2] 56)).drew from (Sel.of_below hB).alloc _).grown hg2
  have hnews2 : ∀ j u, ([.int .i64 x.1, .int .i64 x.2] : List Value)[j]? = some u → wE2.cell? ((⟨w.heap.size + 2, 0, none⟩ : Addr).add j) = some u := by
    intro j u hu
    rw [← hz2]
    have h7 := World.news_of_block (cs := #[.int .i64 x.1, .int .i64 x.2]) (t := 56) (fr := (0, 0)) (heap_alloc_new W2 _) j u hu
    exact hg2.cell h7 (by rw [Addr.add_lit]; exact n0 _ (show w.heap.size ≤ W2.heap.size by omega))
  have hw2 : W2.heap.size ≤ wE2.heap.size := by have := hg2.size; simp at this; omega
  have NE := ne_ofS hxA hA hH.2 (by omega) hoT
  have NS := (ne_ofS hxA hA hoS (by omega) hoT).1
  rw [hA] at hr2 hG2
  have HX : Aside (ownSp w (.slice A l.length c) l) := hxA
  have HN : Aside ((some p ≠ (Value.slice A l.length c).ownBlock ∧ ∀ b, w.heap.size ≤ b → some b ≠ (Value.slice A l.length c).ownBlock) ∧ some bS ≠ (Value.slice A l.length c).ownBlock ∧ bS < w.heap.size ∧ p ≠ bS) := ⟨NE, NS, hbS, hpS⟩
  have HS2 : Aside (Sel bS w wE2 ∧ GEnt kv wE2 bS (aput t (.slice A l.length c) v) t s2 ∧ w.heap.size + 2 ≤ wE2.heap.size) := ⟨hse2, hG2, by omega⟩
  have HW : Aside (type_of% hH ∧ type_of% hR ∧ o bS = some (7, nov) ∧ type_of% hoT ∧ type_of% hO ∧ type_of% hU ∧ type_of% hkO ∧ type_of% hkU ∧ Lives o w ∧ type_of% hA ∧ type_of% hlE ∧ m.length < 2147483648) := ⟨hH, hR, hoS, hoT, hO, hU, hkO, hkU, hl, hA, hlE, hm⟩
  have HNw : Aside (type_of% hnews2) := hnews2
  obtain ⟨kT0, kT1, kT2⟩ := kT
  clear hMd2 hH hM hR hoS hoT hO hU hkO hkU hl hx hA hxA hlE hm hB hz2 hG2 hg2 hpS hbS n0 np hse2 hnews2 hw2 NE NS
  subst hW2
  obtain ⟨t0, t1, t2⟩ := t
  obtain ⟨a, b⟩ := x
  simp only [kv] at hr2
  dsimp only at *
  obtain ⟨e0, hi0, hz0, hz1, hz2⟩ := info_parts infoSp
  go_enter Tryd.func17, Tryd.ntmps17
  go_wp2_with fail
  go_region_held3 (fun w' => w'.cell? ⟨p, 0, none⟩ = some (.map (some bS)) ∧ w'.cell? ⟨w.heap.size, 0, none⟩ = some (.string t0) ∧ w'.cell? ⟨w.heap.size, 1, none⟩ = some (.string t1) ∧ w'.cell? ⟨w.heap.size, 2, none⟩ = some (.string t2) ∧ w'.cell? ⟨w.heap.size + 1, 0, none⟩ = some (.int .i64 a) ∧ w'.cell? ⟨w.heap.size + 1, 1, none⟩ = some (.int .i64 b))
    (first | (go_split_ands; exact ⟨by assumption, by assumption, by assumption, by assumption, by assumption, by assumption⟩) | (go_split_ands; exact ⟨by go_keep, by go_keep, by go_keep, by go_keep, by go_keep, by go_keep⟩))
    ((refine step_append_lies _ (by rfl) _ _ _ (by rfl) 0 56 e0 _ 2 16 Tryd.underlying53 hi0 hz0 hz1 hz2 rfl (by omega) (.slice A l.length c) l.length (l.flatMap enSp) (by rfl) (ownSp_same HX.out (fun b' hb' => HS2.out.1.2.2 b' (ownB_lt HX.out hb') (fun e => HN.out.2.1 (by rw [← e]; exact hb'.symm)))) ⟨w.heap.size + 2, 0, none⟩ 1 1 [.int .i64 a, .int .i64 b] (by rfl) (by rfl) HNw.out (by simp [Value.oneCell']) (by omega) (by unfold maxLen; omega) (by omega) (Nat.zero_le _) wE2.heap.size (by rfl) ?_; intro g cap w3 hown1 hgrow hat hlt; have hG3 := HS2.out.2.1.kept (hgrow.block bS (by have := HN.out.2.2.1; have := HS2.out.2.2; omega) HN.out.2.1); obtain ⟨w4, hrun, hM4, hg4⟩ := g_store (mt := 45) keyT hG3 (.slice (some ⟨g, 0, none⟩) (l.length + 1) cap); have m0 := hgrow.cell i0_ HN.out.1.1; have m1 := hgrow.cell i1_ (HN.out.1.2 _ (by simp)); have m2 := hgrow.cell i2_ (HN.out.1.2 _ (by simp)); have m3 := hgrow.cell i3_ (HN.out.1.2 _ (by simp)); have m4 := hgrow.cell i4_ (HN.out.1.2 _ (by simp)); have m5 := hgrow.cell i5_ (HN.out.1.2 _ (by simp)); have NN : ∀ b', w.heap.size ≤ b' → some b' ≠ some bS := (fun b' hb' e => by have := HN.out.2.2.1; injection e with e; omega); have q0 := hg4.cell m0 (fun e => HN.out.2.2.2 (by injection e)); have q1 := hg4.cell m1 (NN _ (by simp)); have q2 := hg4.cell m2 (NN _ (by simp)); have q3 := hg4.cell m3 (NN _ (by simp)); have q4 := hg4.cell m4 (NN _ (by simp)); have q5 := hg4.cell m5 (NN _ (by simp)); have HR : Aside (type_of% hown1 ∧ type_of% hgrow ∧ type_of% hat ∧ type_of% hlt ∧ type_of% hM4 ∧ type_of% hg4) := ⟨hown1, hgrow, hat, hlt, hM4, hg4⟩; clear hown1 hgrow hat hlt hM4 hg4 hG3 NN))
  clear hr2 k0 k4 k5 kT0 kT1 kT2 i0_ i1_ i2_ i3_ i4_ i5_ m0 m1 m2 m3 m4 m5 q0 q4 q5 hi0 hz0 hz1 hz2
  obtain ⟨o1, hSp, hL1, hV1⟩ := spans_append (W := wE2) HW.out.2.2.2.2.2.2.2.2.1 HW.out.2.1 HW.out.2.2.1 HW.out.2.2.2.1 (⟨t0, t1, t2⟩ : T) (l ++ [(a, b)]) HS2.out.1.1 HS2.out.1.2.1 HS2.out.1.2.2 (own_snocS HR.out.1) (by rw [HW.out.2.2.2.2.2.2.2.2.2.1]; exact HR.out.2.1) (by rw [HW.out.2.2.2.2.2.2.2.2.2.1]; exact HR.out.2.2.1.imp id (fun e => by have := HS2.out.1.2.1; omega)) HR.out.2.2.2.1 (by rw [HW.out.2.2.2.2.2.2.2.2.2.1]; exact HR.out.2.2.2.2.1) HR.out.2.2.2.2.2
  have hH1 := HW.out.1.moved HW.out.2.2.2.2.2.2.2.2.1 hV1 (by omega)
  have hO1 := HW.out.2.2.2.2.1.moved HW.out.2.2.2.2.2.2.2.2.1 hV1 (by omega)
  have hU1 := HW.out.2.2.2.2.2.1.moved HW.out.2.2.2.2.2.2.2.2.1 hV1 (by omega)
  have r1 := hH1.cells.2.1
  have r2 := hH1.cells.2.2.1
  have hb1 : ∀ b' g', w.heap.size ≤ b' → o1 b' = some g' → 7 ≤ g'.1 := fun b' g' h1 h2 => (hV1.news b' g' h1 h2).1
  have hs4 : w.heap.size + 2 ≤ w4.heap.size := by have h1 := HS2.out.2.2; have h2 := HR.out.2.1.size; have h3 := HR.out.2.2.2.2.2.size; omega
  have HV : Aside (type_of% hSp ∧ Lives o1 w4 ∧ type_of% hV1 ∧ type_of% hH1 ∧ type_of% hO1 ∧ type_of% hU1 ∧ type_of% hb1 ∧ type_of% hs4) := ⟨hSp, hL1, hV1, hH1, hO1, hU1, hb1, hs4⟩
  have hI4 : IdxAt kp 66 1 w4.drew bO lO o1 := hO1
  have hL4 : Lives o1 w4.drew := hL1
  have hput1 := putO bO (t0, t1) ⟨t0, t1, t2⟩ w4.drew hI4 hL4 (by have := HW.out.2.2.2.2.2.2.1.len (t0, t1); have := HW.out.2.2.2.2.2.2.2.2.2.2.2; simp at *; omega)
  dsimp only [kp] at hput1
  have HP1 : Aside (type_of% hput1) := hput1
  clear hSp hL1 hV1 hH1 hO1 hU1 hb1 hs4 hI4 hL4 hput1
  go_wp2_with fail
  go_region_held3 (fun w' => w'.cell? ⟨p, 1, none⟩ = some (.pointer (some ⟨bO, 0, none⟩)) ∧ w'.cell? ⟨p, 2, none⟩ = some (.pointer (some ⟨bU, 0, none⟩)) ∧ w'.cell? ⟨w.heap.size, 0, none⟩ = some (.string t0) ∧ w'.cell? ⟨w.heap.size, 1, none⟩ = some (.string t1) ∧ w'.cell? ⟨w.heap.size, 2, none⟩ = some (.string t2))
    (first | (go_split_ands; exact ⟨by go_keep, by go_keep, by go_keep, by go_keep, by go_keep⟩))
    ((go_at_call 26; refine HP1.out.mono ?_; rintro e w5 ⟨rfl, o2, hI2, hL2, hV2⟩; have s0 := hV2.cell (a := ⟨p, 1, none⟩) r1 (fun g' hg' hh => by have := HV.out.2.2.2.1.2.symm.trans hg'; injection this with this; subst this; simp at hh); have s1_ := hV2.cell (a := ⟨p, 2, none⟩) r2 (fun g' hg' hh => by have := HV.out.2.2.2.1.2.symm.trans hg'; injection this with this; subst this; simp at hh); have s2_ := hV2.cell (a := ⟨w.heap.size, 0, none⟩) q1 (fun g' hg' hh => by have := HV.out.2.2.2.2.2.2.1 _ g' (Nat.le_refl _) hg'; omega); have s3_ := hV2.cell (a := ⟨w.heap.size, 1, none⟩) q2 (fun g' hg' hh => by have := HV.out.2.2.2.2.2.2.1 _ g' (Nat.le_refl _) hg'; omega); have s4_ := hV2.cell (a := ⟨w.heap.size, 2, none⟩) q3 (fun g' hg' hh => by have := HV.out.2.2.2.2.2.2.1 _ g' (Nat.le_refl _) hg'; omega); have HU2 : Aside (type_of% hI2 ∧ Lives o2 w5 ∧ type_of% hV2) := ⟨hI2, hL2, hV2⟩; clear hI2 hL2 hV2))
  clear r1 r2 q1 q2 q3
  have hV2' : Moves 1 3 o1 o2 w4 w5 := Moves.undrew HU2.out.2.2
  have hI5' : IdxAt Value.string 70 4 w5 bU lU o2 := HV.out.2.2.2.2.2.1.moved HV.out.2.1 hV2' (by omega)
  have hI5 : IdxAt Value.string 70 4 w5.drew bU lU o2 := hI5'
  have hH2 := HV.out.2.2.2.1.moved HV.out.2.1 hV2' (by omega)
  have hS2 := HV.out.1.moved HV.out.2.1 hV2' (by omega)
  have hL5 : Lives o2 w5.drew := HU2.out.2.1
  have hput2 := putU bU t2 ⟨t0, t1, t2⟩ w5.drew hI5 hL5 (by have := HW.out.2.2.2.2.2.2.2.1.len t2; have := HW.out.2.2.2.2.2.2.2.2.2.2.2; simp at *; omega)
  have HP2 : Aside (type_of% hput2) := hput2
  have HY : Aside (type_of% hH2 ∧ type_of% hS2) := ⟨hH2, hS2⟩
  clear hV2' hI5 hI5' hH2 hS2 hL5 hput2
  go_wp2_with fail
  go_region_held3 (fun w' => w'.cell? ⟨p, 2, none⟩ = some (.pointer (some ⟨bU, 0, none⟩)) ∧ w'.cell? ⟨w.heap.size, 0, none⟩ = some (.string t0) ∧ w'.cell? ⟨w.heap.size, 1, none⟩ = some (.string t1) ∧ w'.cell? ⟨w.heap.size, 2, none⟩ = some (.string t2))
    (first | (go_split_ands; exact ⟨by assumption, by assumption, by assumption, by assumption⟩) | (go_split_ands; exact ⟨by go_keep, by go_keep, by go_keep, by go_keep⟩))
    ((go_at_call 27; refine HP2.out.mono ?_; rintro e w6 ⟨rfl, o3, hI3, hL3, hV3⟩; have u0 := hV3.cell (a := ⟨p, 2, none⟩) s1_ (fun g' hg' hh => by have := HY.out.1.2.symm.trans hg'; injection this with this; subst this; simp at hh); have hbx : ∀ g', o2 w.heap.size = some g' → 7 ≤ g'.1 := (fun g' hg' => HV.out.2.2.2.2.2.2.1 _ g' (Nat.le_refl _) ((HU2.out.2.2.same _ (show w.heap.size < w4.heap.size by have := HV.out.2.2.2.2.2.2.2; omega)).symm.trans hg')); have u1_ := hV3.cell (a := ⟨w.heap.size, 0, none⟩) s2_ (fun g' hg' hh => by have := hbx g' hg'; omega); have u2_ := hV3.cell (a := ⟨w.heap.size, 1, none⟩) s3_ (fun g' hg' hh => by have := hbx g' hg'; omega); have u3_ := hV3.cell (a := ⟨w.heap.size, 2, none⟩) s4_ (fun g' hg' hh => by have := hbx g' hg'; omega); have HU3 : Aside (type_of% hI3 ∧ Lives o3 w6 ∧ type_of% hV3) := ⟨hI3, hL3, hV3⟩; clear hI3 hL3 hV3 hbx))
  clear s0 s1_ s2_ s3_ s4_
  go_wp2_with fail
  go_end0
  have hV3' : Moves 4 6 o2 o3 w5 w6 := Moves.undrew HU3.out.2.2
  have hV2' : Moves 1 3 o1 o2 w4 w5 := Moves.undrew HU2.out.2.2
  refine ⟨rfl, o3, ?_, ((HV.out.2.2.1.mono (by omega) (by omega)).trans (hV2'.mono (by omega) (by omega))).trans (hV3'.mono (by omega) (by omega))⟩
  rw [← HW.out.2.2.2.2.2.2.2.2.2.2.1]
  refine StoreAt.shut (HY.out.1.moved HU2.out.2.1 hV3' (by omega)) (HY.out.2.moved HU2.out.2.1 hV3' (by omega)) (HU2.out.1.moved HU2.out.2.1 hV3' (by omega)) HU3.out.1 ?_ ?_ HU3.out.2.1
  · rw [keys_aput]; exact HW.out.2.2.2.2.2.2.1.put ⟨t0, t1, t2⟩
  · rw [keys_aput]; exact HW.out.2.2.2.2.2.2.2.1.put ⟨t0, t1, t2⟩
end Go.Proofs.YtelmbimmkdobaaaDoor.Pr

namespace Go.Proofs.YtelmbimmkdobaaaDoor.Pr
open Go.Shelf Go.RowKit Go.Lib Go.Sort Go.Proofs.YtelmbimmkdobaaaDoor
open Go.Proofs.YtelmbimmkdobaaaDoorW.PrintWords Go.Proofs.YtelmbimmkdobaaaDoorW.PrintLast Go.Proofs.YtelmbimmkdobaaaDoorW.PrintMore

theorem new_O (w : World) : Calls Tryd.prog 13 #[] w fun e w' => e = .returned (.pointer (some ⟨w.heap.size + 1, 0, none⟩)) ∧ w' = (w.alloc (.map #[] 0)).alloc (.cells #[.map (some w.heap.size)] 66) := by
  have hmm := @run_makeMap Tryd.prog
  go_enter Tryd.func13, Tryd.ntmps13
  go_wp2
  clear hmm
  go_ret
  exact ⟨rfl, rfl⟩
theorem new_U (w : World) : Calls Tryd.prog 14 #[] w fun e w' => e = .returned (.pointer (some ⟨w.heap.size + 1, 0, none⟩)) ∧ w' = (w.alloc (.map #[] 0)).alloc (.cells #[.map (some w.heap.size)] 70) := by
  have hmm := @run_makeMap Tryd.prog
  go_enter Tryd.func14, Tryd.ntmps14
  go_wp2
  clear hmm
  go_ret
  exact ⟨rfl, rfl⟩
def newOwn (B : Nat) : Own := fun b => if b = B then some (7, nov) else if b = B + 1 then some (2, nov) else if b = B + 2 then some (1, nov) else if b = B + 3 then some (5, nov) else if b = B + 4 then some (4, nov) else if b = B + 5 then some (0, nov) else none
theorem newOwn_ge {B b : Nat} {g : Tag} (h : newOwn B b = some g) : B ≤ b ∧ b < B + 6 := by
  unfold newOwn at h
  by_cases h0 : b = B
  · omega
  · rw [if_neg h0] at h
    by_cases h1 : b = B + 1
    · omega
    · rw [if_neg h1] at h
      by_cases h2 : b = B + 2
      · omega
      · rw [if_neg h2] at h
        by_cases h3 : b = B + 3
        · omega
        · rw [if_neg h3] at h
          by_cases h4 : b = B + 4
          · omega
          · rw [if_neg h4] at h
            by_cases h5 : b = B + 5
            · omega
            · rw [if_neg h5] at h; cases h
theorem alloc_heap (w : World) (o : Obj) (b : Nat) : (w.alloc o).heap[b]? = if b = w.heap.size then some o else w.heap[b]? := by
  by_cases h : b = w.heap.size
  · rw [if_pos h, h]; exact blk_new w o
  · rw [if_neg h]
    show (w.heap.push o)[b]? = _
    rw [Array.getElem?_push, if_neg h]
theorem alloc_size (w : World) (o : Obj) : (w.alloc o).heap.size = w.heap.size + 1 := by simp
theorem store_New (w : World) : Calls Tryd.prog 6 #[] w fun e w' => ∃ p o, e = .returned (.pointer (some ⟨p, 0, none⟩)) ∧ StoreAt w' p [] 0 o ∧ Below w.heap.size w w' ∧ ∀ b g, o b = some g → w.heap.size ≤ b := by
  have hmm := @run_makeMap Tryd.prog
  go_enter Tryd.func6, Tryd.ntmps6
  go_wp2_with (first | (go_at_call 13; refine (new_O _).mono ?_; rintro e w' ⟨rfl, rfl⟩) | (go_at_call 14; refine (new_U _).mono ?_; rintro e w' ⟨rfl, rfl⟩))
  clear hmm
  go_ret
  obtain ⟨B, hB⟩ : ∃ B, B = w.heap.size := ⟨_, rfl⟩
  refine ⟨w.heap.size + 5, newOwn w.heap.size, rfl, ?_, ?_, fun b g h => (newOwn_ge h).1⟩
  · refine ⟨w.heap.size + 2, w.heap.size + 4, w.heap.size, [], [], [], ?_, ⟨#[], 0, ?_, rfl, by simp, by simp, by simp⟩, Rep.nil, ?_, ?_, (fun t x b h => by cases h), ⟨w.heap.size + 1, [], ?_, ⟨#[], 0, ?_, rfl, by simp, by simp, by simp⟩, Rep.nil, ?_, ?_, (fun t x b h => by cases h)⟩, ⟨w.heap.size + 3, [], ?_, ⟨#[], 0, ?_, rfl, by simp, by simp, by simp⟩, Rep.nil, ?_, ?_, (fun t x b h => by cases h)⟩, (fun k => ⟨by simp [getL, aget], fun t => by simp [getL, aget]⟩), (fun k => ⟨by simp [getL, aget], fun t => by simp [getL, aget]⟩), (fun b g h => by have := newOwn_ge h; simp; omega)⟩
    all_goals first | (simp only [alloc_heap, alloc_size]; (repeat (first | rw [if_neg (by omega)] | rw [if_pos (by omega)])); (try rfl); done) | (unfold newOwn; (repeat (first | rw [if_neg (by omega)] | rw [if_pos (by omega)])); (try rfl); done)
  · repeat (first | exact Below.refl _ _ | apply below_alloc)
end Go.Proofs.YtelmbimmkdobaaaDoor.Pr

namespace Go.Proofs.YtelmbimmkdobaaaDoor.Pr
open Go.Shelf Go.RowKit Go.Lib Go.Sort Go.Proofs.YtelmbimmkdobaaaDoor
open Go.Proofs.YtelmbimmkdobaaaDoorW.PrintWords Go.Proofs.YtelmbimmkdobaaaDoorW.PrintLast Go.Proofs.YtelmbimmkdobaaaDoorW.PrintMore
attribute [local go_sem ↓] Go.wp_at_zero Go.wp_at_succ

def badRev (m : List (T × List Sp)) (wm rev : Int) (t : T) : Bool := decide (rev ≤ lastOf (getL t m) ∨ rev ≤ wm)
theorem bad_l {m : List (T × List Sp)} {wm rev : Int} {t : T} (h : rev ≤ lastOf (getL t m)) : badRev m wm rev t = true := decide_eq_true (.inl h)
theorem bad_r {m : List (T × List Sp)} {wm rev : Int} {t : T} (h : rev ≤ wm) : badRev m wm rev t = true := decide_eq_true (.inr h)
theorem bad_no {m : List (T × List Sp)} {wm rev : Int} {t : T} (h1 : ¬ rev ≤ lastOf (getL t m)) (h2 : ¬ rev ≤ wm) : ¬ badRev m wm rev t = true := fun h => (of_decide_eq_true h).elim h1 h2
def checkS (m : List (T × List Sp)) (wm rev : Int) : List T → List Mu → Int
  | _, [] => 0
  | seen, x :: l => if checkT x.f1 ≠ 0 then checkT x.f1 else if x.f1 ∈ seen then 5 else if badRev m wm rev x.f1 = true then 70 else checkS m wm rev (seen ++ [x.f1]) l
def storeCheck (m : List (T × List Sp)) (wm rev : Int) (l : List Mu) : Int := if rev < 1 ∨ 1125899906842624 < rev then 1 else checkS m wm rev [] l

theorem el_Mu {w : World} {A : Option Addr} {n : Nat} {xs : List Mu} (h : Kd.C k30 w A n xs) (hn : xs.length = n) (i : Nat) (hi : i < n) : ∃ ad x, A = some ad ∧ xs[i]? = some x ∧ w.cell? (ad.add (i * 4)) = some (.bool x.f0) ∧ w.cell? ⟨(ad.add (i * 4)).block, (ad.add (i * 4)).off + 1, none⟩ = some (.string x.f1.f0) ∧ w.cell? ⟨(ad.add (i * 4)).block, (ad.add (i * 4)).off + 2, none⟩ = some (.string x.f1.f1) ∧ w.cell? ⟨(ad.add (i * 4)).block, (ad.add (i * 4)).off + 3, none⟩ = some (.string x.f1.f2) := by
  obtain ⟨ad, e, h0, h1, h2, h3⟩ := at_T30 h i (by omega) (by omega)
  exact ⟨ad, rd_T30 xs i, e, by simp [rd_T30, hn, hi], h0, h1, h2, h3⟩
/-- A row of one tuple, new. -/
theorem C_one {W : World} {b : Nat} {t0 t1 t2 : ByteArray} (h : W.heap[b]? = some (.cells #[.string t0, .string t1, .string t2] 27)) : Kd.C k27 W (some ⟨b, 0, none⟩) 1 [⟨t0, t1, t2⟩] := by
  refine ⟨rfl, by decide, fun _ => ⟨⟨b, 0, none⟩, rfl, fun j y hy => ?_⟩⟩
  cases j with
  | zero =>
    have hy' : (⟨t0, t1, t2⟩ : T) = y := by simpa using hy
    subst hy'
    refine ⟨[.string t0, .string t1, .string t2], rfl, k27_mk W _, fun i u hu => ?_⟩
    rw [Addr.add_lit, blk_cell h]
    match i, hu with
    | 0, hu => exact hu
    | 1, hu => exact hu
    | 2, hu => exact hu
  | succ j => simp at hy

/-- The map of what was seen: each tuple once. -/
def seenV (l : List T) : List (T × Value) := l.map (fun t => (t, Value.int .i64 1))
theorem seen_keys (l : List T) : (seenV l).map Prod.fst = l := by unfold seenV; rw [List.map_map]; exact List.map_id' _
theorem seen_get {l : List T} {t : T} : aget t (seenV l) = if t ∈ l then some (.int .i64 1) else none := by
  by_cases h : t ∈ l
  · rw [if_pos h]
    cases hg : aget t (seenV l) with
    | none => rw [aget_none, seen_keys] at hg; exact absurd h hg
    | some v =>
      have := aget_mem hg
      unfold seenV at this
      obtain ⟨u, _, hu⟩ := List.mem_map.1 this
      injection hu with _ hu; rw [hu]
  · rw [if_neg h, aget_none, seen_keys]; exact h
theorem seen_put {l : List T} {t : T} (h : t ∉ l) (v : Value) : aput t (.int .i64 1) (aput t v (seenV l)) = seenV (l ++ [t]) := by
  have e : ∀ (u : Value) (m : List (T × Value)), t ∉ m.map Prod.fst → aput t u m = m ++ [(t, u)] := by
    intro u m hm
    rcases asplit t m with ⟨_, _, h3, _⟩ | ⟨m1, v0, m2, h0, _⟩
    · exact h3 u
    · rw [h0] at hm; simp at hm
  have e2 : ∀ (u u' : Value) (m : List (T × Value)), t ∉ m.map Prod.fst → aput t u (m ++ [(t, u')]) = m ++ [(t, u)] := by
    intro u u' m
    induction m with
    | nil => intro _; simp [aput]
    | cons p m ih =>
      intro hm
      rw [List.map_cons, List.mem_cons] at hm
      rw [List.cons_append, aput, if_neg (fun q => hm (.inl q)), ih (fun q => hm (.inr q))]; rfl
  rw [e v _ (by rw [seen_keys]; exact h), e2 _ _ _ (by rw [seen_keys]; exact h)]
  unfold seenV; simp
theorem zeroI (w : World) : (zeroValue 3).run Tryd.prog w = .ok (.int .i64 0) w := Tryd.zeroValue3 w

set_option maxHeartbeats 32000000 in
set_option maxRecDepth 100000 in
theorem store_Check (p : Nat) (rev : Int) (A : Option Addr) (c : Nat) (l : List Mu) (w : World) {m : List (T × List Sp)} {wm : Int} {o : Own} (h : StoreAt w p m wm o) (hm : ∀ t, (getL t m).length < 4294967296) (hr : Kd.C k30 w A l.length l) (hl : l.length < 2147483648) (hz : ∀ x ∈ l, SzT x.f1) :
    Calls Tryd.prog 15 #[.pointer (some ⟨p, 0, none⟩), .int .i64 rev, .slice A l.length c] w fun e w' => e = .returned (.int .i64 (storeCheck m wm rev l)) ∧ Below w.heap.size w w' := by
  have HS : Aside (StoreAt w p m wm o ∧ (∀ t, (getL t m).length < 4294967296)) := ⟨h, hm⟩
  have HR : Aside (Kd.C k30 w A l.length l) := hr
  have HZ : Aside (∀ x ∈ l, SzT x.f1) := hz
  clear h hm hr hz
  have hmm := @run_makeMap Tryd.prog
  by_cases c1 : rev < 1
  · have d1 : decide (rev < 1) = true := decide_eq_true c1
    have HF : Hid (storeCheck m wm rev l = 1) := if_pos (.inl c1)
    go_enter Tryd.func15, Tryd.ntmps15
    go_wp2
    go_ret
    exact ⟨by rw [HF.out]; rfl, Below.refl _ _⟩
  · have d1 : decide (rev < 1) = false := decide_eq_false c1
    by_cases c2 : 1125899906842624 < rev
    · have d2 : decide (1125899906842624 < rev) = true := decide_eq_true c2
      have HF : Hid (storeCheck m wm rev l = 1) := if_pos (.inr c2)
      go_enter Tryd.func15, Tryd.ntmps15
      go_wp2
      go_ret
      exact ⟨by rw [HF.out]; rfl, Below.refl _ _⟩
    · have d2 : decide (1125899906842624 < rev) = false := decide_eq_false c2
      have HF : Hid (storeCheck m wm rev l = checkS m wm rev [] l) := if_neg (by rintro (h | h); exact c1 h; exact c2 h)
      go_enter Tryd.func15, Tryd.ntmps15
      go_wp2
      clear hmm
      have S0 : Aside (GMap kv (w.alloc (.map #[] 0)) w.heap.size (seenV []) ∧ Below w.heap.size w (w.alloc (.map #[] 0)) ∧ w.heap.size < (w.alloc (.map #[] 0)).heap.size) := ⟨GMap.made w, (Below.refl _ w).alloc (Nat.le_refl _) _, by simp⟩
      go_loopg [20] l.length (fun gk s20 wr => ∃ i : Nat, s20 = .int .i64 i ∧ i ≤ l.length ∧ l.length - i ≤ gk ∧ Hid (checkS m wm rev [] l = checkS m wm rev ((l.take i).map (·.f1)) (l.drop i) ∧ ((l.take i).map (·.f1)).Nodup) ∧ Aside (GMap kv wr w.heap.size (seenV ((l.take i).map (·.f1))) ∧ Below w.heap.size w wr ∧ w.heap.size < wr.heap.size))
      case atStart => exact ⟨0, rfl, Nat.zero_le _, Nat.le_refl _, ⟨by simp, by simp⟩, S0.out⟩
      case round =>
        clear S0
        obtain ⟨i, rfl, hi, hg, HP, S1⟩ := hrel
        by_cases hlt : i < l.length
        · have hltz : (i : Int) < (l.length : Int) := by omega
          obtain ⟨ad, x, rfl, hx, h0, h1, h2, h3⟩ := el_Mu HR.out rfl i hlt
          replace h0 := cell_below S1.out.2.1 h0
          replace h1 := cell_below S1.out.2.1 h1
          replace h2 := cell_below S1.out.2.1 h2
          replace h3 := cell_below S1.out.2.1 h3
          have HX : Aside (l[i]? = some x ∧ SzT x.f1) := ⟨hx, HZ.out x (List.mem_of_getElem? hx)⟩
          have HP2 : Hid (checkS m wm rev [] l = if checkT x.f1 ≠ 0 then checkT x.f1 else if x.f1 ∈ (l.take i).map (·.f1) then 5 else if badRev m wm rev x.f1 = true then 70 else checkS m wm rev ((l.take i).map (·.f1) ++ [x.f1]) (l.drop (i + 1))) := by
            show _ = _
            rw [HP.out.1, drop_get hx, checkS]
          have HT3 : Hid ((l.take (i + 1)).map (·.f1) = (l.take i).map (·.f1) ++ [x.f1]) := by
            show _ = _
            rw [take_step l i x hx, List.map_append]; rfl
          have hND := HP.out.2
          have HND : Hid (type_of% hND) := hND
          clear hx HP hND
          generalize (l.take i).map (·.f1) = seen at S1 HP2 HT3 HND
          obtain ⟨x0, ⟨t0, t1, t2⟩⟩ := x
          dsimp only at h0 h1 h2 h3
          -- tuple.Check of it
          have hchk : ∀ (W : World) (b : Nat), W.heap[b]? = some (.cells #[.string t0, .string t1, .string t2] 27) → Calls Tryd.prog 24 #[.slice (some ⟨b, 0, none⟩) 1 1] W fun e w' => e = .returned (.int .i64 (chkL [(⟨t0, t1, t2⟩ : T)])) ∧ Below W.heap.size W w' := fun (W : World) (b : Nat) (hW : W.heap[b]? = some (.cells #[.string t0, .string t1, .string t2] 27)) => tuple_Check (some ⟨b, 0, none⟩) 1 [⟨t0, t1, t2⟩] W (C_one hW) (by simp) (by intro t ht; rw [List.mem_singleton] at ht; rw [ht]; exact HX.out.2)
          have hck1 : chkL [(⟨t0, t1, t2⟩ : T)] = checkT ⟨t0, t1, t2⟩ := by
            rw [chkL]; by_cases e : checkT ⟨t0, t1, t2⟩ = 0
            · rw [if_neg (by simp [e]), e]; rfl
            · rw [if_pos e]
          rw [hck1] at hchk
          clear hck1
          have hbx := blk_new wr (.cells #[.bool x0, .string t0, .string t1, .string t2] 30)
          have hby := blk_new (wr.alloc (.cells #[.bool x0, .string t0, .string t1, .string t2] 30)) (.cells #[.string t0, .string t1, .string t2] 27)
          have hB2 : Below w.heap.size w ((wr.alloc (.cells #[.bool x0, .string t0, .string t1, .string t2] 30)).alloc (.cells #[.string t0, .string t1, .string t2] 27)) := below_alloc (below_alloc S1.out.2.1 _) _
          have hM2 := (S1.out.1.alloc (.cells #[.bool x0, .string t0, .string t1, .string t2] 30)).alloc (.cells #[.string t0, .string t1, .string t2] 27)
          have hk0 := fun k v (hk : (#[.bool x0, .string t0, .string t1, .string t2] : Array Value)[k]? = some v) => alloc_cell (w := wr.alloc (.cells #[.bool x0, .string t0, .string t1, .string t2] 30)) (.cells #[.string t0, .string t1, .string t2] 27) (a := ⟨wr.heap.size, k, none⟩) ((blk_cell hbx k).trans hk)
          have hck2 := hchk _ (wr.heap.size + 1) (by have h := hby; rw [alloc_size] at h; exact h)
          have HC : Aside (type_of% hck2) := hck2
          clear hck2
          have HW2 : Aside (type_of% hB2 ∧ type_of% hM2 ∧ w.heap.size + 1 ≤ wr.heap.size) := ⟨hB2, hM2, S1.out.2.2⟩
          have HK : Aside (type_of% hk0) := hk0
          clear hchk hbx hby hB2 hM2 hk0 S1
          by_cases c3 : checkT ⟨t0, t1, t2⟩ = 0
          · rw [c3] at HC
            by_cases c4 : (⟨t0, t1, t2⟩ : T) ∈ seen
            · have HD : Hid ((aget (⟨t0, t1, t2⟩ : T) (seenV seen)).getD (.int .i64 0) = .int .i64 1) := by show _ = _; rw [seen_get, if_pos c4]; rfl
              have HQ : Hid (storeCheck m wm rev l = 5) := by show _ = _; rw [HF.out, HP2.out, if_neg (by simp [c3]), if_pos c4]
              clear c3 c4 HP2 HT3 HND
              go_wp2_with (go_at_call 24; refine HC.out.mono ?_; rintro e w3 ⟨rfl, hb⟩; have HB3 : Aside _ := hb; have k1 := cell_below hb (HK.out 1 _ rfl); have k2 := cell_below hb (HK.out 2 _ rfl); have k3 := cell_below hb (HK.out 3 _ rfl); have k0 := cell_below hb (HK.out 0 _ rfl); clear hb)
              have hM3 : GMap kv w3.drew w.heap.size (seenV seen) := HW2.out.2.1.kept (HB3.out.block _ HW2.out.2.1.lt)
              have hl3 := look1 keyT Tryd.underlying71 zeroI hM3 ⟨t0, t1, t2⟩
              obtain ⟨st, wE, hrE, hGE, hgE⟩ := g_entry keyT Tryd.underlying71 zeroI hM3 ⟨t0, t1, t2⟩
              rw [HD.out] at hl3 hrE hGE
              obtain ⟨w4, hr4, hM4, hg4⟩ := g_store (mt := 71) keyT hGE (.int .i64 2)
              have hlE := look1 keyT Tryd.underlying71 zeroI hGE.toMap ⟨t0, t1, t2⟩
              rw [aget_aput, if_pos rfl] at hlE
              have hwr : IntKind.i64.wrap 2 = 2 := by decide
              have n0 : ∀ k, some (⟨wr.heap.size, k, none⟩ : Addr).block ≠ some w.heap.size := fun k e => by have := HW2.out.2.2; injection e with e; simp at e; omega
              have j1 := hgE.cell (v := .string t0) k1 (n0 1)
              have j2 := hgE.cell (v := .string t1) k2 (n0 2)
              have j3 := hgE.cell (v := .string t2) k3 (n0 3)
              have q0 := hg4.cell (hgE.cell (v := .bool x0) k0 (n0 0)) (n0 0)
              have q1 := hg4.cell j1 (n0 1)
              have q2 := hg4.cell j2 (n0 2)
              have q3 := hg4.cell j3 (n0 3)
              have hl4 := look1 keyT Tryd.underlying71 zeroI hM4 ⟨t0, t1, t2⟩
              rw [aget_aput, if_pos rfl] at hl4
              have hB4 : Below w.heap.size w w4 := ((HW2.out.1.trans (HB3.out.mono HW2.out.1.size)).grown (w' := wE) (row := some w.heap.size) ⟨hgE.os, hgE.tape, hgE.output, hgE.size, hgE.block⟩ (HW2.out.1.trans (HB3.out.mono HW2.out.1.size)).size (fun k e => by injection e with e; omega)).grown hg4 (Nat.le_trans (HW2.out.1.trans (HB3.out.mono HW2.out.1.size)).size hgE.size) (fun k e => by injection e with e; omega)
              have H4 : Aside (type_of% hM4 ∧ Below w.heap.size w w4 ∧ w.heap.size < w4.heap.size) := ⟨hM4, hB4, hM4.lt⟩
              simp only [kv, Option.getD_some] at hl3 hrE hr4 hl4 hlE
              clear hM3 hGE hM4 hg4 hgE n0 hB4
              go_region_held3 (fun w' => w'.cell? ⟨wr.heap.size, 1, none⟩ = some (.string t0) ∧ w'.cell? ⟨wr.heap.size, 2, none⟩ = some (.string t1) ∧ w'.cell? ⟨wr.heap.size, 3, none⟩ = some (.string t2))
                (first | (go_split_ands; exact ⟨by assumption, by assumption, by assumption⟩) | (go_split_ands; exact ⟨by go_keep, by go_keep, by go_keep⟩))
                (fail)
              all_goals
                clear hwr hlE k0 k1 k2 k3 j1 j2 j3 hl3 hrE hr4
                go_wp2
                go_ret
                exact ⟨by rw [HQ.out]; rfl, H4.out.2.1⟩
            · have HD : Hid ((aget (⟨t0, t1, t2⟩ : T) (seenV seen)).getD (.int .i64 0) = .int .i64 0) := by show _ = _; rw [seen_get, if_neg c4]; rfl
              have HSn : Hid ((⟨t0, t1, t2⟩ : T) ∉ seen) := c4
              rw [if_neg (by simp [c3]), if_neg c4] at HP2
              clear c3 c4
              go_wp2_with (go_at_call 24; refine HC.out.mono ?_; rintro e w3 ⟨rfl, hb⟩; have HB3 : Aside _ := hb; have k1 := cell_below hb (HK.out 1 _ rfl); have k2 := cell_below hb (HK.out 2 _ rfl); have k3 := cell_below hb (HK.out 3 _ rfl); have k0 := cell_below hb (HK.out 0 _ rfl); clear hb)
              have hM3 : GMap kv w3.drew w.heap.size (seenV seen) := HW2.out.2.1.kept (HB3.out.block _ HW2.out.2.1.lt)
              have hl3 := look1 keyT Tryd.underlying71 zeroI hM3 ⟨t0, t1, t2⟩
              obtain ⟨st, wE, hrE, hGE, hgE⟩ := g_entry keyT Tryd.underlying71 zeroI hM3 ⟨t0, t1, t2⟩
              rw [HD.out] at hl3 hrE hGE
              obtain ⟨w4, hr4, hM4, hg4⟩ := g_store (mt := 71) keyT hGE (.int .i64 1)
              have hlE := look1 keyT Tryd.underlying71 zeroI hGE.toMap ⟨t0, t1, t2⟩
              rw [aget_aput, if_pos rfl] at hlE
              have hwr : IntKind.i64.wrap 1 = 1 := by decide
              have n0 : ∀ k, some (⟨wr.heap.size, k, none⟩ : Addr).block ≠ some w.heap.size := fun k e => by have := HW2.out.2.2; injection e with e; simp at e; omega
              have j1 := hgE.cell (v := .string t0) k1 (n0 1)
              have j2 := hgE.cell (v := .string t1) k2 (n0 2)
              have j3 := hgE.cell (v := .string t2) k3 (n0 3)
              have q0 := hg4.cell (hgE.cell (v := .bool x0) k0 (n0 0)) (n0 0)
              have q1 := hg4.cell j1 (n0 1)
              have q2 := hg4.cell j2 (n0 2)
              have q3 := hg4.cell j3 (n0 3)
              have hl4 := look1 keyT Tryd.underlying71 zeroI hM4 ⟨t0, t1, t2⟩
              rw [aget_aput, if_pos rfl] at hl4
              have hB4 : Below w.heap.size w w4 := ((HW2.out.1.trans (HB3.out.mono HW2.out.1.size)).grown (w' := wE) (row := some w.heap.size) ⟨hgE.os, hgE.tape, hgE.output, hgE.size, hgE.block⟩ (HW2.out.1.trans (HB3.out.mono HW2.out.1.size)).size (fun k e => by injection e with e; omega)).grown hg4 (Nat.le_trans (HW2.out.1.trans (HB3.out.mono HW2.out.1.size)).size hgE.size) (fun k e => by injection e with e; omega)
              have H4 : Aside (type_of% hM4 ∧ Below w.heap.size w w4 ∧ w.heap.size < w4.heap.size) := ⟨hM4, hB4, hM4.lt⟩
              simp only [kv, Option.getD_some] at hl3 hrE hr4 hl4 hlE
              clear hM3 hGE hM4 hg4 hgE n0 hB4
              go_region_held3 (fun w' => w'.cell? ⟨wr.heap.size, 1, none⟩ = some (.string t0) ∧ w'.cell? ⟨wr.heap.size, 2, none⟩ = some (.string t1) ∧ w'.cell? ⟨wr.heap.size, 3, none⟩ = some (.string t2))
                (first | (go_split_ands; exact ⟨by assumption, by assumption, by assumption⟩) | (go_split_ands; exact ⟨by go_keep, by go_keep, by go_keep⟩))
                (fail)
              all_goals
                clear hwr hlE k0 k1 k2 k3 j1 j2 j3 hl3 hrE hr4
                have hLa := store_last p ⟨t0, t1, t2⟩ w4 (HS.out.1.below H4.out.2.1) (HS.out.2 _)
                have hmk := (HS.out.1.below H4.out.2.1).mark
                have HMk : Aside (type_of% hmk) := hmk
                by_cases c5 : rev ≤ lastOf (getL ⟨t0, t1, t2⟩ m)
                · have d5 : decide (rev ≤ lastOf (getL ⟨t0, t1, t2⟩ m)) = true := decide_eq_true c5
                  have HQ : Hid (storeCheck m wm rev l = 70) := by
                    show _ = _
                    rw [HF.out, HP2.out, if_pos (bad_l c5)]
                  generalize lastOf (getL ⟨t0, t1, t2⟩ m) = la at hLa d5
                  have HLa : Aside (type_of% hLa) := hLa
                  clear hLa c5 HP2 HT3 HND hmk
                  go_wp2_with (go_at_call 25; refine HLa.out.mono ?_; rintro e w5 ⟨rfl, hb⟩; have HB5 : Aside _ := hb; clear hb)
                  go_ret
                  exact ⟨by rw [HQ.out]; rfl, H4.out.2.1.trans (HB5.out.mono H4.out.2.1.size)⟩
                · have d5 : decide (rev ≤ lastOf (getL ⟨t0, t1, t2⟩ m)) = false := decide_eq_false c5
                  by_cases c6 : rev ≤ wm
                  · have d6 : decide (rev ≤ wm) = true := decide_eq_true c6
                    have HQ : Hid (storeCheck m wm rev l = 70) := by
                      show _ = _
                      rw [HF.out, HP2.out, if_pos (bad_r c6)]
                    generalize lastOf (getL ⟨t0, t1, t2⟩ m) = la at hLa d5
                    have HLa : Aside (type_of% hLa) := hLa
                    clear hLa c5 HP2 HT3 HND hmk
                    go_wp2_with (go_at_call 25; refine HLa.out.mono ?_; rintro e w5 ⟨rfl, hb⟩; have HB5 : Aside _ := hb; have mk5 := cell_below hb HMk.out; clear hb)
                    go_ret
                    exact ⟨by rw [HQ.out]; rfl, H4.out.2.1.trans (HB5.out.mono H4.out.2.1.size)⟩
                  · have d6 : decide (rev ≤ wm) = false := decide_eq_false c6
                    have HQ : Hid (checkS m wm rev [] l = checkS m wm rev ((l.take (i + 1)).map (·.f1)) (l.drop (i + 1)) ∧ ((l.take (i + 1)).map (·.f1)).Nodup) := by
                      rw [HT3.out]
                      refine ⟨?_, ?_⟩
                      · rw [HP2.out, if_neg (bad_no c5 c6)]
                      · rw [List.nodup_append]
                        refine ⟨HND.out, by simp, ?_⟩
                        rintro a ha b hb rfl
                        rw [List.mem_singleton] at hb
                        exact HSn.out (hb ▸ ha)
                    generalize lastOf (getL ⟨t0, t1, t2⟩ m) = la at hLa d5
                    have HLa : Aside (type_of% hLa) := hLa
                    clear hLa c5 HP2 HND hmk
                    go_wp2_with (go_at_call 25; refine HLa.out.mono ?_; rintro e w5 ⟨rfl, hb⟩; have HB5 : Aside _ := hb; have mk5 := cell_below hb HMk.out; clear hb)
                    go_roundg (l.length - (i + 1))
                    case measure => omega
                    case rel => exact ⟨i + 1, by first | rfl | go_num, by omega, Nat.le_refl _, HQ.out, by rw [HT3.out, ← seen_put HSn.out]; exact H4.out.1.kept (HB5.out.block _ H4.out.2.2), H4.out.2.1.trans (HB5.out.mono H4.out.2.1.size), Nat.lt_of_lt_of_le H4.out.2.2 HB5.out.size⟩
          · have d : (checkT ⟨t0, t1, t2⟩ != 0) = true := by simp [c3]
            have HQ : Hid (storeCheck m wm rev l = checkT ⟨t0, t1, t2⟩) := by show _ = _; rw [HF.out, HP2.out, if_pos c3]
            clear HP2
            generalize checkT ⟨t0, t1, t2⟩ = v at HC d HQ
            clear c3 HT3 HND
            go_wp2_with (go_at_call 24; refine HC.out.mono ?_; rintro e w3 ⟨rfl, hb⟩; have HB3 : Aside _ := hb; have k1 := cell_below hb (HK.out 1 _ rfl); have k2 := cell_below hb (HK.out 2 _ rfl); have k3 := cell_below hb (HK.out 3 _ rfl); have k0 := cell_below hb (HK.out 0 _ rfl); clear hb)
            go_ret
            exact ⟨by rw [HQ.out]; rfl, (HW2.out.1.trans (HB3.out.mono HW2.out.1.size))⟩
        · have hltz : ¬ (i : Int) < (l.length : Int) := by omega
          have HQ : Hid (storeCheck m wm rev l = 0) := by
            show _ = _
            rw [HF.out, HP.out.1, List.drop_of_length_le (by omega)]; rfl
          go_wp2
          go_ret
          exact ⟨by rw [HQ.out]; rfl, S1.out.2.1⟩
end Go.Proofs.YtelmbimmkdobaaaDoor.Pr

namespace Go.Proofs.YtelmbimmkdobaaaDoor.Pr
open Go.Shelf Go.RowKit Go.Lib Go.Sort Go.Proofs.YtelmbimmkdobaaaDoor
open Go.Proofs.YtelmbimmkdobaaaDoorW.PrintWords Go.Proofs.YtelmbimmkdobaaaDoorW.PrintLast Go.Proofs.YtelmbimmkdobaaaDoorW.PrintMore
attribute [local go_sem ↓] Go.wp_at_zero Go.wp_at_succ

def closeL (rev : Int) (l : List Sp) : List Sp := match l.getLast? with | none => l | some s => l.set (l.length - 1) (s.1, rev)
def applyMu (rev : Int) (m : List (T × List Sp)) (x : Mu) : List (T × List Sp) :=
  if thereB (getL x.f1 m) = true then (if x.f0 = true then aput x.f1 (closeL rev (getL x.f1 m)) m else m) else (if x.f0 = true then m else aput x.f1 (getL x.f1 m ++ [(rev, 0)]) m)
def applyL (rev : Int) (m : List (T × List Sp)) (l : List Mu) : List (T × List Sp) := l.foldl (applyMu rev) m

theorem closeL_len (rev : Int) (l : List Sp) : (closeL rev l).length = l.length := by
  unfold closeL; split
  · rfl
  · simp
theorem aput_len {κ β : Type} [DecidableEq κ] (t : κ) (l : β) (m : List (κ × β)) : (aput t l m).length ≤ m.length + 1 := by
  rcases asplit t m with ⟨_, _, h3, _⟩ | ⟨m1, v0, m2, h0, _, _, h3, _⟩
  · rw [h3]; simp
  · rw [h3, h0]; simp
theorem applyMu_len (rev : Int) (m : List (T × List Sp)) (x : Mu) : (applyMu rev m x).length ≤ m.length + 1 ∧ ∀ t, (getL t (applyMu rev m x)).length ≤ (getL t m).length + 1 := by
  have h1 : ∀ (l : List Sp), l.length ≤ (getL x.f1 m).length + 1 → (aput x.f1 l m).length ≤ m.length + 1 ∧ ∀ t, (getL t (aput x.f1 l m)).length ≤ (getL t m).length + 1 := by
    intro l hl
    refine ⟨aput_len _ _ _, fun t => ?_⟩
    rw [getL_aput]
    split
    · rename_i e; rw [e]; exact hl
    · omega
  unfold applyMu
  split
  · split
    · exact h1 _ (by rw [closeL_len]; omega)
    · exact ⟨by omega, fun t => by omega⟩
  · split
    · exact ⟨by omega, fun t => by omega⟩
    · exact h1 _ (by simp)
theorem applyL_len (rev : Int) : ∀ (l : List Mu) (m : List (T × List Sp)), (applyL rev m l).length ≤ m.length + l.length ∧ ∀ t, (getL t (applyL rev m l)).length ≤ (getL t m).length + l.length
  | [], m => ⟨by simp [applyL], fun t => by simp [applyL]⟩
  | x :: l, m => by
    have h1 := applyMu_len rev m x
    have h2 := applyL_len rev l (applyMu rev m x)
    unfold applyL at h2 ⊢
    rw [List.foldl_cons, List.length_cons]
    exact ⟨by have := h2.1; have := h1.1; omega, fun t => by have := h2.2 t; have := h1.2 t; omega⟩
theorem apply_step (rev : Int) (m : List (T × List Sp)) (l : List Mu) (i : Nat) (x : Mu) (hx : l[i]? = some x) : applyL rev m (l.take (i + 1)) = applyMu rev (applyL rev m (l.take i)) x := by
  unfold applyL
  rw [take_step l i x hx, List.foldl_append]; rfl

/-! ### what came in stays -/
theorem add_block (ad : Addr) (n : Nat) : (ad.add n).block = ad.block := by unfold Addr.add; split <;> rfl
theorem C_block {α : Type} {d : Kd α} (hK : ∀ (w w' : World) (x : α) (cs : List Value), d.K w x cs → d.K w' x cs) {w w' : World} {A : Option Addr} {n : Nat} {xs : List α} (h : Kd.C d w A n xs) (hb : ∀ ad, A = some ad → ∀ v k, w.cell? (ad.add k) = some v → w'.heap[ad.block]? = w.heap[ad.block]?) : Kd.C d w' A n xs := by
  refine ⟨h.1, h.2.1, fun h0 => ?_⟩
  obtain ⟨ad, e, hc⟩ := h.2.2 h0
  refine ⟨ad, e, fun j p hp => ?_⟩
  obtain ⟨c, l, k, hcell⟩ := hc j p hp
  refine ⟨c, l, hK w w' p c k, fun i u hu => ?_⟩
  have q := hcell i u hu
  rw [← q]
  exact World.cell?_of_block (by rw [add_block]; exact hb ad e _ _ q)
/-- The row is none of the store's. -/
def Free (o : Own) (A : Option Addr) : Prop := ∀ ad, A = some ad → ∀ g, o ad.block ≠ some g
theorem C_moved {α : Type} {d : Kd α} (hK : ∀ (w w' : World) (x : α) (cs : List Value), d.K w x cs → d.K w' x cs) {w w' : World} {A : Option Addr} {n : Nat} {xs : List α} {o o' : Own} {a b : Nat} (h : Kd.C d w A n xs) (hm : Moves a b o o' w w') (hf : Free o A) : Kd.C d w' A n xs :=
  C_block hK h (fun ad e v k hv => hm.block ad.block (by have := World.block_lt_of_cell? w _ hv; rw [add_block] at this; exact this) (fun g hg => absurd hg (hf ad e g)))
theorem flat_Mu (w w' : World) (x : Mu) (cs : List Value) (h : k30.K w x cs) : k30.K w' x cs := by rw [k30_open h]; exact k30_mk w' x

/-! ### the last span is closed -/
theorem set_flat (l : List Sp) (j : Nat) (s : Sp) (rev : Int) (h : l[j]? = some s) : (l.flatMap enSp).set (j * 2 + 1) (.int .i64 rev) = (l.set j (s.1, rev)).flatMap enSp := by
  induction l generalizing j with
  | nil => simp at h
  | cons x l ih =>
    cases j with
    | zero =>
      have : x = s := by simpa using h
      subst this
      rfl
    | succ j =>
      have ih := ih j (by simpa using h)
      rw [List.set_cons_succ, List.flatMap_cons, List.flatMap_cons, ← ih, show (j + 1) * 2 + 1 = j * 2 + 1 + 2 by omega]
      rfl
theorem own_close {w : World} {g c : Nat} {l : List Sp} {s : Sp} (rev : Int) (h : ownSp w (.slice (some ⟨g, 0, none⟩) l.length c) l) (hs : l.getLast? = some s) :
    ownSp (w.setCell ⟨g, (l.length - 1) * 2 + 1, none⟩ (.int .i64 rev)) (.slice (some ⟨g, 0, none⟩) l.length c) (closeL rev l) ∧ w.grownBy (w.setCell ⟨g, (l.length - 1) * 2 + 1, none⟩ (.int .i64 rev)) (some g) := by
  have h1 := World.ownsRow.stored h ((l.length - 1) * 2 + 1) (.int .i64 rev)
  refine ⟨?_, h1.2⟩
  have h2 := h1.1
  rw [set_flat l (l.length - 1) s rev (by rw [← List.getLast?_eq_getElem?]; exact hs)] at h2
  unfold ownSp
  have e : closeL rev l = l.set (l.length - 1) (s.1, rev) := by unfold closeL; rw [hs]
  rw [e]
  simpa using h2
/-- A store with one span closed. -/
theorem store_close {w : World} {p : Nat} {m : List (T × List Sp)} {wm : Int} {o : Own} (h : StoreAt w p m wm o) (t : T) (rev : Int) {s : Sp} (hs : (getL t m).getLast? = some s) :
    ∃ bS g c, w.cell? ⟨p, 0, none⟩ = some (.map (some bS)) ∧ (∀ W, Below w.heap.size w W → Sem.run Tryd.prog (Instr.lookup 45 (.map (some bS)) (kv t) false) W = .ok (.slice (some ⟨g, 0, none⟩) (getL t m).length c) W) ∧ g < w.heap.size ∧
      (∀ W, Below w.heap.size w W → W.cell? ⟨g, ((getL t m).length - 1) * 2 + 1, none⟩ = some (.int .i64 s.2) ∧ W.frozen? ⟨g, ((getL t m).length - 1) * 2 + 1, none⟩ = false ∧
        StoreAt (W.setCell ⟨g, ((getL t m).length - 1) * 2 + 1, none⟩ (.int .i64 rev)) p (aput t (closeL rev (getL t m)) m) wm o ∧ Moves 0 8 o o W (W.setCell ⟨g, ((getL t m).length - 1) * 2 + 1, none⟩ (.int .i64 rev))) := by
  have hst := h
  obtain ⟨bS, bO, bU, lO, lU, hH, hS, hO, hU, hkO, hkU, hl⟩ := h.open
  obtain ⟨v, hM, hR, hoS, hoT⟩ := hS
  have hx := hR.get (ownSp_nil w) t
  have hpos : 0 < (getL t m).length := by
    cases hq : getL t m with
    | nil => rw [hq] at hs; simp at hs
    | cons _ _ => simp
  obtain ⟨A, c, hA⟩ := own_form hx
  rw [hA] at hx
  obtain ⟨g, s', rfl, hs', g0, g1⟩ := sp_last hx hpos
  have hss : s' = s := by rw [hs'] at hs; exact Option.some.inj hs
  subst hss
  have hv : aget t v = some (.slice (some ⟨g, 0, none⟩) (getL t m).length c) := by
    cases hv : aget t v with
    | none => rw [hv] at hA; cases hA
    | some y => rw [hv] at hA; exact congrArg some hA
  have hog : o g = some (8, kv t) := hoT t _ g hv rfl
  have hgl := hl g _ hog
  refine ⟨bS, g, c, hH.cells.1, fun W hW => ?_, hgl, fun W hW => ?_⟩
  · have := look1 keyT Tryd.underlying45 zeroSp (hM.kept (hW.block _ hM.lt)) t
    rw [hA] at this; exact this
  · have hxW := ownSp_same hx (fun b hb => hW.block b (ownB_lt hx hb))
    obtain ⟨c1, c2⟩ := own_close rev hxW hs'
    have hlW : Lives o W := hl.mono hW.size
    have hmv : Moves 8 8 o o W (W.setCell ⟨g, ((getL t m).length - 1) * 2 + 1, none⟩ (.int .i64 rev)) := Moves.of_grown hlW c2 (fun b hb _ => by injection hb with hb; subst hb; exact ⟨_, hog, by simp, by simp⟩)
    have hstW := hst.below hW
    obtain ⟨bS', bO', bU', lO', lU', hH', hS', hO', hU', hkO', hkU', hl'⟩ := hstW.open
    refine ⟨cell_below hW g1, World.ownsRow.frozenAt hxW _, ?_, hmv.mono (by omega) (by omega)⟩
    have hk : (aput t (closeL rev (getL t m)) m).map Prod.fst = m.map Prod.fst := by
      rw [keys_aput, if_pos]
      have : t ∈ v.map Prod.fst := by
        have := aget_mem hv
        exact List.mem_map.2 ⟨_, this, rfl⟩
      rw [← hR.1]; exact this
    have hRW : Rep ownSp W m v := hR.kept (fun t l x _ hl => ownSp_same hl (fun b hb => hW.block b (ownB_lt hl hb)))
    have hS2 : SpansAt (W.setCell ⟨g, ((getL t m).length - 1) * 2 + 1, none⟩ (.int .i64 rev)) bS (aput t (closeL rev (getL t m)) m) o := by
      refine ⟨v, (hM.kept (hW.block _ hM.lt)).setCell _ _ (fun e => ?_), ⟨by rw [hk]; exact hR.1, fun u l' x' e1 e2 => ?_⟩, hoS, hoT⟩
      · have e : bS = g := e
        subst e; rw [hoS] at hog; injection hog with hog; injection hog with hog; omega
      · rw [aget_aput] at e1
        by_cases e : u = t
        · rw [if_pos e] at e1
          injection e1 with e1
          subst e1
          rw [e, hv] at e2
          injection e2 with e2
          subst e2
          exact c1
        · rw [if_neg e] at e1
          refine ownSp_same (hRW.2 u l' x' e1 e2) (fun b hb => ?_)
          have ht := hoT u x' b e2 hb
          exact c2.block b (hlW b _ ht) (fun q => by injection q with q; subst q; rw [hog] at ht; injection ht with ht; exact e (tag_inj keyT.inj ht).symm)
    -- the head, by the look at W
    have hHW : HeadAt W p bS bO bU wm o := ⟨(hW.block p (hl p _ hH.2)).trans hH.1, hH.2⟩
    have hOW : IdxAt kp 66 1 W bO lO o := hO.kept (fun b g hg _ _ => ⟨hW.block b (hl b g hg), rfl⟩)
    have hUW : IdxAt Value.string 70 4 W bU lU o := hU.kept (fun b g hg _ _ => ⟨hW.block b (hl b g hg), rfl⟩)
    exact StoreAt.shut (hHW.moved hlW hmv (by omega)) hS2 (hOW.moved hlW hmv (by omega)) (hUW.moved hlW hmv (by omega)) (by rw [hk]; exact hkO) (by rw [hk]; exact hkU) (hlW.mono c2.size)

set_option maxHeartbeats 32000000 in
set_option maxRecDepth 100000 in
theorem store_Apply (p : Nat) (rev : Int) (A : Option Addr) (c : Nat) (l : List Mu) (w : World) {m : List (T × List Sp)} {wm : Int} {o : Own} (h : StoreAt w p m wm o) (hm : m.length + l.length < 2147483648) (hs : ∀ t, (getL t m).length + l.length < 2147483648) (hr : Kd.C k30 w A l.length l) (hf : Free o A) (hz : ∀ x ∈ l, SzT x.f1) :
    Calls Tryd.prog 8 #[.pointer (some ⟨p, 0, none⟩), .int .i64 rev, .slice A l.length c] w fun e w' => e = .returned (.int .i64 (storeCheck m wm rev l)) ∧ ∃ o', StoreAt w' p (if storeCheck m wm rev l = 0 then applyL rev m l else m) wm o' ∧ Moves 0 8 o o' w w' := by
  have hck := store_Check p rev A c l w h (fun t => by have := hs t; omega) hr (by omega) hz
  have HS : Aside (StoreAt w p m wm o ∧ m.length + l.length < 2147483648 ∧ (∀ t, (getL t m).length + l.length < 2147483648) ∧ Free o A) := ⟨h, hm, hs, hf⟩
  have HR : Aside (Kd.C k30 w A l.length l) := hr
  have hll : l.length < 2147483648 := by omega
  clear h hm hs hr hf hz
  by_cases c1 : storeCheck m wm rev l = 0
  · rw [if_pos c1]
    rw [c1] at hck ⊢
    have HC : Aside (type_of% hck) := hck
    clear hck c1
    go_enter Tryd.func8, Tryd.ntmps8
    go_wp2_with (go_at_call 15; refine HC.out.mono ?_; rintro e w1 ⟨rfl, hb⟩; have HB1 : Aside _ := hb; clear hb)
    go_loopg [21] l.length (fun gk s21 wr => ∃ (i : Nat) (oi : Own), s21 = .int .i64 i ∧ i ≤ l.length ∧ l.length - i ≤ gk ∧ Aside (StoreAt wr p (applyL rev m (l.take i)) wm oi ∧ Moves 0 8 o oi w wr))
    case atStart => exact ⟨0, o, rfl, Nat.zero_le _, Nat.le_refl _, HS.out.1.below HB1.out, Moves.of_below 0 8 HS.out.1.lives HB1.out⟩
    case round =>
      clear HB1
      obtain ⟨i, oi, rfl, hi, hg, S1⟩ := hrel
      by_cases hlt : i < l.length
      · have hltz : (i : Int) < (l.length : Int) := by omega
        obtain ⟨ad, x, rfl, hx, h0, h1, h2, h3⟩ := el_Mu (C_moved flat_Mu HR.out S1.out.2 HS.out.2.2.2) rfl i hlt
        have HT : Hid (applyL rev m (l.take (i + 1)) = applyMu rev (applyL rev m (l.take i)) x) := apply_step rev m l i x hx
        have hlen := applyL_len rev (l.take i) m
        have htl : (l.take i).length ≤ i := List.length_take_le _ _
        have hm2 : (applyL rev m (l.take i)).length < 2147483648 := by have := hlen.1; have := HS.out.2.1; omega
        have hs2 : ∀ t, (getL t (applyL rev m (l.take i))).length < 2147483648 := fun t => by have := hlen.2 t; have := HS.out.2.2.1 t; omega
        clear hx hlen htl
        generalize applyL rev m (l.take i) = mi at S1 HT hm2 hs2
        obtain ⟨x0, ⟨t0, t1, t2⟩⟩ := x
        dsimp only at h0 h1 h2 h3
        have HT2 : Hid (applyMu rev mi ⟨x0, ⟨t0, t1, t2⟩⟩ = if thereB (getL ⟨t0, t1, t2⟩ mi) = true then (if x0 = true then aput ⟨t0, t1, t2⟩ (closeL rev (getL ⟨t0, t1, t2⟩ mi)) mi else mi) else (if x0 = true then mi else aput ⟨t0, t1, t2⟩ (getL ⟨t0, t1, t2⟩ mi ++ [(rev, 0)]) mi)) := rfl
        have HL2 : Aside (mi.length < 2147483648 ∧ ∀ t, (getL t mi).length < 2147483648) := ⟨hm2, hs2⟩
        -- the world behind the box
        have hB1 : Below wr.heap.size wr (wr.alloc (.cells #[.bool x0, .string t0, .string t1, .string t2] 30)) := (Below.refl _ _).alloc (Nat.le_refl _) _
        obtain ⟨bS, y, hc, hy, hlk⟩ := S1.out.1.look ⟨t0, t1, t2⟩
        have hc1 := cell_below hB1 hc
        have hlook := fun n => hlk ((wr.alloc (.cells #[.bool x0, .string t0, .string t1, .string t2] 30)).drewN n) (pw_below_drewN hB1 n)
        obtain ⟨Ay, cy, hyf⟩ := own_form hy
        subst hyf
        have hth := fun W (hW : Below wr.heap.size wr W) => store_there p ⟨t0, t1, t2⟩ W (S1.out.1.below hW) (by have := hs2 ⟨t0, t1, t2⟩; omega)
        have hbx : ∀ n k v, (#[.bool x0, .string t0, .string t1, .string t2] : Array Value)[k]? = some v → ((wr.alloc (.cells #[.bool x0, .string t0, .string t1, .string t2] 30)).drewN n).cell? ⟨wr.heap.size, k, none⟩ = some v := fun n k v hk => cell_below (drewN_below _ n) ((blk_cell (blk_new wr _) k).trans hk)
        have HBX : Aside (type_of% hbx) := hbx
        have HB1 : Aside (type_of% hB1) := hB1
        have HY : Aside (ownSp wr (.slice Ay (getL ⟨t0, t1, t2⟩ mi).length cy) (getL ⟨t0, t1, t2⟩ mi)) := hy
        clear hc hlk hy hm2 hs2 hbx hB1
        simp only [kv] at hlook
        cases hthB : thereB (getL (⟨t0, t1, t2⟩ : T) mi)
        · rw [hthB] at hth HT2
          have HTh : Aside (type_of% hth) := hth
          cases x0
          · -- put: add
            have HQ : Hid (applyL rev m (l.take (i + 1)) = aput ⟨t0, t1, t2⟩ (getL ⟨t0, t1, t2⟩ mi ++ [(rev, 0)]) mi) := by show _ = _; rw [HT.out, HT2.out]; rfl
            have hadd := fun W (hW : Below wr.heap.size wr W) => store_add p ⟨t0, t1, t2⟩ (rev, 0) W (S1.out.1.below hW) HL2.out.1 (HL2.out.2 _)
            have HAd : Aside (type_of% hadd) := hadd
            clear hth hthB HT HT2 hadd
            generalize getL (⟨t0, t1, t2⟩ : T) mi = ly at *
            go_wp2
            go_quiet (fail)
            go_wp2_with (first | (go_at_call 16; refine (HTh.out _ (by repeat (first | exact HB1.out | apply pw_below_drewN))).mono ?_; rintro e w3 ⟨rfl, hb⟩; have k0 := cell_below hb (HBX.out _ 0 _ rfl); have k1 := cell_below hb (HBX.out _ 1 _ rfl); have k2 := cell_below hb (HBX.out _ 2 _ rfl); have k3 := cell_below hb (HBX.out _ 3 _ rfl); have HB3 : Aside (Below wr.heap.size wr w3) := below_step (by repeat (first | exact HB1.out | apply pw_below_drewN)) hb; clear hb) | (go_at_call 17; refine (HAd.out _ HB3.out).mono ?_; rintro e w4 ⟨rfl, o4, hS4, hV4⟩; have H4 : Aside (type_of% hS4 ∧ type_of% hV4) := ⟨hS4, hV4⟩; clear hS4 hV4))
            go_roundg (l.length - (i + 1))
            case measure => omega
            case rel => exact ⟨i + 1, o4, by first | rfl | go_num, by omega, Nat.le_refl _, by rw [HQ.out]; exact H4.out.1, (S1.out.2.trans (Moves.of_below 0 8 S1.out.1.lives HB3.out)).trans H4.out.2⟩
          · have HQ : Hid (applyL rev m (l.take (i + 1)) = mi) := by show _ = _; rw [HT.out, HT2.out]; rfl
            clear hth hthB HT HT2
            generalize getL (⟨t0, t1, t2⟩ : T) mi = ly at *
            go_wp2
            go_quiet (fail)
            go_wp2_with (go_at_call 16; refine (HTh.out _ (by repeat (first | exact HB1.out | apply pw_below_drewN))).mono ?_; rintro e w3 ⟨rfl, hb⟩; have k0 := cell_below hb (HBX.out _ 0 _ rfl); have k1 := cell_below hb (HBX.out _ 1 _ rfl); have k2 := cell_below hb (HBX.out _ 2 _ rfl); have k3 := cell_below hb (HBX.out _ 3 _ rfl); have HB3 : Aside (Below wr.heap.size wr w3) := below_step (by repeat (first | exact HB1.out | apply pw_below_drewN)) hb; clear hb)
            go_roundg (l.length - (i + 1))
            case measure => omega
            case rel => exact ⟨i + 1, oi, by first | rfl | go_num, by omega, Nat.le_refl _, by rw [HQ.out]; exact S1.out.1.below HB3.out, S1.out.2.trans (Moves.of_below 0 8 S1.out.1.lives HB3.out)⟩
        · rw [hthB] at hth HT2
          have HTh : Aside (type_of% hth) := hth
          cases x0
          · have HQ : Hid (applyL rev m (l.take (i + 1)) = mi) := by show _ = _; rw [HT.out, HT2.out]; rfl
            clear hth hthB HT HT2
            generalize getL (⟨t0, t1, t2⟩ : T) mi = ly at *
            go_wp2
            go_quiet (fail)
            go_wp2_with (go_at_call 16; refine (HTh.out _ (by repeat (first | exact HB1.out | apply pw_below_drewN))).mono ?_; rintro e w3 ⟨rfl, hb⟩; have k0 := cell_below hb (HBX.out _ 0 _ rfl); have k1 := cell_below hb (HBX.out _ 1 _ rfl); have k2 := cell_below hb (HBX.out _ 2 _ rfl); have k3 := cell_below hb (HBX.out _ 3 _ rfl); have HB3 : Aside (Below wr.heap.size wr w3) := below_step (by repeat (first | exact HB1.out | apply pw_below_drewN)) hb; clear hb)
            go_roundg (l.length - (i + 1))
            case measure => omega
            case rel => exact ⟨i + 1, oi, by first | rfl | go_num, by omega, Nat.le_refl _, by rw [HQ.out]; exact S1.out.1.below HB3.out, S1.out.2.trans (Moves.of_below 0 8 S1.out.1.lives HB3.out)⟩
          · have HQ : Hid (applyL rev m (l.take (i + 1)) = aput ⟨t0, t1, t2⟩ (closeL rev (getL ⟨t0, t1, t2⟩ mi)) mi) := by show _ = _; rw [HT.out, HT2.out]; rfl
            obtain ⟨s, hls⟩ : ∃ s, (getL (⟨t0, t1, t2⟩ : T) mi).getLast? = some s := by
              cases hq : (getL (⟨t0, t1, t2⟩ : T) mi).getLast? with
              | none => unfold thereB at hthB; rw [hq] at hthB; cases hthB
              | some s => exact ⟨s, rfl⟩
            obtain ⟨bS', g, cg, hc', hlk', hgl, hcl⟩ := store_close S1.out.1 ⟨t0, t1, t2⟩ rev hls
            have hpos : 0 < (getL (⟨t0, t1, t2⟩ : T) mi).length := by
              cases hq : getL (⟨t0, t1, t2⟩ : T) mi with
              | nil => rw [hq] at hls; simp at hls
              | cons _ _ => simp
            have hc1' := cell_below HB1.out hc'
            have hlook' := fun n => hlk' ((wr.alloc (.cells #[.bool true, .string t0, .string t1, .string t2] 30)).drewN n) (pw_below_drewN HB1.out n)
            simp only [kv] at hlook'
            have HCl : Aside (type_of% hcl) := hcl
            have hll2 := HL2.out.2 ⟨t0, t1, t2⟩
            clear hth hthB HT HT2 hc1 hlook hc' hlk' hgl hcl hls
            generalize getL (⟨t0, t1, t2⟩ : T) mi = ly at *
            have hidx : (ly.length : Int) - 1 = ((ly.length - 1 : Nat) : Int) := by omega
            go_wp2
            go_quiet (fail)
            go_wp2_with (go_at_call 16; refine (HTh.out _ (by repeat (first | exact HB1.out | apply pw_below_drewN))).mono ?_; rintro e w3 ⟨rfl, hb⟩; have k0 := cell_below hb (HBX.out _ 0 _ rfl); have HB3 : Aside (Below wr.heap.size wr w3) := below_step (by repeat (first | exact HB1.out | apply pw_below_drewN)) hb; have kc := (HCl.out w3 HB3.out).1; have kf := (HCl.out w3 HB3.out).2.1; clear hb)
            go_roundg (l.length - (i + 1))
            case measure => omega
            case rel => exact ⟨i + 1, oi, by first | rfl | go_num, by omega, Nat.le_refl _, by rw [HQ.out]; exact (HCl.out w3 HB3.out).2.2.1, (S1.out.2.trans (Moves.of_below 0 8 S1.out.1.lives HB3.out)).trans (HCl.out w3 HB3.out).2.2.2⟩
      · have hltz : ¬ (i : Int) < (l.length : Int) := by omega
        have HQ : Hid (l.take i = l) := List.take_of_length_le (by omega)
        go_wp2
        go_ret
        exact ⟨rfl, oi, by have h := S1.out.1; rw [HQ.out] at h; exact h, S1.out.2⟩
  · rw [if_neg c1]
    have d : (storeCheck m wm rev l != 0) = true := by simp [c1]
    generalize storeCheck m wm rev l = v at hck d ⊢
    have HC : Aside (type_of% hck) := hck
    clear hck c1
    go_enter Tryd.func8, Tryd.ntmps8
    go_wp2_with (go_at_call 15; refine HC.out.mono ?_; rintro e w1 ⟨rfl, hb⟩; have HB1 : Aside _ := hb; clear hb)
    go_ret
    exact ⟨rfl, o, HS.out.1.below HB1.out, Moves.of_below 0 8 HS.out.1.lives HB1.out⟩
end Go.Proofs.YtelmbimmkdobaaaDoor.Pr
