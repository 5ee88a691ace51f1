/- A part of the proof of the law; the last part states it: whatever the law reads, of bulk at most 2^20, it returns true and what it reads is as it was. Condition: the form's own bound. -/
import Derived.Test.YtgdmdhhihoifkaaProg
import Derived.Below
import Derived.Deep.Draws
import Derived.Deep.AppendLies
import Derived.Maps.AppendAt
import Derived.OwnWalk
import Derived.Laws.BytesArg
import Derived.Laws.MakeOwn
import Derived.Laws.OwnMore
import Derived.Deep.OwnRows
import Derived.Tactics
import Derived.Lib.ConvBytes
import Derived.Laws.Slices
import Derived.WalkKit
import Derived.KernelRfl
import Derived.RowKit3
import Derived.Deep.LoopGhost
import Derived.Deep.QuietTactic
import Derived.BigQuiet
import Derived.WideLaws
import Derived.Deep.DeepCutAuto
import Derived.Deep.CutBlock
import Derived.Deep.RegionHeld3
import Derived.Laws.Rows
import Derived.Lib.AppendStr
import Derived.ArgAppend
import Derived.Laws.IdiomCopy
import Derived.OrdersHeld
import Derived.Laws.BitsLemmas
import Derived.RowKit
import Derived.Test.YtgdmdhhihoifkaaEf1
import Derived.Sort.LotA
import Derived.Lib.Bytealg
import Derived.Lib.Small
import Derived.Shelf.SlSortCmp.Insertion
import Derived.Shelf.Small.Bits
import Derived.Shelf.Small.Strs
import Derived.Shelf.SlLaysF0
import Derived.Shelf.SlLaysQ
import Derived.Ground.SlsfProg
import Derived.Ground.SlgqProg
import Derived.Ground.NamesProg
import Derived.Shelf.SlSortCmp.KitK
import Derived.Deep.DrawnRows
import Derived.Test.YtgdmdhhihoifkaaRows
import Derived.ProofKit
import Derived.OpenShut
import Derived.ShutString
import Derived.ChangeOld
import Derived.SizedLaws
import Derived.JoinedCond
import Derived.Deep.Slices
import Derived.Deep.Fields
import Derived.Shelf.SlicesE.Kit
import Derived.Sort.WalkB2
import Derived.Sort.WalkB12
import Derived.Laws.StructEq
import Derived.Maps.RangeRun
import Derived.Test.YtgdmdhhihoifkaaChecked
set_option linter.unusedVariables false
set_option linter.unusedSimpArgs false
namespace Go.Proofs.Ytgdmdhhihoifkaa.Pr
open Go.RowKit Go.Proofs.YtgdmdhhihoifkaaW.PrintWords Go.Proofs.YtgdmdhhihoifkaaW.PrintLast Go.Proofs.YtgdmdhhihoifkaaW.PrintMore
attribute [local go_sem] max2_int min2_int max_two min_two max_three min_three max_four min_four   -- for this text's walks alone
set_option linter.unusedVariables false
set_option linter.unusedSimpArgs false



def errW : Option Int → Value
  | none => .nilIface
  | some c => .iface 0 (.int .i64 c)
theorem errW_none : errW none = .nilIface := rfl
theorem errW_some (c : Int) : errW (some c) = .iface 0 (.int .i64 c) := rfl

theorem info25 : (Try.prog.info? 25).map (fun i => (i.zero, i.size, i.bytes)) = some (some (.agg #[(.string ⟨#[]⟩), (.string ⟨#[]⟩), (.string ⟨#[]⟩)]), 3, 48) := by kernel_rfl
theorem info27 : (Try.prog.info? 27).map (fun i => (i.zero, i.size, i.bytes)) = some (some (.agg #[(.bool false), (.string ⟨#[]⟩), (.string ⟨#[]⟩), (.string ⟨#[]⟩)]), 4, 56) := by kernel_rfl
theorem info29 : (Try.prog.info? 29).map (fun i => (i.zero, i.size, i.bytes)) = some (some (.agg #[(.int .i64 0), (.bool false), (.string ⟨#[]⟩), (.string ⟨#[]⟩), (.string ⟨#[]⟩)]), 5, 64) := by kernel_rfl
theorem info51 : (Try.prog.info? 51).map (fun i => (i.zero, i.size, i.bytes)) = some (some (.agg #[(.string ⟨#[]⟩), (.string ⟨#[]⟩), (.string ⟨#[]⟩), (.int .i64 0), (.int .i64 0)]), 5, 64) := by kernel_rfl
-- the values' own types
/-! #### struct type 25 -/
structure S25 where
  f0 : ByteArray
  f1 : ByteArray
  f2 : ByteArray
def z25 : S25 := ⟨(⟨#[]⟩ : ByteArray), (⟨#[]⟩ : ByteArray), (⟨#[]⟩ : ByteArray)⟩
def k25 : Kd S25 := Kd.iso (Kd.pair Kd.string (Kd.pair Kd.string Kd.string)) (fun x : S25 => (x.f0, x.f1, x.f2))
theorem k25_open {w : World} {x : S25} {cs : List Value} (h : k25.K w x cs) : cs = [.string x.f0, .string x.f1, .string x.f2] := by
  obtain ⟨_, _, rfl, rfl, ⟨_, _, rfl, rfl, rfl⟩⟩ := h
  exact rfl
theorem k25_openM {w : World} {base : Nat} {ok : Nat → Prop} {x : S25} {cs : List Value} (h : k25.M w base ok x cs) : cs = [.string x.f0, .string x.f1, .string x.f2] := by
  obtain ⟨_, _, rfl, rfl, ⟨_, _, rfl, rfl, rfl⟩⟩ := h
  exact rfl
theorem k25_mk (w : World) (x : S25)  : k25.K w x [.string x.f0, .string x.f1, .string x.f2] := ⟨[.string x.f0], [.string x.f1, .string x.f2], rfl, rfl, ⟨[.string x.f1], [.string x.f2], rfl, rfl, rfl⟩⟩
theorem k25_mkM (w : World) (base : Nat) (ok : Nat → Prop) (x : S25)  : k25.M w base ok x [.string x.f0, .string x.f1, .string x.f2] := ⟨[.string x.f0], [.string x.f1, .string x.f2], rfl, rfl, ⟨[.string x.f1], [.string x.f2], rfl, rfl, rfl⟩⟩
def rd_T25 (xs : List S25) (i : Int) : S25 := xs.getD i.toNat z25
theorem at_T25 {w : World} {A : Option Addr} {n : Nat} {xs : List S25} (h : Kd.C k25 w A n xs) (i : Int) (h0 : 0 ≤ i) (h1 : i < n) : ∃ ad , A = some ad ∧ w.cell? (ad.add (i.toNat * 3)) = some (.string (rd_T25 xs i).f0) ∧ w.cell? ⟨(ad.add (i.toNat * 3)).block, (ad.add (i.toNat * 3)).off + 1, none⟩ = some (.string (rd_T25 xs i).f1) ∧ w.cell? ⟨(ad.add (i.toNat * 3)).block, (ad.add (i.toNat * 3)).off + 2, none⟩ = some (.string (rd_T25 xs i).f2) := by
  obtain ⟨ad, c, e, _, hK, hc0⟩ := Kd.C_get h z25 i h0 h1
  have hc : ∀ j u, c[j]? = some u → w.cell? (ad.add (i.toNat * 3 + j)) = some u := hc0
  obtain rfl := k25_open hK
  exact ⟨ad, e, hc 0 _ rfl, by rw [← add_field _ _ 1 (by omega)]; exact hc 1 _ rfl, by rw [← add_field _ _ 2 (by omega)]; exact hc 2 _ rfl⟩

/-! #### struct type 27 -/
structure S27 where
  f0 : Bool
  f1 : S25
def z27 : S27 := ⟨false, z25⟩
def k27 : Kd S27 := Kd.iso (Kd.pair Kd.bool k25) (fun x : S27 => (x.f0, x.f1))
theorem k27_open {w : World} {x : S27} {cs : List Value} (h : k27.K w x cs) : cs = [.bool x.f0, .string x.f1.f0, .string x.f1.f1, .string x.f1.f2] := by
  obtain ⟨_, _, rfl, rfl, s1⟩ := h
  obtain rfl := k25_open s1
  exact rfl
theorem k27_openM {w : World} {base : Nat} {ok : Nat → Prop} {x : S27} {cs : List Value} (h : k27.M w base ok x cs) : cs = [.bool x.f0, .string x.f1.f0, .string x.f1.f1, .string x.f1.f2] := by
  obtain ⟨_, _, rfl, rfl, s1⟩ := h
  obtain rfl := k25_openM s1
  exact rfl
theorem k27_mk (w : World) (x : S27)  : k27.K w x [.bool x.f0, .string x.f1.f0, .string x.f1.f1, .string x.f1.f2] := ⟨[.bool x.f0], [.string x.f1.f0, .string x.f1.f1, .string x.f1.f2], rfl, rfl, (k25_mk w x.f1 )⟩
theorem k27_mkM (w : World) (base : Nat) (ok : Nat → Prop) (x : S27)  : k27.M w base ok x [.bool x.f0, .string x.f1.f0, .string x.f1.f1, .string x.f1.f2] := ⟨[.bool x.f0], [.string x.f1.f0, .string x.f1.f1, .string x.f1.f2], rfl, rfl, (k25_mkM w base ok x.f1 )⟩
/-! #### struct type 29 -/
structure S29 where
  f0 : Int
  f1 : S27
def z29 : S29 := ⟨(0 : Int), z27⟩
def k29 : Kd S29 := Kd.iso (Kd.pair (Kd.int .i64) k27) (fun x : S29 => (x.f0, x.f1))
theorem k29_open {w : World} {x : S29} {cs : List Value} (h : k29.K w x cs) : cs = [.int .i64 x.f0, .bool x.f1.f0, .string x.f1.f1.f0, .string x.f1.f1.f1, .string x.f1.f1.f2] := by
  obtain ⟨_, _, rfl, rfl, s1⟩ := h
  obtain rfl := k27_open s1
  exact rfl
theorem k29_openM {w : World} {base : Nat} {ok : Nat → Prop} {x : S29} {cs : List Value} (h : k29.M w base ok x cs) : cs = [.int .i64 x.f0, .bool x.f1.f0, .string x.f1.f1.f0, .string x.f1.f1.f1, .string x.f1.f1.f2] := by
  obtain ⟨_, _, rfl, rfl, s1⟩ := h
  obtain rfl := k27_openM s1
  exact rfl
theorem k29_mk (w : World) (x : S29)  : k29.K w x [.int .i64 x.f0, .bool x.f1.f0, .string x.f1.f1.f0, .string x.f1.f1.f1, .string x.f1.f1.f2] := ⟨[.int .i64 x.f0], [.bool x.f1.f0, .string x.f1.f1.f0, .string x.f1.f1.f1, .string x.f1.f1.f2], rfl, rfl, (k27_mk w x.f1 )⟩
theorem k29_mkM (w : World) (base : Nat) (ok : Nat → Prop) (x : S29)  : k29.M w base ok x [.int .i64 x.f0, .bool x.f1.f0, .string x.f1.f1.f0, .string x.f1.f1.f1, .string x.f1.f1.f2] := ⟨[.int .i64 x.f0], [.bool x.f1.f0, .string x.f1.f1.f0, .string x.f1.f1.f1, .string x.f1.f1.f2], rfl, rfl, (k27_mkM w base ok x.f1 )⟩
def rd_T29 (xs : List S29) (i : Int) : S29 := xs.getD i.toNat z29
theorem at_T29 {w : World} {A : Option Addr} {n : Nat} {xs : List S29} (h : Kd.C k29 w A n xs) (i : Int) (h0 : 0 ≤ i) (h1 : i < n) : ∃ ad , A = some ad ∧ w.cell? (ad.add (i.toNat * 5)) = some (.int .i64 (rd_T29 xs i).f0) ∧ w.cell? ⟨(ad.add (i.toNat * 5)).block, (ad.add (i.toNat * 5)).off + 1, none⟩ = some (.bool (rd_T29 xs i).f1.f0) ∧ w.cell? ⟨(ad.add (i.toNat * 5)).block, (ad.add (i.toNat * 5)).off + 2, none⟩ = some (.string (rd_T29 xs i).f1.f1.f0) ∧ w.cell? ⟨(ad.add (i.toNat * 5)).block, (ad.add (i.toNat * 5)).off + 3, none⟩ = some (.string (rd_T29 xs i).f1.f1.f1) ∧ w.cell? ⟨(ad.add (i.toNat * 5)).block, (ad.add (i.toNat * 5)).off + 4, none⟩ = some (.string (rd_T29 xs i).f1.f1.f2) := by
  obtain ⟨ad, c, e, _, hK, hc0⟩ := Kd.C_get h z29 i h0 h1
  have hc : ∀ j u, c[j]? = some u → w.cell? (ad.add (i.toNat * 5 + j)) = some u := hc0
  obtain rfl := k29_open hK
  exact ⟨ad, e, hc 0 _ rfl, by rw [← add_field _ _ 1 (by omega)]; exact hc 1 _ rfl, by rw [← add_field _ _ 2 (by omega)]; exact hc 2 _ rfl, by rw [← add_field _ _ 3 (by omega)]; exact hc 3 _ rfl, by rw [← add_field _ _ 4 (by omega)]; exact hc 4 _ rfl⟩

/-! #### struct type 51 -/
structure S51 where
  f0 : S25
  f1 : Int
  f2 : Int
def z51 : S51 := ⟨z25, (0 : Int), (0 : Int)⟩
def k51 : Kd S51 := Kd.iso (Kd.pair k25 (Kd.pair (Kd.int .i64) (Kd.int .i64))) (fun x : S51 => (x.f0, x.f1, x.f2))
theorem k51_open {w : World} {x : S51} {cs : List Value} (h : k51.K w x cs) : cs = [.string x.f0.f0, .string x.f0.f1, .string x.f0.f2, .int .i64 x.f1, .int .i64 x.f2] := by
  obtain ⟨_, _, rfl, s0, ⟨_, _, rfl, rfl, rfl⟩⟩ := h
  obtain rfl := k25_open s0
  exact rfl
theorem k51_openM {w : World} {base : Nat} {ok : Nat → Prop} {x : S51} {cs : List Value} (h : k51.M w base ok x cs) : cs = [.string x.f0.f0, .string x.f0.f1, .string x.f0.f2, .int .i64 x.f1, .int .i64 x.f2] := by
  obtain ⟨_, _, rfl, s0, ⟨_, _, rfl, rfl, rfl⟩⟩ := h
  obtain rfl := k25_openM s0
  exact rfl
theorem k51_mkM (w : World) (base : Nat) (ok : Nat → Prop) (x : S51)  : k51.M w base ok x [.string x.f0.f0, .string x.f0.f1, .string x.f0.f2, .int .i64 x.f1, .int .i64 x.f2] := ⟨[.string x.f0.f0, .string x.f0.f1, .string x.f0.f2], [.int .i64 x.f1, .int .i64 x.f2], rfl, (k25_mkM w base ok x.f0 ), ⟨[.int .i64 x.f1], [.int .i64 x.f2], rfl, rfl, rfl⟩⟩
def rd_T51 (xs : List S51) (i : Int) : S51 := xs.getD i.toNat z51
theorem at_T51 {w : World} {A : Option Addr} {n : Nat} {xs : List S51} (h : Kd.C k51 w A n xs) (i : Int) (h0 : 0 ≤ i) (h1 : i < n) : ∃ ad , A = some ad ∧ w.cell? (ad.add (i.toNat * 5)) = some (.string (rd_T51 xs i).f0.f0) ∧ w.cell? ⟨(ad.add (i.toNat * 5)).block, (ad.add (i.toNat * 5)).off + 1, none⟩ = some (.string (rd_T51 xs i).f0.f1) ∧ w.cell? ⟨(ad.add (i.toNat * 5)).block, (ad.add (i.toNat * 5)).off + 2, none⟩ = some (.string (rd_T51 xs i).f0.f2) ∧ w.cell? ⟨(ad.add (i.toNat * 5)).block, (ad.add (i.toNat * 5)).off + 3, none⟩ = some (.int .i64 (rd_T51 xs i).f1) ∧ w.cell? ⟨(ad.add (i.toNat * 5)).block, (ad.add (i.toNat * 5)).off + 4, none⟩ = some (.int .i64 (rd_T51 xs i).f2) := by
  obtain ⟨ad, c, e, _, hK, hc0⟩ := Kd.C_get h z51 i h0 h1
  have hc : ∀ j u, c[j]? = some u → w.cell? (ad.add (i.toNat * 5 + j)) = some u := hc0
  obtain rfl := k51_open hK
  exact ⟨ad, e, hc 0 _ rfl, by rw [← add_field _ _ 1 (by omega)]; exact hc 1 _ rfl, by rw [← add_field _ _ 2 (by omega)]; exact hc 2 _ rfl, by rw [← add_field _ _ 3 (by omega)]; exact hc 3 _ rfl, by rw [← add_field _ _ 4 (by omega)]; exact hc 4 _ rfl⟩

/-! #### struct type 65 -/
structure S65 where
  f0 : Int
  f1 : Bool
  f2 : S25
end Go.Proofs.Ytgdmdhhihoifkaa.Pr

namespace Go.Proofs.Ytgdmdhhihoifkaa
open Go.Sort

def eqv {α : Type} (lt : α → α → Bool) (x y : α) : Bool := !lt x y && !lt y x
def Stab {α : Type} (lt : α → α → Bool) (l l' : List α) : Prop := ∀ x, l.filter (eqv lt x) = l'.filter (eqv lt x)
def SortedL {α : Type} (lt : α → α → Bool) (l : List α) : Prop := l.Pairwise (fun x y => lt y x = false)

section
variable {α : Type} [Inhabited α] {lt : α → α → Bool}

omit [Inhabited α] in
theorem Stab.refl (l : List α) : Stab lt l l := fun _ => rfl
omit [Inhabited α] in
theorem Stab.symm {l l' : List α} (h : Stab lt l l') : Stab lt l' l := fun x => (h x).symm
omit [Inhabited α] in
theorem Stab.trans {l l' l'' : List α} (h : Stab lt l l') (k : Stab lt l' l'') : Stab lt l l'' := fun x => (h x).trans (k x)
omit [Inhabited α] in
theorem Stab.append {a a' b b' : List α} (h : Stab lt a a') (k : Stab lt b b') : Stab lt (a ++ b) (a' ++ b') := fun x => by
  rw [List.filter_append, List.filter_append, h x, k x]
omit [Inhabited α] in
theorem eqv_iff {x y : α} : eqv lt x y = true ↔ lt x y = false ∧ lt y x = false := by
  unfold eqv; cases lt x y <;> cases lt y x <;> simp

omit [Inhabited α] in
theorem eqv_self (hS : SWO lt) (x : α) : eqv lt x x = true := eqv_iff.2 ⟨hS.irrefl x, hS.irrefl x⟩
omit [Inhabited α] in
theorem Stab.mem (hS : SWO lt) {l l' : List α} (h : Stab lt l l') (x : α) : x ∈ l ↔ x ∈ l' := by
  have e : ∀ m : List α, x ∈ m ↔ x ∈ m.filter (eqv lt x) := fun m => by simp [List.mem_filter, eqv_self hS]
  rw [e l, e l', h x]

omit [Inhabited α] in
theorem Stab.perm (hS : SWO lt) {l l' : List α} (h : Stab lt l l') : l.Perm l' := by
  classical
  rw [List.perm_iff_count]
  intro x
  have e : ∀ m : List α, m.count x = (m.filter (eqv lt x)).count x := fun m => (List.count_filter (eqv_self hS x)).symm
  rw [e l, e l', h x]

omit [Inhabited α] in
theorem Stab.length (hS : SWO lt) {l l' : List α} (h : Stab lt l l') : l.length = l'.length := (h.perm hS).length_eq

omit [Inhabited α] in
/-- Two blocks exchanged, each element of the second below each of the first. -/
theorem Stab.swap (hS : SWO lt) (U V : List α) (h : ∀ u ∈ U, ∀ v ∈ V, lt v u = true) : Stab lt (U ++ V) (V ++ U) := by
  intro x
  rw [List.filter_append, List.filter_append]
  by_cases hu : U.filter (eqv lt x) = []
  · rw [hu]; simp
  · by_cases hv : V.filter (eqv lt x) = []
    · rw [hv]; simp
    · exfalso
      obtain ⟨u, hu⟩ := List.exists_mem_of_ne_nil _ hu
      obtain ⟨v, hv⟩ := List.exists_mem_of_ne_nil _ hv
      rw [List.mem_filter] at hu hv
      have h1 := eqv_iff.1 hu.2
      have h2 := eqv_iff.1 hv.2
      have h3 := hS.ntrans v x u h2.2 h1.1
      rw [h u hu.1 v hv.1] at h3
      cases h3

omit [Inhabited α] in
theorem sortedL_unique (hS : SWO lt) : ∀ (l l' : List α), SortedL lt l → SortedL lt l' → Stab lt l l' → l = l'
  | [], [], _, _, _ => rfl
  | [], y :: t, _, _, h => by
    have := (h.mem hS y).2 (by simp)
    cases this
  | x :: t, [], _, _, h => by
    have := (h.mem hS x).1 (by simp)
    cases this
  | x :: t, y :: t', h1, h2, h => by
    obtain ⟨p1, p2⟩ := List.pairwise_cons.1 h1
    obtain ⟨q1, q2⟩ := List.pairwise_cons.1 h2
    have hxy : lt x y = false := by
      rcases List.mem_cons.1 ((h.mem hS x).1 (by simp)) with e | e
      · rw [e]; exact hS.irrefl y
      · exact q1 x e
    have hyx : lt y x = false := by
      rcases List.mem_cons.1 ((h.mem hS y).2 (by simp)) with e | e
      · rw [e]; exact hS.irrefl x
      · exact p1 y e
    have hx := h x
    rw [List.filter_cons_of_pos (eqv_self hS x), List.filter_cons_of_pos (eqv_iff.2 ⟨hxy, hyx⟩)] at hx
    injection hx with hx1 hx2
    subst hx1
    have ht : Stab lt t t' := fun z => by
      have hz := h z
      by_cases c : eqv lt z x = true
      · rw [List.filter_cons_of_pos c, List.filter_cons_of_pos c] at hz
        injection hz
      · rw [List.filter_cons_of_neg c, List.filter_cons_of_neg c] at hz
        exact hz
    rw [sortedL_unique hS t t' p2 q2 ht]

/-! ### exchanges on an array, as lists -/
theorem get_mid (X : List α) (p : α) (Y : List α) : (X ++ p :: Y).toArray[X.length]! = p := by
  rw [getElem!_pos _ _ (by simp)]; simp
theorem get_at (X Y : List α) (i : Nat) (p : α) (h : (X ++ p :: Y).length > i) (hi : X.length = i) : (X ++ p :: Y).toArray[i]! = p := by
  subst hi; exact get_mid X p Y
theorem swp_split (X M Y : List α) (p q : α) (i j : Nat) (hi : i = X.length) (hj : j = X.length + 1 + M.length) :
    swp (X ++ p :: (M ++ q :: Y)).toArray i j = (X ++ q :: (M ++ p :: Y)).toArray := by
  subst hi hj
  have e1 : (X ++ p :: (M ++ q :: Y)).toArray[X.length]! = p := get_mid X p _
  have e2 : (X ++ p :: (M ++ q :: Y)).toArray[X.length + 1 + M.length]! = q := by
    have := get_mid (X ++ p :: M) q Y
    rw [show (X ++ p :: M).length = X.length + 1 + M.length from by simp; omega] at this
    have e3 : X ++ p :: (M ++ q :: Y) = X ++ p :: M ++ q :: Y := by simp
    rw [e3]; exact this
  unfold swp
  rw [e1, e2]
  apply Array.toList_inj.1
  rw [Array.toList_setIfInBounds, Array.toList_setIfInBounds]
  rw [List.set_append_right _ _ (Nat.le_refl _), Nat.sub_self, List.set_cons_zero, List.set_append_right _ _ (by omega)]
  rw [show X.length + 1 + M.length - X.length = M.length + 1 from by omega, List.set_cons_succ, List.set_append_right _ _ (Nat.le_refl _), Nat.sub_self, List.set_cons_zero]
theorem swp_comm_ (d : Array α) (i j : Nat) (hi : i < d.size) (hj : j < d.size) : swp d i j = swp d j i := by
  apply Array.ext
  · simp [swp]
  · intro k h1 h2
    have a := swp_get d hi hj k
    have b := swp_get d hj hi k
    rw [getElem!_pos _ k h1] at a
    rw [getElem!_pos _ k h2] at b
    rw [a, b]
    by_cases c1 : k = j
    · by_cases c2 : k = i
      · subst c1; subst c2; rfl
      · rw [if_pos c1, if_neg c2, if_pos c1]
    · by_cases c2 : k = i
      · rw [if_neg c1, if_pos c2, if_pos c2]
      · rw [if_neg c1, if_neg c2, if_neg c2, if_neg c1]
theorem swp_split' (X M Y : List α) (p q : α) (i j : Nat) (hi : i = X.length) (hj : j = X.length + 1 + M.length) :
    swp (X ++ p :: (M ++ q :: Y)).toArray j i = (X ++ q :: (M ++ p :: Y)).toArray := by
  rw [swp_comm_ _ _ _ (by simp; omega) (by simp; omega)]
  exact swp_split X M Y p q i j hi hj

/-! ### the insertion sort is stable -/
theorem insInner_stab (hS : SWO lt) (a : Nat) : ∀ (j : Nat) (l : List α), j < l.length → Stab lt l (insInner lt a j l.toArray).toList
  | 0, l, _ => Stab.refl l
  | j + 1, l, hj => by
    rw [insInner]
    split
    · rename_i h
      simp only [Bool.and_eq_true, decide_eq_true_eq] at h
      obtain ⟨X, p, q, Y, rfl, hX⟩ : ∃ X p q Y, l = X ++ p :: q :: Y ∧ X.length = j := by
        refine ⟨l.take j, l[j], l[j + 1], l.drop (j + 2), ?_, by simp; omega⟩
        rw [← List.drop_eq_getElem_cons (by omega), ← List.drop_eq_getElem_cons (by omega), List.take_append_drop]
      have e1 : (X ++ p :: q :: Y).toArray[j]! = p := get_at X _ j p (by omega) hX
      have e2 : (X ++ p :: q :: Y).toArray[j + 1]! = q := by
        have := get_at (X ++ [p]) Y (j + 1) q (by simp at hj ⊢; omega) (by simp [hX])
        simpa using this
      rw [e1, e2] at h
      have hs := swp_split' X [] Y p q j (j + 1) hX.symm (by simp [hX])
      simp only [List.nil_append] at hs
      rw [hs]
      refine Stab.trans ?_ (insInner_stab hS a j (X ++ q :: p :: Y) (by simp; omega))
      refine Stab.append (Stab.refl X) ?_
      have := Stab.append (Stab.swap hS [p] [q] (by simp; exact h.2)) (Stab.refl (lt := lt) Y)
      simpa using this
    · exact Stab.refl l
theorem insInner_size (a : Nat) : ∀ (j : Nat) (d : Array α), (insInner lt a j d).size = d.size
  | 0, _ => rfl
  | j + 1, d => by
    rw [insInner]
    split
    · rw [insInner_size a j, size_swp]
    · rfl
theorem insOuter_stab (hS : SWO lt) (a b : Nat) : ∀ (n i : Nat) (d : Array α), n = b - i → b ≤ d.size → Stab lt d.toList (insOuter lt a b i d).toList
  | 0, i, d, hn, hb => by rw [insOuter, if_neg (by omega)]; exact Stab.refl _
  | n + 1, i, d, hn, hb => by
    rw [insOuter, if_pos (by omega)]
    have h1 := insInner_stab (lt := lt) hS a i d.toList (by simp; omega)
    rw [Array.toArray_toList] at h1
    exact h1.trans (insOuter_stab hS a b n (i + 1) _ (by omega) (by rw [insInner_size]; exact hb))
theorem insertionSort_stab (hS : SWO lt) (d : Array α) (a b : Nat) (hb : b ≤ d.size) : Stab lt d.toList (insertionSort lt d a b).toList := insOuter_stab hS a b _ (a + 1) d rfl hb

/-- The insertion sort of a middle piece. -/
theorem insertionSort_split (hS : SWO lt) (X U Y : List α) (a b : Nat) (ha : a = X.length) (hb : b = X.length + U.length) :
    ∃ W, insertionSort lt (X ++ U ++ Y).toArray a b = (X ++ W ++ Y).toArray ∧ SortedL lt W ∧ Stab lt U W := by
  have hsz : b ≤ (X ++ U ++ Y).toArray.size := by simp; omega
  obtain ⟨⟨hs, ho, hp⟩, hso⟩ := insertionSort_holds (lt := lt) hS (X ++ U ++ Y).toArray a b (by omega) hsz
  have hst := insertionSort_stab (lt := lt) hS (X ++ U ++ Y).toArray a b hsz
  generalize insertionSort lt (X ++ U ++ Y).toArray a b = d at hs ho hp hso hst
  have hl : d.toList.length = X.length + U.length + Y.length := by rw [Array.length_toList, hs]; simp; omega
  have hget : ∀ i, i < a ∨ b ≤ i → d.toList[i]? = (X ++ U ++ Y)[i]? := by
    intro i hi
    have h := ho i hi
    by_cases hlt : i < d.size
    · have hlt' : i < (X ++ U ++ Y).toArray.size := by omega
      rw [getElem!_pos d i hlt, getElem!_pos _ i hlt'] at h
      rw [List.getElem?_eq_getElem (by simpa using hlt), List.getElem?_eq_getElem (by simpa using hlt')]
      simpa using h
    · rw [List.getElem?_eq_none (by simp; omega), List.getElem?_eq_none (by simp at hs ⊢; omega)]
  have hX : d.toList.take a = X := by
    apply List.ext_getElem?
    intro i
    by_cases h : i < a
    · rw [List.getElem?_take_of_lt h, hget i (.inl h), List.append_assoc, List.getElem?_append_left (by omega)]
    · rw [List.getElem?_eq_none (by simp; omega), List.getElem?_eq_none (by omega)]
  have hY : d.toList.drop b = Y := by
    apply List.ext_getElem?
    intro i
    rw [List.getElem?_drop, hget (b + i) (.inr (by omega)), List.getElem?_append_right (by simp; omega)]
    congr 1
    simp; omega
  refine ⟨(d.toList.drop a).take (b - a), ?_, ?_, ?_⟩
  · apply Array.toList_inj.1
    show d.toList = X ++ (d.toList.drop a).take (b - a) ++ Y
    conv => lhs; rw [← List.take_append_drop a d.toList, ← List.take_append_drop (b - a) (d.toList.drop a)]
    rw [hX, List.drop_drop, show a + (b - a) = b from by omega, hY, List.append_assoc]
  · unfold SortedL
    rw [List.pairwise_iff_getElem]
    intro i j hi hj hij
    simp only [List.length_take, List.length_drop] at hi hj
    have h := hso (a + i) (a + j) (by omega) (by omega) (by omega)
    have h1 : a + i < d.size := by simp at hi; omega
    have h2 : a + j < d.size := by simp at hj; omega
    rw [getElem!_pos d _ h2, getElem!_pos d _ h1] at h
    simpa using h
  · intro x
    have h := hst x
    conv at h => rhs; rw [← List.take_append_drop a d.toList, ← List.take_append_drop (b - a) (d.toList.drop a)]
    rw [hX, List.drop_drop, show a + (b - a) = b from by omega, hY] at h
    simp only [List.filter_append, List.append_assoc] at h
    have h2 := List.append_cancel_left h
    exact List.append_cancel_right h2

/-! ### blocks -/
def Blocks (lt : α → α → Bool) (k : Nat) (l : List α) : Prop := ∀ q, SortedL lt ((l.drop (q * k)).take k)
omit [Inhabited α] in
theorem sortedL_nil : SortedL lt [] := List.Pairwise.nil
omit [Inhabited α] in
theorem SortedL.take {l : List α} (h : SortedL lt l) (n : Nat) : SortedL lt (l.take n) := List.Pairwise.sublist (List.take_sublist n l) h
omit [Inhabited α] in
theorem SortedL.drop {l : List α} (h : SortedL lt l) (n : Nat) : SortedL lt (l.drop n) := List.Pairwise.sublist (List.drop_sublist n l) h
omit [Inhabited α] in
theorem blocks_nil (k : Nat) : Blocks lt k [] := fun q => by simp; exact sortedL_nil
omit [Inhabited α] in
theorem Blocks.snoc {k p : Nat} {P W : List α} (h : Blocks lt k P) (hp : P.length = p * k) (hW : SortedL lt W) (hl : W.length ≤ k) : Blocks lt k (P ++ W) := by
  intro q
  rcases Nat.lt_or_ge q p with hq | hq
  · have h1 : q * k + k ≤ P.length := by
      rw [hp]
      have := Nat.mul_le_mul_right k (show q + 1 ≤ p from hq)
      rwa [Nat.add_mul, Nat.one_mul] at this
    rw [List.drop_append_of_le_length (by omega), List.take_append_of_le_length (by rw [List.length_drop]; omega)]
    exact h q
  · have h1 : P.length ≤ q * k := by rw [hp]; exact Nat.mul_le_mul_right k hq
    rw [List.drop_append, List.drop_of_length_le h1, List.nil_append]
    exact (hW.drop _).take _
omit [Inhabited α] in
theorem Blocks.whole {k : Nat} {l : List α} (h : Blocks lt k l) (hl : l.length ≤ k) : SortedL lt l := by
  have := h 0
  rw [Nat.zero_mul, List.drop_zero, List.take_of_length_le hl] at this
  exact this
omit [Inhabited α] in
theorem Blocks.head {k : Nat} {U R : List α} (h : Blocks lt k (U ++ R)) (hl : U.length = k) : SortedL lt U := by
  have := h 0
  rw [Nat.zero_mul, List.drop_zero, ← hl, List.take_left] at this
  exact this
omit [Inhabited α] in
theorem Blocks.tail {k : Nat} {U R : List α} (h : Blocks lt k (U ++ R)) (hl : U.length = k) : Blocks lt k R := by
  intro q
  have := h (q + 1)
  rw [Nat.add_mul, Nat.one_mul, Nat.add_comm, ← List.drop_drop, ← hl, List.drop_left, hl] at this
  exact this

/-! ### what the merge ends in -/
omit [Inhabited α] in
theorem sortedL_append {A B : List α} (hA : SortedL lt A) (hB : SortedL lt B) (h : ∀ a ∈ A, ∀ b ∈ B, lt b a = false) : SortedL lt (A ++ B) := List.pairwise_append.2 ⟨hA, hB, h⟩
omit [Inhabited α] in
theorem SortedL.left {A B : List α} (h : SortedL lt (A ++ B)) : SortedL lt A := (List.pairwise_append.1 h).1
omit [Inhabited α] in
theorem SortedL.right {A B : List α} (h : SortedL lt (A ++ B)) : SortedL lt B := (List.pairwise_append.1 h).2.1
omit [Inhabited α] in
theorem SortedL.cross {A B : List α} (h : SortedL lt (A ++ B)) : ∀ a ∈ A, ∀ b ∈ B, lt b a = false := (List.pairwise_append.1 h).2.2

omit [Inhabited α] in
theorem lt_lt_nlt (hS : SWO lt) {x y z : α} (h1 : lt x y = true) (h2 : lt z y = false) : lt x z = true := by
  cases h : lt x z with
  | true => rfl
  | false => rw [hS.ntrans x z y h h2] at h1; cases h1
omit [Inhabited α] in
theorem lt_nlt_lt (hS : SWO lt) {x y z : α} (h1 : lt y x = false) (h2 : lt y z = true) : lt x z = true := by
  cases h : lt x z with
  | true => rfl
  | false => rw [hS.ntrans y x z h1 h] at h2; cases h2

omit [Inhabited α] in
/-- The general step: U = U1 ++ U2, V = V1 ++ V2, the last of V1 below the first of U2, the first of V2 not below the last of U1; the halves are merged by themselves. -/
theorem merge_step (hS : SWO lt) (U1 U2 V1 V2 L R : List α) (hU : SortedL lt (U1 ++ U2)) (hV : SortedL lt (V1 ++ V2))
    (h1 : ∀ u, U2.head? = some u → ∀ v, V1.getLast? = some v → lt v u = true) (h2 : ∀ u, U1.getLast? = some u → ∀ v, V2.head? = some v → lt v u = false)
    (hL : SortedL lt L) (hR : SortedL lt R) (sL : Stab lt (U1 ++ V1) L) (sR : Stab lt (U2 ++ V2) R) :
    SortedL lt (L ++ R) ∧ Stab lt ((U1 ++ U2) ++ (V1 ++ V2)) (L ++ R) := by
  have lastle : ∀ {A : List α}, SortedL lt A → ∀ z, A.getLast? = some z → ∀ x ∈ A, lt z x = false := by
    intro A hA z hz x hx
    obtain ⟨A', rfl⟩ := List.getLast?_eq_some_iff.1 hz
    rcases List.mem_append.1 hx with hx | hx
    · exact hA.cross x hx z (by simp)
    · rw [List.mem_singleton.1 hx]; exact hS.irrefl z
  have headle : ∀ {A : List α}, SortedL lt A → ∀ z, A.head? = some z → ∀ x ∈ A, lt x z = false := by
    intro A hA z hz x hx
    cases A with
    | nil => cases hz
    | cons y t =>
      simp at hz; subst hz
      rcases List.mem_cons.1 hx with rfl | hx
      · exact hS.irrefl _
      · exact (List.pairwise_cons.1 hA).1 x hx
  have cross1 : ∀ u ∈ U2, ∀ v ∈ V1, lt v u = true := by
    intro u hu v hv
    obtain ⟨u0, hu0⟩ : ∃ u0, U2.head? = some u0 := by cases U2 with | nil => cases hu | cons y t => exact ⟨y, rfl⟩
    obtain ⟨v0, hv0⟩ : ∃ v0, V1.getLast? = some v0 := by
      cases hV1 : V1.getLast? with
      | none => rw [List.getLast?_eq_none_iff] at hV1; subst hV1; cases hv
      | some z => exact ⟨z, rfl⟩
    have a := h1 u0 hu0 v0 hv0
    have b := headle hU.right u0 hu0 u hu
    have c := lastle hV.left v0 hv0 v hv
    exact lt_nlt_lt hS c (lt_lt_nlt hS a b)
  have cross2 : ∀ u ∈ U1, ∀ v ∈ V2, lt v u = false := by
    intro u hu v hv
    obtain ⟨u0, hu0⟩ : ∃ u0, U1.getLast? = some u0 := by
      cases hU1 : U1.getLast? with
      | none => rw [List.getLast?_eq_none_iff] at hU1; subst hU1; cases hu
      | some z => exact ⟨z, rfl⟩
    obtain ⟨v0, hv0⟩ : ∃ v0, V2.head? = some v0 := by cases V2 with | nil => cases hv | cons y t => exact ⟨y, rfl⟩
    have a := h2 u0 hu0 v0 hv0
    have b := lastle hU.left u0 hu0 u hu
    have c := headle hV.right v0 hv0 v hv
    exact hS.ntrans v v0 u c (hS.ntrans v0 u0 u a b)
  constructor
  · refine sortedL_append hL hR ?_
    intro x hx y hy
    have hx' := (sL.mem hS x).2 hx
    have hy' := (sR.mem hS y).2 hy
    rcases List.mem_append.1 hx' with hx' | hx' <;> rcases List.mem_append.1 hy' with hy' | hy'
    · exact hU.cross x hx' y hy'
    · exact cross2 x hx' y hy'
    · have := cross1 y hy' x hx'
      cases h : lt y x with
      | false => rfl
      | true => have := hS.trans x y x this h; rw [hS.irrefl] at this; cases this
    · exact hV.cross x hx' y hy'
  · have e : Stab lt ((U1 ++ U2) ++ (V1 ++ V2)) ((U1 ++ V1) ++ (U2 ++ V2)) := by
      have := Stab.append (Stab.append (Stab.refl U1) (Stab.swap hS U2 V1 cross1)) (Stab.refl (lt := lt) V2)
      simpa [List.append_assoc] using this
    exact e.trans (Stab.append sL sR)

omit [Inhabited α] in
/-- One element put into its place among sorted ones: what is below it stands ahead of it. -/
theorem insert_left (hS : SWO lt) (x : α) (A B : List α) (hV : SortedL lt (A ++ B)) (h1 : ∀ a, A.getLast? = some a → lt a x = true) (h2 : ∀ b, B.head? = some b → lt b x = false) :
    SortedL lt (A ++ x :: B) ∧ Stab lt (x :: (A ++ B)) (A ++ x :: B) := by
  have h := merge_step hS [] [x] A B A (x :: B) (by simp [SortedL]) hV (by intro u hu v hv; simp at hu; subst hu; exact h1 v hv) (by intro u hu; simp at hu) hV.left
    (by
      refine List.pairwise_cons.2 ⟨fun b hb => ?_, hV.right⟩
      cases B with
      | nil => cases hb
      | cons y t =>
        have hy := h2 y rfl
        rcases List.mem_cons.1 hb with rfl | hb
        · exact hy
        · exact hS.ntrans b y x ((List.pairwise_cons.1 hV.right).1 b hb) hy)
    (by simp; exact Stab.refl A) (by simp; exact Stab.refl _)
  simpa using h
omit [Inhabited α] in
theorem insert_right (hS : SWO lt) (x : α) (A B : List α) (hU : SortedL lt (A ++ B)) (h1 : ∀ b, B.head? = some b → lt x b = true) (h2 : ∀ a, A.getLast? = some a → lt x a = false) :
    SortedL lt (A ++ x :: B) ∧ Stab lt ((A ++ B) ++ [x]) (A ++ x :: B) := by
  have h := merge_step hS A B [x] [] (A ++ [x]) B hU (by simp [SortedL]) (by intro u hu v hv; simp at hv; subst hv; exact h1 u hu) (by intro u hu v hv; simp at hv)
    (by
      refine sortedL_append hU.left (by simp [SortedL]) ?_
      intro a ha b hb
      rw [List.mem_singleton.1 hb]
      cases hA : A.getLast? with
      | none => rw [List.getLast?_eq_none_iff] at hA; subst hA; cases ha
      | some z =>
        have hz := h2 z hA
        obtain ⟨A', rfl⟩ := List.getLast?_eq_some_iff.1 hA
        rcases List.mem_append.1 ha with ha | ha
        · exact hS.ntrans x z a hz (hU.left.cross a ha z (by simp))
        · rw [List.mem_singleton.1 ha]; exact hz)
    hU.right (by exact Stab.refl _) (by simp; exact Stab.refl _)
  simpa using h
end
end Go.Proofs.Ytgdmdhhihoifkaa

namespace Go.Proofs.Ytgdmdhhihoifkaa
open Go.Sort

/-- A comparison: turned about it is negative; what is below what is below is below; equals stand alike to all others. -/
structure Cmp {α : Type} (c : α → α → Int) : Prop where
  anti : ∀ a b, c b a = - c a b
  trans : ∀ a b d, c a b < 0 → c b d < 0 → c a d < 0
  eqv : ∀ a b d, c a b = 0 → c a d = c b d
/-- One comparison, and where it says 'alike' another. -/
def lexi {α : Type} (c d : α → α → Int) (a b : α) : Int := if c a b = 0 then d a b else c a b
section
variable {α β : Type} {c d : α → α → Int}
theorem Cmp.refl (h : Cmp c) (a : α) : c a a = 0 := by have := h.anti a a; omega
theorem Cmp.eqv' (h : Cmp c) (a b x : α) (he : c a b = 0) : c x a = c x b := by
  have h1 := h.eqv a b x he; have h2 := h.anti a x; have h3 := h.anti b x; omega
theorem Cmp.swo (h : Cmp c) : SWO (ltOf c) where
  irrefl x := by unfold ltOf; rw [h.refl]; rfl
  trans x y z h1 h2 := by
    unfold ltOf at *
    simp only [decide_eq_true_eq] at *
    exact h.trans x y z h1 h2
  ntrans x y z h1 h2 := by
    unfold ltOf at *
    simp only [decide_eq_false_iff_not, Int.not_lt] at *
    have a1 := h.anti x y; have a2 := h.anti y z; have a3 := h.anti x z
    rcases Int.lt_or_eq_of_le h1 with h1' | h1'
    · rcases Int.lt_or_eq_of_le h2 with h2' | h2'
      · have := h.trans z y x (by omega) (by omega); omega
      · have := h.eqv y z x h2'.symm; omega
    · have := h.eqv x y z h1'.symm; omega
theorem Cmp.comap (h : Cmp c) (f : β → α) : Cmp (fun a b => c (f a) (f b)) := ⟨fun _ _ => h.anti _ _, fun _ _ _ => h.trans _ _ _, fun _ _ _ => h.eqv _ _ _⟩
theorem Cmp.lexi (h : Cmp c) (k : Cmp d) : Cmp (lexi c d) where
  anti a b := by
    have h1 := h.anti a b; have h2 := k.anti a b
    unfold Go.Proofs.Ytgdmdhhihoifkaa.lexi
    split <;> split <;> omega
  trans a b e h1 h2 := by
    unfold Go.Proofs.Ytgdmdhhihoifkaa.lexi at *
    by_cases e1 : c a b = 0
    · rw [if_pos e1] at h1
      have q := h.eqv a b e e1
      by_cases e2 : c b e = 0
      · rw [if_pos e2] at h2
        rw [if_pos (by omega)]
        exact k.trans a b e h1 h2
      · rw [if_neg e2] at h2
        rw [if_neg (by omega)]
        omega
    · rw [if_neg e1] at h1
      by_cases e2 : c b e = 0
      · have q := h.eqv' b e a e2
        rw [if_neg (by omega)]
        omega
      · rw [if_neg e2] at h2
        have q := h.trans a b e h1 h2
        rw [if_neg (by omega)]
        exact q
  eqv a b e h1 := by
    unfold Go.Proofs.Ytgdmdhhihoifkaa.lexi at *
    by_cases e1 : c a b = 0
    · rw [if_pos e1] at h1
      rw [h.eqv a b e e1, k.eqv a b e h1]
    · rw [if_neg e1] at h1
      exact absurd h1 e1
theorem lexi_eq_zero {a b : α} : lexi c d a b = 0 ↔ c a b = 0 ∧ d a b = 0 := by
  unfold lexi
  split
  · rename_i h; exact ⟨fun h' => ⟨h, h'⟩, fun h' => h'.2⟩
  · rename_i h; exact ⟨fun h' => absurd h' h, fun h' => h'.1⟩

/-! ### numbers and texts -/
theorem cmp_int : Cmp Lib.compareInt where
  anti a b := by unfold Lib.compareInt; (repeat' split) <;> omega
  trans a b e h1 h2 := by unfold Lib.compareInt at *; (repeat' split at h1) <;> (repeat' split at h2) <;> (repeat' split) <;> omega
  eqv a b e h1 := by unfold Lib.compareInt at *; (repeat' split at h1) <;> (repeat' split) <;> omega
theorem compareInt_neg {a b : Int} : Lib.compareInt a b < 0 ↔ a < b := by unfold Lib.compareInt; (repeat' split) <;> constructor <;> intro h <;> omega

theorem u8_lt (a b : UInt8) : (a < b) = (a.toNat < b.toNat) := rfl
theorem cb_cons (x y : UInt8) (a b : List UInt8) : Lib.compareBytes (x :: a) (y :: b) = if x.toNat < y.toNat then -1 else if y.toNat < x.toNat then 1 else Lib.compareBytes a b := by
  simp only [Lib.compareBytes, UInt8.lt_iff_toNat_lt]
theorem compareBytes_zero : ∀ {a b : List UInt8}, Lib.compareBytes a b = 0 ↔ a = b
  | [], [] => by simp [Lib.compareBytes]
  | [], _ :: _ => by simp [Lib.compareBytes]
  | _ :: _, [] => by simp [Lib.compareBytes]
  | x :: a, y :: b => by
    unfold Lib.compareBytes
    split
    · rename_i h
      constructor
      · intro h'; omega
      · intro h'; injection h' with h1 h2; subst h1; rw [u8_lt] at h; omega
    · split
      · rename_i h h2
        constructor
        · intro h'; omega
        · intro h'; injection h' with h1 _; subst h1; rw [u8_lt] at h2; omega
      · rename_i h h2
        rw [u8_lt] at h h2
        have e : x = y := UInt8.toNat_inj.1 (by omega)
        rw [compareBytes_zero]
        simp [e]
theorem cmp_bytes : Cmp Lib.compareBytes where
  anti a b := by
    induction a generalizing b with
    | nil => cases b <;> simp [Lib.compareBytes]
    | cons x a ih =>
      cases b with
      | nil => simp [Lib.compareBytes]
      | cons y b =>
        rw [cb_cons, cb_cons]
        by_cases h1 : x.toNat < y.toNat
        · rw [if_neg (by omega), if_pos h1, if_pos h1]; rfl
        · by_cases h2 : y.toNat < x.toNat
          · rw [if_pos h2, if_neg h1, if_pos h2]
          · rw [if_neg h2, if_neg h1, if_neg h1, if_neg h2]; exact ih b
  trans a b e h1 h2 := by
    induction a generalizing b e with
    | nil =>
      cases b with
      | nil => simp [Lib.compareBytes] at h1
      | cons y b =>
        cases e with
        | nil => simp [Lib.compareBytes] at h2
        | cons z e => simp [Lib.compareBytes]
    | cons x a ih =>
      cases b with
      | nil => simp [Lib.compareBytes] at h1
      | cons y b =>
        cases e with
        | nil => simp [Lib.compareBytes] at h2
        | cons z e =>
          rw [cb_cons] at h1 h2 ⊢
          by_cases p1 : x.toNat < y.toNat
          · by_cases q1 : y.toNat < z.toNat
            · rw [if_pos (by omega)]; omega
            · rw [if_neg q1] at h2
              by_cases q2 : z.toNat < y.toNat
              · rw [if_pos q2] at h2; omega
              · rw [if_pos (by omega)]; omega
          · rw [if_neg p1] at h1
            by_cases p2 : y.toNat < x.toNat
            · rw [if_pos p2] at h1; omega
            · rw [if_neg p2] at h1
              by_cases q1 : y.toNat < z.toNat
              · rw [if_pos (by omega)]; omega
              · rw [if_neg q1] at h2
                by_cases q2 : z.toNat < y.toNat
                · rw [if_pos q2] at h2; omega
                · rw [if_neg q2] at h2
                  rw [if_neg (by omega), if_neg (by omega)]
                  exact ih b e h1 h2
  eqv a b e h1 := by rw [compareBytes_zero] at h1; rw [h1]

/-! ### the sorted list -/
def msort (lt : α → α → Bool) (l : List α) : List α := l.mergeSort (fun x y => !lt y x)
theorem le_trans_ {lt : α → α → Bool} (hS : SWO lt) : ∀ a b e : α, (!lt b a) = true → (!lt e b) = true → (!lt e a) = true := by
  intro a b e h1 h2
  simp only [Bool.not_eq_true'] at *
  exact hS.ntrans e b a h2 h1
theorem le_total_ {lt : α → α → Bool} (hS : SWO lt) : ∀ a b : α, (!lt b a || !lt a b) = true := by
  intro a b
  cases h1 : lt b a with
  | false => rfl
  | true =>
    cases h2 : lt a b with
    | false => rfl
    | true => have := hS.trans a b a h2 h1; rw [hS.irrefl] at this; cases this
theorem msort_sorted {lt : α → α → Bool} (hS : SWO lt) (l : List α) : SortedL lt (msort lt l) := by
  have h := List.pairwise_mergeSort (le := fun x y => !lt y x) (le_trans_ hS) (le_total_ hS) l
  exact h.imp (fun h => by simpa using h)
theorem msort_perm (lt : α → α → Bool) (l : List α) : (msort lt l).Perm l := List.mergeSort_perm l _
theorem msort_stab {lt : α → α → Bool} (hS : SWO lt) (l : List α) : Stab lt l (msort lt l) := by
  intro x
  have hp : (l.filter (Go.Proofs.Ytgdmdhhihoifkaa.eqv lt x)).Pairwise (fun a b => (!lt b a) = true) := by
    rw [List.pairwise_iff_forall_sublist]
    intro a b hab
    have ha : a ∈ l.filter (Go.Proofs.Ytgdmdhhihoifkaa.eqv lt x) := hab.subset (by simp)
    have hb : b ∈ l.filter (Go.Proofs.Ytgdmdhhihoifkaa.eqv lt x) := hab.subset (by simp)
    have h1 := eqv_iff.1 (List.mem_filter.1 ha).2
    have h2 := eqv_iff.1 (List.mem_filter.1 hb).2
    rw [hS.ntrans b x a h2.2 h1.1]; rfl
  have hsub := List.sublist_mergeSort (le := fun x y => !lt y x) (le_trans_ hS) (le_total_ hS) hp List.filter_sublist
  have h2 := hsub.filter (Go.Proofs.Ytgdmdhhihoifkaa.eqv lt x)
  rw [List.filter_filter] at h2
  simp only [Bool.and_self] at h2
  refine h2.eq_of_length ?_
  exact ((msort_perm lt l).symm.filter _).length_eq
/-- A sorted list that is stable of l IS its merge sort. -/
theorem eq_msort {lt : α → α → Bool} (hS : SWO lt) {l l' : List α} (h1 : SortedL lt l') (h2 : Stab lt l l') : l' = msort lt l :=
  sortedL_unique hS _ _ h1 (msort_sorted hS l) (h2.symm.trans (msort_stab hS l))
/-- Two sorted lists, each the other's permutation, of elements among which alike are the same: one list. -/
theorem sorted_perm_eq {lt : α → α → Bool} (hS : SWO lt) : ∀ {l l' : List α}, SortedL lt l → SortedL lt l' → l.Perm l' → (∀ x ∈ l, ∀ y ∈ l, lt x y = false → lt y x = false → x = y) → l = l' := by
  intro l l' h1 h2 hp he
  refine sortedL_unique hS _ _ h1 h2 fun x => ?_
  have hq := hp.filter (Go.Proofs.Ytgdmdhhihoifkaa.eqv lt x)
  have hall : ∀ a ∈ l.filter (Go.Proofs.Ytgdmdhhihoifkaa.eqv lt x), ∀ b ∈ l.filter (Go.Proofs.Ytgdmdhhihoifkaa.eqv lt x), a = b := by
    intro a ha b hb
    have ha' := List.mem_filter.1 ha
    have hb' := List.mem_filter.1 hb
    have e1 := eqv_iff.1 ha'.2
    have e2 := eqv_iff.1 hb'.2
    exact he a ha'.1 b hb'.1 (hS.ntrans a x b e1.2 e2.1) (hS.ntrans b x a e2.2 e1.1)
  cases hf : l.filter (Go.Proofs.Ytgdmdhhihoifkaa.eqv lt x) with
  | nil => rw [hf] at hq; exact (List.nil_perm.1 hq).symm
  | cons z t =>
    have hz : ∀ a ∈ l.filter (Go.Proofs.Ytgdmdhhihoifkaa.eqv lt x), a = z := fun a ha => hall a ha z (by rw [hf]; simp)
    have r1 := List.eq_replicate_of_mem hz
    have r2 := List.eq_replicate_of_mem (fun a ha => hz a (hq.mem_iff.2 ha))
    rw [hf] at r1
    rw [r1, r2, hq.length_eq.symm, hf]
theorem msort_congr {lt : α → α → Bool} (hS : SWO lt) {l l' : List α} (hp : l.Perm l') (he : ∀ x ∈ l, ∀ y ∈ l, lt x y = false → lt y x = false → x = y) : msort lt l = msort lt l' :=
  sorted_perm_eq hS (msort_sorted hS l) (msort_sorted hS l') ((msort_perm lt l).trans (hp.trans (msort_perm lt l').symm))
    (fun x hx y hy => he x ((msort_perm lt l).mem_iff.1 hx) y ((msort_perm lt l).mem_iff.1 hy))
/-- What the library's sort leaves (a permutation, sorted), as a list. -/
theorem sortedIn_list [Inhabited α] {lt : α → α → Bool} {d d' : Array α} (hp : PermIn 0 d.size d d') (hs : SortedIn lt 0 d.size d') : d'.toList.Perm d.toList ∧ SortedL lt d'.toList := by
  have hsz := hp.1
  constructor
  · have h := hp.2.2
    rw [Array.toList_extract, Array.toList_extract] at h
    have e1 : d'.toList.extract 0 d.size = d'.toList := by
      simp only [List.extract, List.drop_zero, Nat.sub_zero]; exact List.take_of_length_le (by simp; omega)
    have e2 : d.toList.extract 0 d.size = d.toList := by
      simp only [List.extract, List.drop_zero, Nat.sub_zero]; exact List.take_of_length_le (by simp)
    rw [e1, e2] at h
    exact h
  · unfold SortedL
    rw [List.pairwise_iff_getElem]
    intro i j hi hj hij
    simp only [Array.length_toList] at hi hj
    have h := hs i j (Nat.zero_le _) hij (by omega)
    rw [getElem!_pos d' _ hj, getElem!_pos d' _ hi] at h
    simpa using h
end
end Go.Proofs.Ytgdmdhhihoifkaa

namespace Go.Proofs.Ytgdmdhhihoifkaa.Pr
open Go.Proofs.Ytgdmdhhihoifkaa Go.Sort

abbrev T := S25
abbrev Mu := S27
abbrev Ch := S29
abbrev Ro := S51
def bl (s : ByteArray) : List UInt8 := s.data.toList
theorem bl_inj {a b : ByteArray} : bl a = bl b ↔ a = b := by
  unfold bl
  constructor
  · intro h
    obtain ⟨⟨x⟩⟩ := a
    obtain ⟨⟨y⟩⟩ := b
    simp at h
    rw [h]
  · rintro rfl; rfl
def cmpS (a b : ByteArray) : Int := Lib.compareBytes (bl a) (bl b)
theorem cmpS_zero {a b : ByteArray} : cmpS a b = 0 ↔ a = b := compareBytes_zero.trans bl_inj
theorem cmp_S : Cmp cmpS := cmp_bytes.comap bl
def cmpT : T → T → Int := lexi (fun a b => cmpS a.f0 b.f0) (lexi (fun a b => cmpS a.f1 b.f1) (fun a b => cmpS a.f2 b.f2))
def cmpCh : Ch → Ch → Int := lexi (fun a b => Lib.compareInt a.f0 b.f0) (fun a b => cmpT a.f1.f1 b.f1.f1)
def cmpRo : Ro → Ro → Int := lexi (fun a b => cmpT a.f0 b.f0) (fun a b => Lib.compareInt a.f1 b.f1)
def cmpMu : Mu → Mu → Int := fun a b => cmpT a.f1 b.f1
theorem cmp_T : Cmp cmpT := (cmp_S.comap (fun a : T => a.f0)).lexi ((cmp_S.comap (fun a : T => a.f1)).lexi (cmp_S.comap (fun a : T => a.f2)))
theorem cmp_Ch : Cmp cmpCh := (cmp_int.comap (fun a : Ch => a.f0)).lexi (cmp_T.comap (fun a : Ch => a.f1.f1))
theorem cmp_Ro : Cmp cmpRo := (cmp_T.comap (fun a : Ro => a.f0)).lexi (cmp_int.comap (fun a : Ro => a.f1))
theorem cmp_Mu : Cmp cmpMu := cmp_T.comap (fun a : Mu => a.f1)
theorem cmpT_zero {a b : T} : cmpT a b = 0 ↔ a = b := by
  unfold cmpT
  rw [lexi_eq_zero, lexi_eq_zero, cmpS_zero, cmpS_zero, cmpS_zero]
  constructor
  · rintro ⟨h1, h2, h3⟩
    cases a; cases b; simp_all
  · rintro rfl; exact ⟨rfl, rfl, rfl⟩
instance instT : DecidableEq T := fun _ _ => decidable_of_iff _ cmpT_zero
instance instMu : DecidableEq Mu := fun a b => decidable_of_iff (a.f0 = b.f0 ∧ a.f1 = b.f1) (by cases a; cases b; simp)
instance instCh : DecidableEq Ch := fun a b => decidable_of_iff (a.f0 = b.f0 ∧ a.f1 = b.f1) (by cases a; cases b; simp)
instance instRo : DecidableEq Ro := fun a b => decidable_of_iff (a.f0 = b.f0 ∧ a.f1 = b.f1 ∧ a.f2 = b.f2) (by cases a; cases b; simp)
instance inhT : Inhabited T := ⟨z25⟩
instance inhMu : Inhabited Mu := ⟨z27⟩
instance inhCh : Inhabited Ch := ⟨z29⟩
instance inhRo : Inhabited Ro := ⟨z51⟩
def ltT : T → T → Bool := ltOf cmpT
def ltCh : Ch → Ch → Bool := ltOf cmpCh
def ltRo : Ro → Ro → Bool := ltOf cmpRo
def ltMu : Mu → Mu → Bool := ltOf cmpMu
def tiny (n : Nat) : Bool := decide (n ≤ 1073741824)

/-! ### Changes -/
def chIf (fr to_ rev : Int) (del : Bool) (t : T) : List Ch := if fr < rev ∧ rev ≤ to_ then [⟨rev, ⟨del, t⟩⟩] else []
def chOf (fr to_ : Int) (r : Ro) : List Ch := if r.f2 ≠ 0 ∧ r.f2 ≤ r.f1 then [] else chIf fr to_ r.f1 false r.f0 ++ (if r.f2 ≠ 0 then chIf fr to_ r.f2 true r.f0 else [])
def watch_Changes.f (l0 : List Ro) (a1 a2 : Int) : Option (List Ch) := if tiny l0.length = true then some (msort ltCh (l0.flatMap (chOf a1 a2))) else none

/-! ### At -/
def thereAt (rev : Int) (r : Ro) : Bool := decide (r.f1 ≤ rev ∧ (r.f2 = 0 ∨ rev < r.f2))
def compactFrom {α : Type} [DecidableEq α] (p : α) : List α → List α
  | [] => []
  | y :: t => if y = p then compactFrom p t else y :: compactFrom y t
def compactL {α : Type} [DecidableEq α] : List α → List α
  | [] => []
  | x :: t => x :: compactFrom x t
def watch_At.f (l0 : List Ro) (a1 : Int) : Option (List T) := if tiny l0.length = true then some (compactL (msort ltT ((l0.filter (thereAt a1)).map (·.f0)))) else none

/-! ### Play -/
def putT (acc : List T) (t : T) : List T := if t ∈ acc then acc else acc ++ [t]
def playDo (acc : List T) (c : Ch) : List T := if c.f1.f0 = true then acc.filter (fun t => decide (t ≠ c.f1.f1)) else putT acc c.f1.f1
def playL (ts : List T) (cs : List Ch) : List T := cs.foldl playDo (ts.foldl putT [])
def watch_Play.f (l0 : List T) (l1 : List Ch) : Option (List T) := if tiny l0.length = true then if tiny l1.length = true then some (msort ltT (playL l0 l1)) else none else none

/-! ### Net -/
def netL (a b : List T) : List Mu := (a.filter (fun t => decide (t ∉ b))).map (fun t => ⟨true, t⟩) ++ (b.filter (fun t => decide (t ∉ a))).map (fun t => ⟨false, t⟩)
def watch_Net.f (l0 l1 : List T) : Option (List Mu) := if tiny l0.length = true then if tiny l1.length = true then some (compactL (msort ltMu (netL l0 l1))) else none else none

/-! ### Back -/
def flipCh (c : Ch) : Ch := ⟨c.f0, ⟨!c.f1.f0, c.f1.f1⟩⟩
def watch_Back.f (l0 : List Ch) : Option (List Ch) := if tiny l0.length = true then some (l0.reverse.map flipCh) else none

/-! ### Rows -/
def openAt (t : T) (r : Ro) : Bool := decide (r.f0 = t ∧ r.f2 = 0)
def rowsDo (out : List Ro) (c : Ch) : List Ro :=
  if out.any (openAt c.f1.f1) = true then (if c.f1.f0 = true then out.map (fun r => if openAt c.f1.f1 r = true then ⟨r.f0, r.f1, c.f0⟩ else r) else out)
  else (if c.f1.f0 = true then out else out ++ [⟨c.f1.f1, c.f0, 0⟩])
def rowsL (cs : List Ch) : List Ro := cs.foldl rowsDo []
def watch_Rows.f (l0 : List Ch) : Option (List Ro) := if tiny l0.length = true then some (msort ltRo (rowsL l0)) else none
end Go.Proofs.Ytgdmdhhihoifkaa.Pr

namespace Go.Proofs
open Go.Shelf
def Try.insRow_ren : Go.Shelf.Ren := ⟨fun | 20 => 49 | n => n, fun | 24 => 51 | 22 => 30 | 3 => 3 | 25 => 58 | 4 => 4 | 0 => 0 | n => n, fun | n => n⟩
theorem Try.insRow : Go.Proofs.SlLaysF0.n20 Try.prog Try.insRow_ren := {
  mixed := by kernel_rfl
  f20 := ⟨Try.f49.name, by decide, Try.func49.trans (congrArg some (by kernel_rfl))⟩
  t0 := Try.underlying0
  a0 := Try.isAgg0
  z0 := Try.sizeOf0
  v0 := Try.zeroValue0
  t3 := Try.underlying3
  a3 := Try.isAgg3
  z3 := Try.sizeOf3
  v3 := Try.zeroValue3
  t4 := Try.underlying4
  a4 := Try.isAgg4
  z4 := Try.sizeOf4
  v4 := Try.zeroValue4
  t22 := Try.underlying30
  a22 := Try.isAgg30
  z22 := Try.sizeOf30
  v22 := Try.zeroValue30
  t25 := Try.underlying58
  a25 := Try.isAgg58
  z25 := Try.sizeOf58
  v25 := Try.zeroValue58 }
def Try.insCh_ren : Go.Shelf.Ren := ⟨fun | 20 => 52 | n => n, fun | 24 => 29 | 22 => 22 | 3 => 3 | 25 => 61 | 4 => 4 | 0 => 0 | n => n, fun | n => n⟩
theorem Try.insCh : Go.Proofs.SlLaysF0.n20 Try.prog Try.insCh_ren := {
  mixed := by kernel_rfl
  f20 := ⟨Try.f52.name, by decide, Try.func52.trans (congrArg some (by kernel_rfl))⟩
  t0 := Try.underlying0
  a0 := Try.isAgg0
  z0 := Try.sizeOf0
  v0 := Try.zeroValue0
  t3 := Try.underlying3
  a3 := Try.isAgg3
  z3 := Try.sizeOf3
  v3 := Try.zeroValue3
  t4 := Try.underlying4
  a4 := Try.isAgg4
  z4 := Try.sizeOf4
  v4 := Try.zeroValue4
  t22 := Try.underlying22
  a22 := Try.isAgg22
  z22 := Try.sizeOf22
  v22 := Try.zeroValue22
  t25 := Try.underlying61
  a25 := Try.isAgg61
  z25 := Try.sizeOf61
  v25 := Try.zeroValue61 }
def Try.sortTuple_ren : Go.Shelf.Ren := ⟨fun | 6 => 29 | 15 => 44 | 14 => 43 | 28 => 62 | 29 => 63 | 20 => 54 | 21 => 55 | 22 => 56 | 23 => 57 | 24 => 58 | 25 => 59 | 26 => 60 | 27 => 61 | 46 => 75 | 47 => 76 | 48 => 77 | 49 => 78 | 50 => 79 | 57 => 85 | n => n, fun | 22 => 34 | 24 => 25 | 25 => 56 | 3 => 3 | 39 => 84 | 0 => 0 | 53 => 101 | 55 => 103 | 4 => 4 | 46 => 95 | 45 => 94 | 50 => 53 | 5 => 5 | 9 => 9 | 66 => 109 | 70 => 113 | 76 => 117 | 77 => 118 | n => n, fun | n => n⟩
theorem Try.sortTuple : Go.Proofs.SlLaysF0.n6 Try.prog Try.sortTuple_ren := {
  mixed := by kernel_rfl
  f6 := ⟨Try.f29.name, by decide, Try.func29.trans (congrArg some (by kernel_rfl))⟩
  f14 := ⟨Try.f43.name, by decide, Try.func43.trans (congrArg some (by kernel_rfl))⟩
  f15 := Try.func44.trans (congrArg some (by kernel_rfl))
  f20 := ⟨Try.f54.name, by decide, Try.func54.trans (congrArg some (by kernel_rfl))⟩
  f21 := ⟨Try.f55.name, by decide, Try.func55.trans (congrArg some (by kernel_rfl))⟩
  f22 := ⟨Try.f56.name, by decide, Try.func56.trans (congrArg some (by kernel_rfl))⟩
  f23 := ⟨Try.f57.name, by decide, Try.func57.trans (congrArg some (by kernel_rfl))⟩
  f24 := ⟨Try.f58.name, by decide, Try.func58.trans (congrArg some (by kernel_rfl))⟩
  f25 := ⟨Try.f59.name, by decide, Try.func59.trans (congrArg some (by kernel_rfl))⟩
  f26 := ⟨Try.f60.name, by decide, Try.func60.trans (congrArg some (by kernel_rfl))⟩
  f27 := ⟨Try.f61.name, by decide, Try.func61.trans (congrArg some (by kernel_rfl))⟩
  f28 := Try.func62.trans (congrArg some (by kernel_rfl))
  f29 := Try.func63.trans (congrArg some (by kernel_rfl))
  f46 := ⟨Try.f75.name, by decide, Try.func75.trans (congrArg some (by kernel_rfl))⟩
  f47 := Try.func76.trans (congrArg some (by kernel_rfl))
  f48 := Try.func77.trans (congrArg some (by kernel_rfl))
  f49 := ⟨Try.f78.name, by decide, Try.func78.trans (congrArg some (by kernel_rfl))⟩
  f50 := ⟨Try.f79.name, by decide, Try.func79.trans (congrArg some (by kernel_rfl))⟩
  f57 := ⟨Try.f85.name, by decide, Try.func85.trans (congrArg some (by kernel_rfl))⟩
  t0 := Try.underlying0
  a0 := Try.isAgg0
  z0 := Try.sizeOf0
  v0 := Try.zeroValue0
  t3 := Try.underlying3
  a3 := Try.isAgg3
  z3 := Try.sizeOf3
  v3 := Try.zeroValue3
  t4 := Try.underlying4
  a4 := Try.isAgg4
  z4 := Try.sizeOf4
  v4 := Try.zeroValue4
  t5 := Try.underlying5
  a5 := Try.isAgg5
  z5 := Try.sizeOf5
  v5 := Try.zeroValue5
  t9 := Try.underlying9
  a9 := Try.isAgg9
  z9 := Try.sizeOf9
  v9 := Try.zeroValue9
  t22 := Try.underlying34
  a22 := Try.isAgg34
  z22 := Try.sizeOf34
  v22 := Try.zeroValue34
  t25 := Try.underlying56
  a25 := Try.isAgg56
  z25 := Try.sizeOf56
  v25 := Try.zeroValue56
  t39 := Try.underlying84
  a39 := Try.isAgg84
  z39 := Try.sizeOf84
  v39 := Try.zeroValue84
  t45 := Try.underlying94
  a45 := Try.isAgg94
  z45 := Try.sizeOf94
  v45 := Try.zeroValue94
  t46 := Try.underlying95
  a46 := Try.isAgg95
  z46 := Try.sizeOf95
  v46 := Try.zeroValue95
  t50 := Try.underlying53
  a50 := Try.isAgg53
  z50 := Try.sizeOf53
  v50 := Try.zeroValue53
  t53 := Try.underlying101
  a53 := Try.isAgg101
  z53 := Try.sizeOf101
  v53 := Try.zeroValue101
  t55 := Try.underlying103
  a55 := Try.isAgg103
  z55 := Try.sizeOf103
  v55 := Try.zeroValue103
  t66 := Try.underlying109
  a66 := Try.isAgg109
  z66 := Try.sizeOf109
  v66 := Try.zeroValue109
  t70 := Try.underlying113
  a70 := Try.isAgg113
  z70 := Try.sizeOf113
  v70 := Try.zeroValue113
  t76 := Try.underlying117
  a76 := Try.isAgg117
  z76 := Try.sizeOf117
  v76 := Try.zeroValue117
  t77 := Try.underlying118
  a77 := Try.isAgg118
  z77 := Try.sizeOf118
  v77 := Try.zeroValue118 }
def Try.sortMut_ren : Go.Shelf.Ren := ⟨fun | 6 => 33 | 15 => 44 | 14 => 47 | 28 => 62 | 29 => 63 | 20 => 64 | 21 => 65 | 22 => 66 | 23 => 67 | 24 => 68 | 25 => 69 | 26 => 70 | 27 => 71 | 46 => 80 | 47 => 76 | 48 => 77 | 49 => 81 | 50 => 82 | 57 => 86 | n => n, fun | 22 => 43 | 24 => 27 | 25 => 69 | 3 => 3 | 39 => 84 | 0 => 0 | 53 => 101 | 55 => 103 | 4 => 4 | 46 => 95 | 45 => 94 | 50 => 53 | 5 => 5 | 9 => 9 | 66 => 109 | 70 => 113 | 76 => 117 | 77 => 118 | n => n, fun | n => n⟩
theorem Try.sortMut : Go.Proofs.SlLaysF0.n6 Try.prog Try.sortMut_ren := {
  mixed := by kernel_rfl
  f6 := ⟨Try.f33.name, by decide, Try.func33.trans (congrArg some (by kernel_rfl))⟩
  f14 := ⟨Try.f47.name, by decide, Try.func47.trans (congrArg some (by kernel_rfl))⟩
  f15 := Try.func44.trans (congrArg some (by kernel_rfl))
  f20 := ⟨Try.f64.name, by decide, Try.func64.trans (congrArg some (by kernel_rfl))⟩
  f21 := ⟨Try.f65.name, by decide, Try.func65.trans (congrArg some (by kernel_rfl))⟩
  f22 := ⟨Try.f66.name, by decide, Try.func66.trans (congrArg some (by kernel_rfl))⟩
  f23 := ⟨Try.f67.name, by decide, Try.func67.trans (congrArg some (by kernel_rfl))⟩
  f24 := ⟨Try.f68.name, by decide, Try.func68.trans (congrArg some (by kernel_rfl))⟩
  f25 := ⟨Try.f69.name, by decide, Try.func69.trans (congrArg some (by kernel_rfl))⟩
  f26 := ⟨Try.f70.name, by decide, Try.func70.trans (congrArg some (by kernel_rfl))⟩
  f27 := ⟨Try.f71.name, by decide, Try.func71.trans (congrArg some (by kernel_rfl))⟩
  f28 := Try.func62.trans (congrArg some (by kernel_rfl))
  f29 := Try.func63.trans (congrArg some (by kernel_rfl))
  f46 := ⟨Try.f80.name, by decide, Try.func80.trans (congrArg some (by kernel_rfl))⟩
  f47 := Try.func76.trans (congrArg some (by kernel_rfl))
  f48 := Try.func77.trans (congrArg some (by kernel_rfl))
  f49 := ⟨Try.f81.name, by decide, Try.func81.trans (congrArg some (by kernel_rfl))⟩
  f50 := ⟨Try.f82.name, by decide, Try.func82.trans (congrArg some (by kernel_rfl))⟩
  f57 := ⟨Try.f86.name, by decide, Try.func86.trans (congrArg some (by kernel_rfl))⟩
  t0 := Try.underlying0
  a0 := Try.isAgg0
  z0 := Try.sizeOf0
  v0 := Try.zeroValue0
  t3 := Try.underlying3
  a3 := Try.isAgg3
  z3 := Try.sizeOf3
  v3 := Try.zeroValue3
  t4 := Try.underlying4
  a4 := Try.isAgg4
  z4 := Try.sizeOf4
  v4 := Try.zeroValue4
  t5 := Try.underlying5
  a5 := Try.isAgg5
  z5 := Try.sizeOf5
  v5 := Try.zeroValue5
  t9 := Try.underlying9
  a9 := Try.isAgg9
  z9 := Try.sizeOf9
  v9 := Try.zeroValue9
  t22 := Try.underlying43
  a22 := Try.isAgg43
  z22 := Try.sizeOf43
  v22 := Try.zeroValue43
  t25 := Try.underlying69
  a25 := Try.isAgg69
  z25 := Try.sizeOf69
  v25 := Try.zeroValue69
  t39 := Try.underlying84
  a39 := Try.isAgg84
  z39 := Try.sizeOf84
  v39 := Try.zeroValue84
  t45 := Try.underlying94
  a45 := Try.isAgg94
  z45 := Try.sizeOf94
  v45 := Try.zeroValue94
  t46 := Try.underlying95
  a46 := Try.isAgg95
  z46 := Try.sizeOf95
  v46 := Try.zeroValue95
  t50 := Try.underlying53
  a50 := Try.isAgg53
  z50 := Try.sizeOf53
  v50 := Try.zeroValue53
  t53 := Try.underlying101
  a53 := Try.isAgg101
  z53 := Try.sizeOf101
  v53 := Try.zeroValue101
  t55 := Try.underlying103
  a55 := Try.isAgg103
  z55 := Try.sizeOf103
  v55 := Try.zeroValue103
  t66 := Try.underlying109
  a66 := Try.isAgg109
  z66 := Try.sizeOf109
  v66 := Try.zeroValue109
  t70 := Try.underlying113
  a70 := Try.isAgg113
  z70 := Try.sizeOf113
  v70 := Try.zeroValue113
  t76 := Try.underlying117
  a76 := Try.isAgg117
  z76 := Try.sizeOf117
  v76 := Try.zeroValue117
  t77 := Try.underlying118
  a77 := Try.isAgg118
  z77 := Try.sizeOf118
  v77 := Try.zeroValue118 }
def Try.hasTuple_ren : Go.Shelf.Ren := ⟨fun | 7 => 32 | 6 => 46 | n => n, fun | 22 => 34 | 24 => 25 | 4 => 4 | 0 => 0 | 3 => 3 | n => n, fun | n => n⟩
theorem Try.hasTuple : Go.Proofs.SlLaysQ.n7 Try.prog Try.hasTuple_ren := {
  mixed := by kernel_rfl
  f6 := ⟨Try.f46.name, by decide, Try.func46.trans (congrArg some (by kernel_rfl))⟩
  f7 := ⟨Try.f32.name, by decide, Try.func32.trans (congrArg some (by kernel_rfl))⟩
  t0 := Try.underlying0
  a0 := Try.isAgg0
  z0 := Try.sizeOf0
  v0 := Try.zeroValue0
  t3 := Try.underlying3
  a3 := Try.isAgg3
  z3 := Try.sizeOf3
  v3 := Try.zeroValue3
  t4 := Try.underlying4
  a4 := Try.isAgg4
  z4 := Try.sizeOf4
  v4 := Try.zeroValue4
  t22 := Try.underlying34
  a22 := Try.isAgg34
  z22 := Try.sizeOf34
  v22 := Try.zeroValue34 }
def Try.strCmp_ren : Go.Shelf.Ren := ⟨fun | 106 => 40 | 213 => 51 | 265 => 73 | n => n, fun | 9 => 9 | 3 => 3 | n => n, fun | n => n⟩
theorem Try.strCmp : Go.Proofs.Lays.n106 Try.prog Try.strCmp_ren := {
  mixed := by kernel_rfl
  f106 := Try.func40.trans (congrArg some (by kernel_rfl))
  f213 := Try.func51.trans (congrArg some (by kernel_rfl))
  f265 := Try.func73.trans (congrArg some (by kernel_rfl))
  t3 := Try.underlying3
  a3 := Try.isAgg3
  z3 := Try.sizeOf3
  v3 := Try.zeroValue3
  t9 := Try.underlying9
  a9 := Try.isAgg9
  z9 := Try.sizeOf9
  v9 := Try.zeroValue9 }
open Go.RowKit in
/-- strings.Compare. -/
theorem Try.strings_Compare (a b : ByteArray) (w : World) :
    Calls Try.prog 40 #[.string a, .string b] w fun e w' => e = .returned (.int .i64 (Lib.compareBytes a.data.toList b.data.toList)) ∧ w' = w := Any.strings_Compare Try.strCmp a b w
end Go.Proofs

namespace Go.Proofs.Ytgdmdhhihoifkaa.Pr
open Go.Shelf Go.RowKit Go.Lib Go.Sort Go.Proofs.Ytgdmdhhihoifkaa

/-- Behind w: some draws, some new blocks. -/
def Gr (w w' : World) : Prop := ∃ q os, w' = grow (w.drewN q) os
theorem Gr.refl (w : World) : Gr w w := ⟨0, #[], by rw [grow_empty]; rfl⟩
theorem Gr.drewN {w w' : World} (h : Gr w w') (n : Nat) : Gr w (w'.drewN n) := by
  obtain ⟨q, os, rfl⟩ := h
  exact ⟨q + n, os, by show grow ((w.drewN q).drewN n) os = _; rw [World.drewN_drewN]⟩
theorem Gr.drew {w w' : World} (h : Gr w w') : Gr w w'.drew := h.drewN 1
theorem Gr.alloc {w w' : World} (h : Gr w w') (o : Obj) : Gr w (w'.alloc o) := by
  obtain ⟨q, os, rfl⟩ := h
  exact ⟨q, os ++ #[o], by rw [alloc_eq_grow, grow_grow]⟩
theorem Gr.le {w w' : World} (h : Gr w w') : w.heap.size ≤ w'.heap.size := by
  obtain ⟨q, os, rfl⟩ := h
  rw [size_grow]; exact Nat.le_add_right _ _
theorem Gr.setCell {w w' : World} (h : Gr w w') (b o : Nat) (v : Value) (hb : w.heap.size ≤ b) : Gr w (w'.setCell ⟨b, o, none⟩ v) := by
  obtain ⟨q, os, rfl⟩ := h
  exact ⟨q, _, by rw [setCell_eq, mapBlock_grow_new _ _ _ _ (by exact hb)]⟩
theorem Gr.trans {w w' w'' : World} (h : Gr w w') (k : Gr w' w'') : Gr w w'' := by
  obtain ⟨q, os, rfl⟩ := h
  obtain ⟨q', os', rfl⟩ := k
  exact ⟨q + q', os ++ os', by show grow (grow ((w.drewN q).drewN q') os) os' = _; rw [grow_grow, World.drewN_drewN]⟩

theorem Gr.cell {w w' : World} (h : Gr w w') {a : Addr} {v : Value} (hc : w.cell? a = some v) : w'.cell? a = some v := by
  obtain ⟨q, os, rfl⟩ := h
  have hb : a.block < w.heap.size := by
    by_cases hb : a.block < w.heap.size
    · exact hb
    · exfalso
      have : w.heap[a.block]? = none := Array.getElem?_eq_none (by omega)
      simp [World.cell?, this] at hc
  rw [cell?_grow _ _ _ (by exact hb)]; exact hc

def enT (a : T) : List Value := [.string a.f0, .string a.f1, .string a.f2]
def enRo (a : Ro) : List Value := enT a.f0 ++ [.int .i64 a.f1, .int .i64 a.f2]
def enMu (a : Mu) : List Value := .bool a.f0 :: enT a.f1
def enCh (a : Ch) : List Value := .int .i64 a.f0 :: enMu a.f1

set_option maxHeartbeats 2000000 in
set_option maxRecDepth 100000 in
/-- tuple.Compare. -/
theorem tuple_Compare (a b : T) (w : World) : Calls Try.prog 24 #[.agg #[.string a.f0, .string a.f1, .string a.f2], .agg #[.string b.f0, .string b.f1, .string b.f2]] w fun e w' => e = .returned (.int .i64 (cmpT a b)) ∧ Gr w w' := by
  have hC : ∀ x y W, Calls Try.prog 40 #[.string x, .string y] W fun e w' => e = .returned (.int .i64 (cmpS x y)) ∧ w' = W := fun x y W => Try.strings_Compare x y W
  have HT : Hid (cmpT a b = if cmpS a.f0 b.f0 = 0 then (if cmpS a.f1 b.f1 = 0 then cmpS a.f2 b.f2 else cmpS a.f1 b.f1) else cmpS a.f0 b.f0) := rfl
  obtain ⟨a0, a1, a2⟩ := a
  obtain ⟨b0, b1, b2⟩ := b
  have hC0 := hC a0 b0
  have hC1 := hC a1 b1
  have hC2 := hC a2 b2
  clear hC
  generalize cmpT ⟨a0, a1, a2⟩ ⟨b0, b1, b2⟩ = r at HT ⊢
  dsimp only at HT
  generalize cmpS a0 b0 = c0 at *
  generalize cmpS a1 b1 = c1 at *
  generalize cmpS a2 b2 = c2 at *
  have HC : Hid ((∀ W, Calls Try.prog 40 #[.string a0, .string b0] W fun e w' => e = .returned (.int .i64 c0) ∧ w' = W) ∧ (∀ W, Calls Try.prog 40 #[.string a1, .string b1] W fun e w' => e = .returned (.int .i64 c1) ∧ w' = W) ∧ (∀ W, Calls Try.prog 40 #[.string a2, .string b2] W fun e w' => e = .returned (.int .i64 c2) ∧ w' = W)) := ⟨hC0, hC1, hC2⟩
  clear hC0 hC1 hC2
  have x0 : ∀ w, Sem.run Try.prog (Instr.index 78 (.agg #[.string a0, .string b0, .string a1, .string b1, .string a2, .string b2]) (.int .i64 0)) w = .ok (.agg #[.string a0, .string b0]) w := fun w => by
    simp [Instr.index, asIntOf, run_underlying Try.underlying78, go_sem]
  have x1 : ∀ w, Sem.run Try.prog (Instr.index 78 (.agg #[.string a0, .string b0, .string a1, .string b1, .string a2, .string b2]) (.int .i64 1)) w = .ok (.agg #[.string a1, .string b1]) w := fun w => by
    simp [Instr.index, asIntOf, run_underlying Try.underlying78, go_sem]
  have x2 : ∀ w, Sem.run Try.prog (Instr.index 78 (.agg #[.string a0, .string b0, .string a1, .string b1, .string a2, .string b2]) (.int .i64 2)) w = .ok (.agg #[.string a2, .string b2]) w := fun w => by
    simp [Instr.index, asIntOf, run_underlying Try.underlying78, go_sem]
  go_enter Try.func24, Try.ntmps24
  go_wp2
  have S0 : Aside (Gr w ((w.alloc (Obj.cells #[Value.string a0, Value.string a1, Value.string a2] 25)).alloc (Obj.cells #[Value.string b0, Value.string b1, Value.string b2] 25))) := ((Gr.refl w).alloc _).alloc _
  go_loopg [24] 3 (fun gk s24 wr => ∃ i : Nat, s24 = .int .i64 i ∧ i ≤ 3 ∧ 3 - i ≤ gk ∧ Hid ((1 ≤ i → c0 = 0) ∧ (2 ≤ i → c1 = 0) ∧ (3 ≤ i → c2 = 0)) ∧ Aside (Gr w wr))
  case atStart => exact ⟨0, rfl, by omega, by omega, ⟨by omega, by omega, by omega⟩, S0⟩
  case round =>
    clear S0
    obtain ⟨i, rfl, hi, hg, HI, S1⟩ := hrel
    obtain rfl | rfl | rfl | rfl : i = 0 ∨ i = 1 ∨ i = 2 ∨ i = 3 := by omega
    · by_cases h : c0 = 0
      · have hb : (c0 != 0) = false := by simp [h]
        have hb2 : decide (c0 ≠ 0) = false := by simp [h]
        go_wp2_with (go_at_call 40; refine (HC.out.1 _).mono ?_; rintro e w' ⟨rfl, rfl⟩)
        go_roundg 2
        case measure => omega
        case rel => exact ⟨1, rfl, by omega, by omega, ⟨fun _ => h, by omega, by omega⟩, S1.out.alloc _⟩
      · have hb : (c0 != 0) = true := by simp [h]
        have hb2 : decide (c0 ≠ 0) = true := by simp [h]
        go_wp2_with (go_at_call 40; refine (HC.out.1 _).mono ?_; rintro e w' ⟨rfl, rfl⟩)
        go_ret
        exact ⟨by rw [HT.out, if_neg h]; rfl, S1.out.alloc _⟩
    · by_cases h : c1 = 0
      · have hb : (c1 != 0) = false := by simp [h]
        have hb2 : decide (c1 ≠ 0) = false := by simp [h]
        go_wp2_with (go_at_call 40; refine (HC.out.2.1 _).mono ?_; rintro e w' ⟨rfl, rfl⟩)
        go_roundg 1
        case measure => omega
        case rel => exact ⟨2, rfl, by omega, by omega, ⟨fun _ => HI.out.1 (by omega), fun _ => h, by omega⟩, S1.out.alloc _⟩
      · have hb : (c1 != 0) = true := by simp [h]
        have hb2 : decide (c1 ≠ 0) = true := by simp [h]
        go_wp2_with (go_at_call 40; refine (HC.out.2.1 _).mono ?_; rintro e w' ⟨rfl, rfl⟩)
        go_ret
        exact ⟨by rw [HT.out, if_pos (HI.out.1 (by omega)), if_neg h]; rfl, S1.out.alloc _⟩
    · by_cases h : c2 = 0
      · have hb : (c2 != 0) = false := by simp [h]
        have hb2 : decide (c2 ≠ 0) = false := by simp [h]
        go_wp2_with (go_at_call 40; refine (HC.out.2.2 _).mono ?_; rintro e w' ⟨rfl, rfl⟩)
        go_roundg 0
        case measure => omega
        case rel => exact ⟨3, rfl, by omega, by omega, ⟨fun _ => HI.out.1 (by omega), fun _ => HI.out.2.1 (by omega), fun _ => h⟩, S1.out.alloc _⟩
      · have hb : (c2 != 0) = true := by simp [h]
        have hb2 : decide (c2 ≠ 0) = true := by simp [h]
        go_wp2_with (go_at_call 40; refine (HC.out.2.2 _).mono ?_; rintro e w' ⟨rfl, rfl⟩)
        go_ret
        exact ⟨by rw [HT.out, if_pos (HI.out.1 (by omega)), if_pos (HI.out.2.1 (by omega))]; rfl, S1.out.alloc _⟩
    · go_wp2
      go_ret
      exact ⟨by rw [HT.out, if_pos (HI.out.1 (by omega)), if_pos (HI.out.2.1 (by omega)), HI.out.2.2 (by omega)]; rfl, S1.out⟩

set_option maxHeartbeats 2000000 in
set_option maxRecDepth 100000 in
/-- cmp.Or at two numbers. -/
theorem cmp_Or2 (x y : Int) (blk : Nat) (w : World) (h0 : w.cell? ⟨blk, 0, none⟩ = some (.int .i64 x)) (h1 : w.cell? ⟨blk, 1, none⟩ = some (.int .i64 y)) :
    Calls Try.prog 23 #[.slice (some ⟨blk, 0, none⟩) 2 2] w fun e w' => e = .returned (.int .i64 (if x = 0 then y else x)) ∧ w' = w := by
  generalize hr : (if x = 0 then y else x) = r
  have HR : Hid (r = if x = 0 then y else x) := hr.symm
  clear hr
  go_enter Try.func23, Try.ntmps23
  go_wp2
  go_loopg [8] 2 (fun gk s8 wr => ∃ i : Nat, s8 = .int .i64 i ∧ i ≤ 2 ∧ 2 - i ≤ gk ∧ Hid ((1 ≤ i → x = 0) ∧ (2 ≤ i → y = 0)) ∧ wr = w)
  case atStart => exact ⟨0, rfl, by omega, by omega, ⟨by omega, by omega⟩, rfl⟩
  case round =>
    obtain ⟨i, rfl, hi, hg, HI, rfl⟩ := hrel
    obtain rfl | rfl | rfl : i = 0 ∨ i = 1 ∨ i = 2 := by omega
    · by_cases h : x = 0
      · have hb : (x != 0) = false := by simp [h]
        go_wp2
        go_roundg 1
        case measure => omega
        case rel => exact ⟨1, rfl, by omega, by omega, ⟨fun _ => h, by omega⟩, rfl⟩
      · have hb : (x != 0) = true := by simp [h]
        go_wp2
        go_ret
        exact ⟨by rw [HR.out, if_neg h]; rfl, rfl⟩
    · by_cases h : y = 0
      · have hb : (y != 0) = false := by simp [h]
        go_wp2
        go_roundg 0
        case measure => omega
        case rel => exact ⟨2, rfl, by omega, by omega, ⟨fun _ => HI.out.1 (by omega), fun _ => h⟩, rfl⟩
      · have hb : (y != 0) = true := by simp [h]
        go_wp2
        go_ret
        exact ⟨by rw [HR.out, if_pos (HI.out.1 (by omega))]; rfl, rfl⟩
    · go_wp2
      go_ret
      exact ⟨by rw [HR.out, if_pos (HI.out.1 (by omega)), HI.out.2 (by omega)]; rfl, rfl⟩

set_option maxHeartbeats 2000000 in
/-- cmp.Compare at int64. -/
theorem cmp_Compare (x y : Int) (w : World) : Calls Try.prog 25 #[.int .i64 x, .int .i64 y] w fun e w' => e = .returned (.int .i64 (Lib.compareInt x y)) ∧ w' = w := by
  have hN : ∀ (z : Int) (W : World), Calls Try.prog 41 #[.int .i64 z] W fun e w' => e = .returned (.bool false) ∧ w' = W := by
    intro z W
    have hz : (z != z) = false := by simp
    go_enter Try.func41, Try.ntmps41
    go_wp2
    go_ret
    exact ⟨rfl, rfl⟩
  generalize hr : Lib.compareInt x y = r
  have HR : Hid (r = Lib.compareInt x y) := hr.symm
  have HN : Hid (type_of% hN) := hN
  clear hN hr
  rcases Int.lt_trichotomy x y with h | h | h
  · obtain rfl : r = -1 := by rw [HR.out, Lib.compareInt, if_pos h]
    go_enter Try.func25, Try.ntmps25
    go_wp2_with (go_at_call 41; refine (HN.out _ _).mono ?_; rintro e w' ⟨rfl, rfl⟩)
    go_ret
    exact ⟨rfl, rfl⟩
  · subst h
    obtain rfl : r = 0 := by rw [HR.out, Lib.compareInt]; simp
    have h1 : ¬ x < x := by omega
    go_enter Try.func25, Try.ntmps25
    go_wp2_with (go_at_call 41; refine (HN.out _ _).mono ?_; rintro e w' ⟨rfl, rfl⟩)
    go_ret
    exact ⟨rfl, rfl⟩
  · obtain rfl : r = 1 := by rw [HR.out, Lib.compareInt, if_neg (by omega), if_pos h]
    have h1 : ¬ x < y := by omega
    go_enter Try.func25, Try.ntmps25
    go_wp2_with (go_at_call 41; refine (HN.out _ _).mono ?_; rintro e w' ⟨rfl, rfl⟩)
    go_ret
    exact ⟨rfl, rfl⟩

set_option maxHeartbeats 2000000 in
set_option maxRecDepth 100000 in
/-- watch.order. -/
theorem watch_order (a b : Ch) (w : World) : Calls Try.prog 28 #[.agg (enCh a).toArray, .agg (enCh b).toArray] w fun e w' => e = .returned (.int .i64 (cmpCh a b)) ∧ Gr w w' := by
  obtain ⟨a0, a1, a2, a3, a4⟩ := a
  obtain ⟨b0, b1, b2, b3, b4⟩ := b
  simp only [enCh, enMu, enT]
  have hI := fun W => cmp_Compare a0 b0 W
  have hT := fun W => tuple_Compare ⟨a2, a3, a4⟩ ⟨b2, b3, b4⟩ W
  have hr : cmpCh ⟨a0, a1, a2, a3, a4⟩ ⟨b0, b1, b2, b3, b4⟩ = if Lib.compareInt a0 b0 = 0 then cmpT ⟨a2, a3, a4⟩ ⟨b2, b3, b4⟩ else Lib.compareInt a0 b0 := rfl
  rw [hr]
  clear hr
  dsimp only at hT
  generalize Lib.compareInt a0 b0 = c0 at *
  generalize cmpT ⟨a2, a3, a4⟩ ⟨b2, b3, b4⟩ = c1 at *
  have hO := cmp_Or2 c0 c1
  generalize (if c0 = 0 then c1 else c0) = r at *
  have HI : Hid (type_of% hI) := hI
  have HT : Hid (type_of% hT) := hT
  have HO : Hid (type_of% hO) := hO
  clear hI hT hO
  go_enter Try.func28, Try.ntmps28
  go_wp2_with fail
  obtain ⟨B, hB⟩ : ∃ B, B = w.heap.size := ⟨_, rfl⟩
  obtain ⟨W, hW⟩ : ∃ W, W = ((w.alloc (Obj.cells #[.int .i64 a0, .bool a1, .string a2, .string a3, .string a4] 29)).alloc (Obj.cells #[.int .i64 b0, .bool b1, .string b2, .string b3, .string b4] 29)) := ⟨_, rfl⟩
  have g0 : Gr w W := by rw [hW]; exact ((Gr.refl w).alloc _).alloc _
  have k0 : W.cell? ⟨B, 0, none⟩ = some (.int .i64 a0) := by rw [hW, hB]; simp
  have k2 : W.cell? ⟨B, 2, none⟩ = some (.string a2) := by rw [hW, hB]; simp
  have k3 : W.cell? ⟨B, 3, none⟩ = some (.string a3) := by rw [hW, hB]; simp
  have k4 : W.cell? ⟨B, 4, none⟩ = some (.string a4) := by rw [hW, hB]; simp
  have l0 : W.cell? ⟨B + 1, 0, none⟩ = some (.int .i64 b0) := by rw [hW, hB]; simp
  have l2 : W.cell? ⟨B + 1, 2, none⟩ = some (.string b2) := by rw [hW, hB]; simp
  have l3 : W.cell? ⟨B + 1, 3, none⟩ = some (.string b3) := by rw [hW, hB]; simp
  have l4 : W.cell? ⟨B + 1, 4, none⟩ = some (.string b4) := by rw [hW, hB]; simp
  rw [← hW, ← hB]
  clear hW hB
  go_region_held3 (fun w' => Gr w w' ∧ w'.cell? ⟨B, 0, none⟩ = some (.int .i64 a0) ∧ w'.cell? ⟨B, 2, none⟩ = some (.string a2) ∧ w'.cell? ⟨B, 3, none⟩ = some (.string a3) ∧ w'.cell? ⟨B, 4, none⟩ = some (.string a4) ∧ w'.cell? ⟨B + 1, 0, none⟩ = some (.int .i64 b0) ∧ w'.cell? ⟨B + 1, 2, none⟩ = some (.string b2) ∧ w'.cell? ⟨B + 1, 3, none⟩ = some (.string b3) ∧ w'.cell? ⟨B + 1, 4, none⟩ = some (.string b4))
    (first | ((try go_split_ands); (try dsimp only); refine ⟨?_, ?_, ?_, ?_, ?_, ?_, ?_, ?_, ?_⟩ <;> first | assumption | exact Gr.drew (by assumption) | exact Gr.alloc (by assumption) _ | exact Gr.trans (by assumption) (by assumption) | exact Gr.cell (by assumption) (by assumption) | (go_keep; done)))
    (first | (go_at_call 25; refine (HI.out _).mono ?_; rintro e w' ⟨rfl, rfl⟩) | (go_at_call 24; refine (HT.out _).mono ?_; rintro e w' ⟨rfl, hG⟩) | (go_at_call 23; refine (HO.out _ _ ?h0 ?h1).mono ?_; (case h0 => simp); (case h1 => simp); rintro e w' ⟨rfl, rfl⟩))
  go_wp2
  go_ret
  exact ⟨rfl, And.left (by assumption)⟩

set_option maxHeartbeats 2000000 in
set_option maxRecDepth 100000 in
/-- The closure that orders rows. -/
theorem watch_Rows1 (a b : Ro) (w : World) : Calls Try.prog 22 #[.agg (enRo a).toArray, .agg (enRo b).toArray] w fun e w' => e = .returned (.int .i64 (cmpRo a b)) ∧ Gr w w' := by
  obtain ⟨⟨a0, a1, a2⟩, a3, a4⟩ := a
  obtain ⟨⟨b0, b1, b2⟩, b3, b4⟩ := b
  simp only [enRo, enT, List.cons_append, List.nil_append]
  have hI := fun W => cmp_Compare a3 b3 W
  have hT := fun W => tuple_Compare ⟨a0, a1, a2⟩ ⟨b0, b1, b2⟩ W
  have hr : cmpRo ⟨⟨a0, a1, a2⟩, a3, a4⟩ ⟨⟨b0, b1, b2⟩, b3, b4⟩ = if cmpT ⟨a0, a1, a2⟩ ⟨b0, b1, b2⟩ = 0 then Lib.compareInt a3 b3 else cmpT ⟨a0, a1, a2⟩ ⟨b0, b1, b2⟩ := rfl
  rw [hr]
  clear hr
  dsimp only at hT
  generalize Lib.compareInt a3 b3 = c0 at *
  generalize cmpT ⟨a0, a1, a2⟩ ⟨b0, b1, b2⟩ = c1 at *
  have hO := cmp_Or2 c1 c0
  generalize (if c1 = 0 then c0 else c1) = r at *
  have HI : Hid (type_of% hI) := hI
  have HT : Hid (type_of% hT) := hT
  have HO : Hid (type_of% hO) := hO
  clear hI hT hO
  go_enter Try.func22, Try.ntmps22
  go_wp2_with fail
  obtain ⟨B, hB⟩ : ∃ B, B = w.heap.size := ⟨_, rfl⟩
  obtain ⟨W, hW⟩ : ∃ W, W = ((w.alloc (Obj.cells #[.string a0, .string a1, .string a2, .int .i64 a3, .int .i64 a4] 51)).alloc (Obj.cells #[.string b0, .string b1, .string b2, .int .i64 b3, .int .i64 b4] 51)) := ⟨_, rfl⟩
  have g0 : Gr w W := by rw [hW]; exact ((Gr.refl w).alloc _).alloc _
  have k0 : W.cell? ⟨B, 0, none⟩ = some (.string a0) := by rw [hW, hB]; simp
  have k2 : W.cell? ⟨B, 1, none⟩ = some (.string a1) := by rw [hW, hB]; simp
  have k3 : W.cell? ⟨B, 2, none⟩ = some (.string a2) := by rw [hW, hB]; simp
  have k4 : W.cell? ⟨B, 3, none⟩ = some (.int .i64 a3) := by rw [hW, hB]; simp
  have l0 : W.cell? ⟨B + 1, 0, none⟩ = some (.string b0) := by rw [hW, hB]; simp
  have l2 : W.cell? ⟨B + 1, 1, none⟩ = some (.string b1) := by rw [hW, hB]; simp
  have l3 : W.cell? ⟨B + 1, 2, none⟩ = some (.string b2) := by rw [hW, hB]; simp
  have l4 : W.cell? ⟨B + 1, 3, none⟩ = some (.int .i64 b3) := by rw [hW, hB]; simp
  rw [← hW, ← hB]
  clear hW hB
  go_region_held3 (fun w' => Gr w w' ∧ w'.cell? ⟨B, 0, none⟩ = some (.string a0) ∧ w'.cell? ⟨B, 1, none⟩ = some (.string a1) ∧ w'.cell? ⟨B, 2, none⟩ = some (.string a2) ∧ w'.cell? ⟨B, 3, none⟩ = some (.int .i64 a3) ∧ w'.cell? ⟨B + 1, 0, none⟩ = some (.string b0) ∧ w'.cell? ⟨B + 1, 1, none⟩ = some (.string b1) ∧ w'.cell? ⟨B + 1, 2, none⟩ = some (.string b2) ∧ w'.cell? ⟨B + 1, 3, none⟩ = some (.int .i64 b3))
    (first | ((try go_split_ands); (try dsimp only); refine ⟨?_, ?_, ?_, ?_, ?_, ?_, ?_, ?_, ?_⟩ <;> first | assumption | exact Gr.drew (by assumption) | exact Gr.alloc (by assumption) _ | exact Gr.trans (by assumption) (by assumption) | exact Gr.cell (by assumption) (by assumption) | (go_keep; done)))
    (first | (go_at_call 25; refine (HI.out _).mono ?_; rintro e w' ⟨rfl, rfl⟩) | (go_at_call 24; refine (HT.out _).mono ?_; rintro e w' ⟨rfl, hG⟩) | (go_at_call 23; refine (HO.out _ _ ?h0 ?h1).mono ?_; (case h0 => simp); (case h1 => simp); rintro e w' ⟨rfl, rfl⟩))
  go_wp2
  go_ret
  exact ⟨rfl, And.left (by assumption)⟩

set_option maxHeartbeats 2000000 in
set_option maxRecDepth 100000 in
/-- The closure that orders mutations. -/
theorem watch_Net1 (a b : Mu) (w : World) : Calls Try.prog 34 #[.agg (enMu a).toArray, .agg (enMu b).toArray] w fun e w' => e = .returned (.int .i64 (cmpMu a b)) ∧ Gr w w' := by
  obtain ⟨a3, a0, a1, a2⟩ := a
  obtain ⟨b3, b0, b1, b2⟩ := b
  simp only [enMu, enT]
  have hT := fun W => tuple_Compare ⟨a0, a1, a2⟩ ⟨b0, b1, b2⟩ W
  have hr : cmpMu ⟨a3, ⟨a0, a1, a2⟩⟩ ⟨b3, ⟨b0, b1, b2⟩⟩ = cmpT ⟨a0, a1, a2⟩ ⟨b0, b1, b2⟩ := rfl
  rw [hr]
  clear hr
  dsimp only at hT
  generalize cmpT ⟨a0, a1, a2⟩ ⟨b0, b1, b2⟩ = r at *
  have HT : Hid (type_of% hT) := hT
  clear hT
  go_enter Try.func34, Try.ntmps34
  go_wp2_with (go_at_call 24; refine (HT.out _).mono ?_; rintro e w' ⟨rfl, hG⟩)
  go_ret
  exact ⟨rfl, (((Gr.refl w).alloc _).alloc _).trans hG⟩
end Go.Proofs.Ytgdmdhhihoifkaa.Pr

namespace Go.Proofs.Ytgdmdhhihoifkaa.Pr
open Go.Shelf Go.RowKit Go.Lib Go.Sort Go.Proofs.Ytgdmdhhihoifkaa
open Go.Proofs.YtgdmdhhihoifkaaW.PrintWords Go.Proofs.YtgdmdhhihoifkaaW.PrintLast Go.Proofs.YtgdmdhhihoifkaaW.PrintMore

section
variable {α : Type} [Inhabited α] {enc : α → List Value} {k : Nat}

theorem SWK_cong {w0 w : World} {blk off : Nat} {X Y : List α} (S : SWK enc k w0 blk off X.toArray w) (h : X = Y) : SWK enc k w0 blk off Y.toArray w := h ▸ S

omit [Inhabited α] in
theorem len_flat (hk : ∀ x, (enc x).length = k) : ∀ l : List α, (l.flatMap enc).length = l.length * k
  | [] => by simp
  | x :: l => by rw [List.flatMap_cons, List.length_append, hk, len_flat hk l, List.length_cons, Nat.add_mul, Nat.one_mul, Nat.add_comm]

theorem get_flat (hk : ∀ x, (enc x).length = k) : ∀ (l : List α) (j c : Nat), j < l.length → c < k → (l.flatMap enc)[j * k + c]! = (enc l[j]!)[c]!
  | [], j, c, hj, _ => by simp at hj
  | x :: l, 0, c, _, hc => by
    have : c < (enc x).length := by rw [hk]; exact hc
    simp [List.getElem?_append_left this]
  | x :: l, j + 1, c, hj, hc => by
    have ih := get_flat hk l j c (by simpa using hj) hc
    rw [List.flatMap_cons]
    have e : (j + 1) * k + c = (enc x).length + (j * k + c) := by rw [hk, Nat.add_mul, Nat.one_mul]; omega
    have e2 : (enc x ++ l.flatMap enc)[(enc x).length + (j * k + c)]? = (l.flatMap enc)[j * k + c]? := by rw [List.getElem?_append_right (Nat.le_add_right _ _), Nat.add_sub_cancel_left]
    rw [e]
    simpa [e2] using ih

theorem flatK_list (hk : ∀ x, (enc x).length = k) (l : List α) : flatK enc k l.toArray = (l.flatMap enc).toArray := by
  refine ext_get! (by rw [size_flatK]; simp only [List.size_toArray]; exact (len_flat hk l).symm) fun t ht => ?_
  have ht' : t < l.toArray.size * k := by simpa using ht
  have k0 : 0 < k := by rcases Nat.eq_zero_or_pos k with h | h
                        · subst h; simp at ht'
                        · exact h
  rw [get_flatK _ _ _ t ht']
  have h1 : t / k < l.length := by rw [Nat.div_lt_iff_lt_mul k0]; simpa using ht'
  have h2 := get_flat hk l (t / k) (t % k) h1 (Nat.mod_lt _ k0)
  rw [show t / k * k + t % k = t from Nat.div_add_mod' t k] at h2
  simpa using h2.symm

theorem setMany_list (X B : List Value) : ∀ (vs M : List Value), vs.length = M.length → setMany (X ++ M ++ B).toArray X.length vs = (X ++ vs ++ B).toArray
  | [], M, h => by
    obtain rfl : M = [] := List.eq_nil_of_length_eq_zero (by simpa using h.symm)
    rfl
  | v :: vs, [], h => by simp at h
  | v :: vs, m :: M, h => by
    rw [setMany]
    have e : (X ++ m :: M ++ B).toArray.setIfInBounds X.length v = ((X ++ [v]) ++ M ++ B).toArray := by
      simp [List.set_append]
    rw [e, show X.length + 1 = (X ++ [v]).length by simp, setMany_list' (X ++ [v]) B vs M (by simpa using h)]
    simp
  where
  setMany_list' (X B : List Value) : ∀ (vs M : List Value), vs.length = M.length → setMany (X ++ M ++ B).toArray X.length vs = (X ++ vs ++ B).toArray
  | [], M, h => by
    obtain rfl : M = [] := List.eq_nil_of_length_eq_zero (by simpa using h.symm)
    rfl
  | v :: vs, [], h => by simp at h
  | v :: vs, m :: M, h => by
    rw [setMany]
    have e : (X ++ m :: M ++ B).toArray.setIfInBounds X.length v = ((X ++ [v]) ++ M ++ B).toArray := by
      simp [List.set_append]
    rw [e, show X.length + 1 = (X ++ [v]).length by simp, setMany_list' (X ++ [v]) B vs M (by simpa using h)]
    simp

/-- A run of elements laid into the row. -/
theorem SWK_put {w0 W : World} {blk off : Nat} {A M B Y : List α} (hk : ∀ x, (enc x).length = k) (hblk : blk < w0.heap.size) (S : SWK enc k w0 blk off (A ++ M ++ B).toArray W) (hl : Y.length = M.length) :
    SWK enc k w0 blk off (A ++ Y ++ B).toArray (W.setCells blk (off + A.length * k) (Y.flatMap enc)) := by
  obtain ⟨n, os, rfl⟩ := S
  refine ⟨n, os, ?_⟩
  unfold sortWorldK putRowK
  rw [setCells_grow os blk _ _ _ (by show blk < (putRowK enc k _ blk off _).heap.size; rw [size_putRowK]; exact hblk)]
  congr 1
  rw [setCells_putRow _ _ _ _ _ _ (by rw [flatK_list hk]; simp only [List.size_toArray]; rw [len_flat hk, len_flat hk]; simp only [List.length_append, hl, Nat.add_mul]; omega)]
  congr 1
  rw [flatK_list hk, flatK_list hk, List.flatMap_append, List.flatMap_append, List.flatMap_append, List.flatMap_append, ← len_flat hk A]
  exact setMany_list _ _ _ _ (by rw [len_flat hk, len_flat hk, hl])

/-- What append's words say of a row, in the sorts' words. -/
theorem holdsK_of_own {w : World} {base e g n cap : Nat} {l : List α} (hk : ∀ x, (enc x).length = k) (h : w.ownsRow base e k (.slice (some ⟨g, 0, none⟩) n cap) l.length (l.flatMap enc)) (hn : n = l.length) :
    HoldsK enc k w g 0 l.toArray ∧ g < w.heap.size ∧ base ≤ g ∧ l.length ≤ cap := by
  obtain ⟨_, h2⟩ := h
  rcases h2 with ⟨h, _⟩ | ⟨g', cap', cur, hv, hb, hg, h1, h3, h4, h5⟩
  · cases h
  · cases hv
    refine ⟨?_, (Array.getElem?_eq_some_iff.1 hg).1, hb, h1⟩
    unfold HoldsK
    rw [flatK_list hk]
    intro j hj
    have hj' : j < l.length * k := by simpa [len_flat hk] using hj
    refine ⟨?_, by simp [World.frozen?, hg]⟩
    have h6 : (cur.toList.take (l.length * k))[j]? = (l.flatMap enc)[j]? := by rw [h5]
    rw [List.getElem?_take_of_lt hj'] at h6
    simp only [World.cell?, hg, Nat.zero_add]
    simp only [Option.isSome_none, Bool.false_eq_true, if_false]
    rw [← Array.getElem?_toList, h6]
    have h7 : j < (l.flatMap enc).length := by rw [len_flat hk]; exact hj'
    generalize l.flatMap enc = X at h7 ⊢
    rw [List.getElem?_eq_getElem h7]
    simp [h7]

theorem heap_sortWorldK {w : World} {g n : Nat} {os : Array Obj} {cur : Array Value} {e : TypeId} {fr : Nat × Nat} (d : Array α) (hb : w.heap[g]? = some (.cells cur e fr)) :
    (sortWorldK enc k w g 0 n d os).heap[g]? = some (.cells (putCells id 0 (flatK enc k d) cur) e fr) := by
  have hg : g < w.heap.size := (Array.getElem?_eq_some_iff.1 hb).1
  unfold sortWorldK
  rw [heap_grow_old _ _ (by rw [size_putRowK]; exact hg)]
  simp [putRowK, putRow, mapBlock, Sort.ahead, Array.getElem?_modify, hb, onCells]

/-- Behind a sort, a Compact: the slice (cut to the first elements, it may be) owns them. -/
theorem own_of_SWK {w w' : World} {base e g n cap : Nat} {l C Z : List α} (hk : ∀ x, (enc x).length = k) (h : w.ownsRow base e k (.slice (some ⟨g, 0, none⟩) n cap) l.length (l.flatMap enc))
    (S : SWK enc k w g 0 (C ++ Z).toArray w') (hl : C.length + Z.length = l.length) : w'.ownsRow base e k (.slice (some ⟨g, 0, none⟩) C.length cap) C.length (C.flatMap enc) := by
  obtain ⟨_, h2⟩ := h
  rcases h2 with ⟨h, _⟩ | ⟨g', cap', cur, hv, hb, hg, h1, h3, h4, h5⟩
  · cases h
  · cases hv
    obtain ⟨m, os, rfl⟩ := S
    refine ⟨len_flat hk C, .inr ⟨g, cap, _, rfl, hb, heap_sortWorldK _ hg, by omega, h3, by simp [putCells, h4], ?_⟩⟩
    rw [flatK_list hk, List.flatMap_append]
    have hc : (C.flatMap enc).length = C.length * k := len_flat hk C
    have hz : (Z.flatMap enc).length = Z.length * k := len_flat hk Z
    have hcur : C.length * k + Z.length * k ≤ cur.size := by
      rw [h4, ← Nat.add_mul]; exact Nat.mul_le_mul_right k (by omega)
    generalize C.flatMap enc = X at *
    generalize Z.flatMap enc = Y at *
    apply List.ext_getElem?
    intro j
    by_cases hj : j < C.length * k
    · rw [List.getElem?_take_of_lt hj, Array.getElem?_toList]
      have q1 : j < cur.size := by omega
      have q2 : j < X.length := by omega
      have q3 : j < X.length + Y.length := by omega
      rw [List.getElem?_eq_getElem q2]
      simp [putCells, q1, q3]
      exact List.getElem_append_left q2
    · rw [List.getElem?_take_eq_none (by omega), List.getElem?_eq_none (by omega)]

omit [Inhabited α] in
theorem reps_flat (hk : ∀ x, (enc x).length = k) (R : α → List Value → Prop) (hR : ∀ x, R x (enc x)) (l : List α) : Reps R k l (l.flatMap enc) := by
  refine ⟨len_flat hk l, ?_⟩
  induction l with
  | nil => intro j p h; simp at h
  | cons x l ih =>
    intro j p h
    cases j with
    | zero =>
      obtain rfl : x = p := by simpa using h
      rw [Nat.zero_mul, List.drop_zero, List.flatMap_cons, ← hk x, List.take_left']
      · exact hR x
      · rfl
    | succ j =>
      have e : (j + 1) * k = (enc x).length + j * k := by rw [hk, Nat.add_mul, Nat.one_mul, Nat.add_comm]
      rw [e, List.flatMap_cons, List.drop_append]
      have e2 : List.drop ((enc x).length + j * k) (enc x) = [] := List.drop_eq_nil_of_le (by omega)
      rw [e2, List.nil_append, Nat.add_sub_cancel_left]
      exact ih j p (by simpa using h)

omit [Inhabited α] in
theorem reps_flat_eq (hk : ∀ x, (enc x).length = k) (R : α → List Value → Prop) (hR : ∀ x cs, R x cs → cs = enc x) : ∀ (l : List α) (cs : List Value), Reps R k l cs → cs = l.flatMap enc
  | [], cs, h => by
    have := h.1
    simp at this
    simpa using this
  | x :: l, cs, h => by
    have h0 := hR _ _ (h.2 0 x (by simp))
    rw [Nat.zero_mul, List.drop_zero] at h0
    have hl := h.1
    have ht : Reps R k l (cs.drop k) := by
      refine ⟨by rw [List.length_drop, hl, List.length_cons, Nat.add_mul, Nat.one_mul, Nat.add_sub_cancel], fun j p hj => ?_⟩
      have h2 := h.2 (j + 1) p (by simpa using hj)
      rwa [Nat.add_mul, Nat.one_mul, Nat.add_comm, ← List.drop_drop] at h2
    rw [List.flatMap_cons, ← reps_flat_eq hk R hR l _ ht, ← h0, List.take_append_drop]

omit [Inhabited α] in
/-- From the row's cells to the print's word. -/
theorem R_of_flat {d : Kd α} {e base : Nat} {w : World} {v : Value} {l : List α} (hk : ∀ x, (enc x).length = k) (hs : d.sz = k) (hM : ∀ w base ok x, d.M w base ok x (enc x)) (h : w.ownsRow base e k v l.length (l.flatMap enc)) :
    Kd.R d e w base (fun _ => True) v l := by
  subst hs
  exact ⟨fun _ _ => trivial, _, h, reps_flat hk _ (fun x => hM _ _ _ x) l⟩

omit [Inhabited α] in
/-- .. and back. -/
theorem flat_of_R {d : Kd α} {e base : Nat} {w : World} {v : Value} {l : List α} {ok : Nat → Prop} (hk : ∀ x, (enc x).length = k) (hs : d.sz = k) (hM : ∀ w base ok x cs, d.M w base ok x cs → cs = enc x) (h : Kd.R d e w base ok v l) :
    w.ownsRow base e k v l.length (l.flatMap enc) := by
  subst hs
  obtain ⟨_, inner, ho, hr⟩ := h
  rw [← reps_flat_eq hk _ (fun x cs => hM _ _ _ x cs) l inner hr]
  exact ho
end

/-- 'clear(s)', s a row of n > 0 structs. -/
theorem run_clear_structs {P : Program} (w : World) (t e ty : TypeId) (z : Value) (ht : P.underlying t = some (.slice e)) (hv : ∀ w, (zeroValue e).run P w = .ok z w) (h1 : ∀ v ∈ z.cells.toList, v.oneCell' = true) (b o n c : Nat) (hn : 0 < n)
    (hc : ∀ j, j < n * z.cells.size → (w.cell? ⟨b, o + j, none⟩).isSome = true) (hf : ∀ j, j < n * z.cells.size → w.frozen? ⟨b, o + j, none⟩ = false) :
    (Builtin.clear_ #[t] ty #[.slice (some ⟨b, o, none⟩) n c]).run P w = .ok (.tuple #[]) (w.setCells b o (List.replicate n z.cells.toList).flatten) := by
  have hzc : (Builtin.zeroCells z.cells n).toList = (List.replicate n z.cells.toList).flatten := by
    have h2 := flatK_list (enc := fun _ : Unit => z.cells.toList) (k := z.cells.size) (fun _ => by simp) (List.replicate n ())
    have h3 : (List.replicate n ()).flatMap (fun _ => z.cells.toList) = (List.replicate n z.cells.toList).flatten := by
      rw [List.flatMap_def, List.map_replicate]
    rw [h3] at h2
    have h4 : Builtin.zeroCells z.cells n = flatK (fun _ : Unit => z.cells.toList) z.cells.size (List.replicate n ()).toArray := by
      unfold Builtin.zeroCells flatK
      simp
      intro a _
      rw [getElem!_def]
      cases z.cells[a % z.cells.size]? <;> rfl
    rw [h4, h2]
  have hst := run_storeCells_cells (P := P) b o (List.replicate n z.cells.toList).flatten 0 w (by simpa using hc) (by simpa using hf) (by
    intro v hv'
    obtain ⟨l, hl, hv2⟩ := List.mem_flatten.1 hv'
    rw [List.eq_of_mem_replicate hl] at hv2
    exact h1 v hv2)
  simp only [Nat.add_zero] at hst
  obtain ⟨m, rfl⟩ : ∃ m, n = m + 1 := ⟨n - 1, by omega⟩
  simp [Builtin.clear_, run_underlying ht, hv, hzc, hst]
end Go.Proofs.Ytgdmdhhihoifkaa.Pr

namespace Go.Proofs.Ytgdmdhhihoifkaa.Pr
end Go.Proofs.Ytgdmdhhihoifkaa.Pr

namespace Go.Proofs.Ytgdmdhhihoifkaa.Pr
open Go.Shelf Go.RowKit Go.Lib Go.Sort Go.Proofs.Ytgdmdhhihoifkaa
open Go.Proofs.YtgdmdhhihoifkaaW.PrintWords Go.Proofs.YtgdmdhhihoifkaaW.PrintLast Go.Proofs.YtgdmdhhihoifkaaW.PrintMore
section
variable {ops : Array Oper} {rest : List Oper} {o : Oper} {a : Act} {Q : Exit → Act → World → Prop}
theorem app_T {w0 W : World} (base : Nat) (hgd : o.guard = none) (s x : Operand) (ho : o.op = .call { callee := .builtin .append, args := #[s, x], argTypes := #[34, 34] })
    (v : Value) (xs : List T) (p : T) (hs : a.eval s = v) (hx : a.eval x = .slice (some ⟨W.heap.size, 0, none⟩) 1 1) (HO : Kd.R k25 25 W base (fun _ => True) v xs) (HB : Below base w0 W) (hbase : base ≤ W.heap.size) (hl : xs.length < 4294967296)
    (h : ∀ v1 w1, Kd.R k25 25 w1 base (fun _ => True) v1 (xs ++ [p]) → Below base w0 w1 → W.grownBy w1 v.ownBlock → (v1.ownBlock = v.ownBlock ∨ ∃ b, v1.ownBlock = some b ∧ W.heap.size ≤ b) → wpList Try.prog ops Q rest (a.put o.dst v1) w1) :
    wpList Try.prog ops Q (o :: rest) a (W.alloc (.cells #[.string p.f0, .string p.f1, .string p.f2] 25)) :=
  Kd.R_append k25 (w0 := w0) base hgd s x 34 25 _ _ ho Try.underlying34 info25 rfl (by decide) (by omega) v xs p [.string p.f0, .string p.f1, .string p.f2] (fun _ => True) (fun _ => False) hs hx (k25_mkM _ _ _ p) (fun _ hk => hk.elim) (fun _ _ => trivial) HO HB hbase (by omega) h
theorem app_Mu {w0 W : World} (base : Nat) (hgd : o.guard = none) (s x : Operand) (ho : o.op = .call { callee := .builtin .append, args := #[s, x], argTypes := #[43, 43] })
    (v : Value) (xs : List Mu) (p : Mu) (hs : a.eval s = v) (hx : a.eval x = .slice (some ⟨W.heap.size, 0, none⟩) 1 1) (HO : Kd.R k27 27 W base (fun _ => True) v xs) (HB : Below base w0 W) (hbase : base ≤ W.heap.size) (hl : xs.length < 4294967296)
    (h : ∀ v1 w1, Kd.R k27 27 w1 base (fun _ => True) v1 (xs ++ [p]) → Below base w0 w1 → W.grownBy w1 v.ownBlock → (v1.ownBlock = v.ownBlock ∨ ∃ b, v1.ownBlock = some b ∧ W.heap.size ≤ b) → wpList Try.prog ops Q rest (a.put o.dst v1) w1) :
    wpList Try.prog ops Q (o :: rest) a (W.alloc (.cells #[.bool p.f0, .string p.f1.f0, .string p.f1.f1, .string p.f1.f2] 27)) :=
  Kd.R_append k27 (w0 := w0) base hgd s x 43 27 _ _ ho Try.underlying43 info27 rfl (by decide) (by omega) v xs p [.bool p.f0, .string p.f1.f0, .string p.f1.f1, .string p.f1.f2] (fun _ => True) (fun _ => False) hs hx (k27_mkM _ _ _ p) (fun _ hk => hk.elim) (fun _ _ => trivial) HO HB hbase (by omega) h
theorem app_Ch {w0 W : World} (base : Nat) (hgd : o.guard = none) (s x : Operand) (ho : o.op = .call { callee := .builtin .append, args := #[s, x], argTypes := #[22, 22] })
    (v : Value) (xs : List Ch) (p : Ch) (hs : a.eval s = v) (hx : a.eval x = .slice (some ⟨W.heap.size, 0, none⟩) 1 1) (HO : Kd.R k29 29 W base (fun _ => True) v xs) (HB : Below base w0 W) (hbase : base ≤ W.heap.size) (hl : xs.length < 2147483648)
    (h : ∀ v1 w1, Kd.R k29 29 w1 base (fun _ => True) v1 (xs ++ [p]) → Below base w0 w1 → W.grownBy w1 v.ownBlock → (v1.ownBlock = v.ownBlock ∨ ∃ b, v1.ownBlock = some b ∧ W.heap.size ≤ b) → wpList Try.prog ops Q rest (a.put o.dst v1) w1) :
    wpList Try.prog ops Q (o :: rest) a (W.alloc (.cells #[.int .i64 p.f0, .bool p.f1.f0, .string p.f1.f1.f0, .string p.f1.f1.f1, .string p.f1.f1.f2] 29)) :=
  Kd.R_append k29 (w0 := w0) base hgd s x 22 29 _ _ ho Try.underlying22 info29 rfl (by decide) (by omega) v xs p [.int .i64 p.f0, .bool p.f1.f0, .string p.f1.f1.f0, .string p.f1.f1.f1, .string p.f1.f1.f2] (fun _ => True) (fun _ => False) hs hx (k29_mkM _ _ _ p) (fun _ hk => hk.elim) (fun _ _ => trivial) HO HB hbase (by omega) h
theorem app_Ro {w0 W : World} (base : Nat) (hgd : o.guard = none) (s x : Operand) (ho : o.op = .call { callee := .builtin .append, args := #[s, x], argTypes := #[30, 30] })
    (v : Value) (xs : List Ro) (p : Ro) (hs : a.eval s = v) (hx : a.eval x = .slice (some ⟨W.heap.size, 0, none⟩) 1 1) (HO : Kd.R k51 51 W base (fun _ => True) v xs) (HB : Below base w0 W) (hbase : base ≤ W.heap.size) (hl : xs.length < 2147483648)
    (h : ∀ v1 w1, Kd.R k51 51 w1 base (fun _ => True) v1 (xs ++ [p]) → Below base w0 w1 → W.grownBy w1 v.ownBlock → (v1.ownBlock = v.ownBlock ∨ ∃ b, v1.ownBlock = some b ∧ W.heap.size ≤ b) → wpList Try.prog ops Q rest (a.put o.dst v1) w1) :
    wpList Try.prog ops Q (o :: rest) a (W.alloc (.cells #[.string p.f0.f0, .string p.f0.f1, .string p.f0.f2, .int .i64 p.f1, .int .i64 p.f2] 51)) :=
  Kd.R_append k51 (w0 := w0) base hgd s x 30 51 _ _ ho Try.underlying30 info51 rfl (by decide) (by omega) v xs p [.string p.f0.f0, .string p.f0.f1, .string p.f0.f2, .int .i64 p.f1, .int .i64 p.f2] (fun _ => True) (fun _ => False) hs hx (k51_mkM _ _ _ p) (fun _ hk => hk.elim) (fun _ _ => trivial) HO HB hbase (by omega) h
end

/-! ### the print's word and the flat word -/
theorem R_T {e base : Nat} {w : World} {v : Value} {l : List T} (h : w.ownsRow base e 3 v l.length (l.flatMap enT)) : Kd.R k25 e w base (fun _ => True) v l := R_of_flat (enc := enT) (fun _ => rfl) rfl (fun w b ok x => k25_mkM w b ok x) h
theorem R_Mu {e base : Nat} {w : World} {v : Value} {l : List Mu} (h : w.ownsRow base e 4 v l.length (l.flatMap enMu)) : Kd.R k27 e w base (fun _ => True) v l := R_of_flat (enc := enMu) (fun _ => rfl) rfl (fun w b ok x => k27_mkM w b ok x) h
theorem R_Ch {e base : Nat} {w : World} {v : Value} {l : List Ch} (h : w.ownsRow base e 5 v l.length (l.flatMap enCh)) : Kd.R k29 e w base (fun _ => True) v l := R_of_flat (enc := enCh) (fun _ => rfl) rfl (fun w b ok x => k29_mkM w b ok x) h
theorem R_Ro {e base : Nat} {w : World} {v : Value} {l : List Ro} (h : w.ownsRow base e 5 v l.length (l.flatMap enRo)) : Kd.R k51 e w base (fun _ => True) v l := R_of_flat (enc := enRo) (fun _ => rfl) rfl (fun w b ok x => k51_mkM w b ok x) h
theorem fl_T {e base : Nat} {w : World} {v : Value} {l : List T} {ok : Nat → Prop} (h : Kd.R k25 e w base ok v l) : w.ownsRow base e 3 v l.length (l.flatMap enT) := flat_of_R (fun _ => rfl) rfl (fun _ _ _ _ _ h => k25_openM h) h
theorem fl_Mu {e base : Nat} {w : World} {v : Value} {l : List Mu} {ok : Nat → Prop} (h : Kd.R k27 e w base ok v l) : w.ownsRow base e 4 v l.length (l.flatMap enMu) := flat_of_R (fun _ => rfl) rfl (fun _ _ _ _ _ h => k27_openM h) h
theorem fl_Ch {e base : Nat} {w : World} {v : Value} {l : List Ch} {ok : Nat → Prop} (h : Kd.R k29 e w base ok v l) : w.ownsRow base e 5 v l.length (l.flatMap enCh) := flat_of_R (fun _ => rfl) rfl (fun _ _ _ _ _ h => k29_openM h) h
theorem fl_Ro {e base : Nat} {w : World} {v : Value} {l : List Ro} {ok : Nat → Prop} (h : Kd.R k51 e w base ok v l) : w.ownsRow base e 5 v l.length (l.flatMap enRo) := flat_of_R (fun _ => rfl) rfl (fun _ _ _ _ _ h => k51_openM h) h

/-! ### an element that is read -/
theorem el_T {w : World} {A : Option Addr} {n : Nat} {xs : List T} (h : Kd.C k25 w A n xs) (hn : xs.length = n) (i : Nat) (hi : i < n) : ∃ ad x, A = some ad ∧ xs[i]? = some x ∧ w.cell? (ad.add (i * 3)) = some (.string x.f0) ∧ w.cell? ⟨(ad.add (i * 3)).block, (ad.add (i * 3)).off + 1, none⟩ = some (.string x.f1) ∧ w.cell? ⟨(ad.add (i * 3)).block, (ad.add (i * 3)).off + 2, none⟩ = some (.string x.f2) := by
  obtain ⟨ad, e, h0, h1, h2⟩ := at_T25 h i (by omega) (by omega)
  exact ⟨ad, rd_T25 xs i, e, by simp [rd_T25, hn, hi], h0, h1, h2⟩
theorem el_Ch {w : World} {A : Option Addr} {n : Nat} {xs : List Ch} (h : Kd.C k29 w A n xs) (hn : xs.length = n) (i : Nat) (hi : i < n) : ∃ ad x, A = some ad ∧ xs[i]? = some x ∧ w.cell? (ad.add (i * 5)) = some (.int .i64 x.f0) ∧ w.cell? ⟨(ad.add (i * 5)).block, (ad.add (i * 5)).off + 1, none⟩ = some (.bool x.f1.f0) ∧ w.cell? ⟨(ad.add (i * 5)).block, (ad.add (i * 5)).off + 2, none⟩ = some (.string x.f1.f1.f0) ∧ w.cell? ⟨(ad.add (i * 5)).block, (ad.add (i * 5)).off + 3, none⟩ = some (.string x.f1.f1.f1) ∧ w.cell? ⟨(ad.add (i * 5)).block, (ad.add (i * 5)).off + 4, none⟩ = some (.string x.f1.f1.f2) := by
  obtain ⟨ad, e, h0, h1, h2, h3, h4⟩ := at_T29 h i (by omega) (by omega)
  exact ⟨ad, rd_T29 xs i, e, by simp [rd_T29, hn, hi], h0, h1, h2, h3, h4⟩
theorem el_Ro {w : World} {A : Option Addr} {n : Nat} {xs : List Ro} (h : Kd.C k51 w A n xs) (hn : xs.length = n) (i : Nat) (hi : i < n) : ∃ ad x, A = some ad ∧ xs[i]? = some x ∧ w.cell? (ad.add (i * 5)) = some (.string x.f0.f0) ∧ w.cell? ⟨(ad.add (i * 5)).block, (ad.add (i * 5)).off + 1, none⟩ = some (.string x.f0.f1) ∧ w.cell? ⟨(ad.add (i * 5)).block, (ad.add (i * 5)).off + 2, none⟩ = some (.string x.f0.f2) ∧ w.cell? ⟨(ad.add (i * 5)).block, (ad.add (i * 5)).off + 3, none⟩ = some (.int .i64 x.f1) ∧ w.cell? ⟨(ad.add (i * 5)).block, (ad.add (i * 5)).off + 4, none⟩ = some (.int .i64 x.f2) := by
  obtain ⟨ad, e, h0, h1, h2, h3, h4⟩ := at_T51 h i (by omega) (by omega)
  exact ⟨ad, rd_T51 xs i, e, by simp [rd_T51, hn, hi], h0, h1, h2, h3, h4⟩
theorem cell_below {w w' : World} (h : Below w.heap.size w w') {a : Addr} {v : Value} (hc : w.cell? a = some v) : w'.cell? a = some v := (h.cell (World.block_lt_of_cell? w a hc)).trans hc
theorem take_step {α : Type} (l : List α) (i : Nat) (x : α) (h : l[i]? = some x) : l.take (i + 1) = l.take i ++ [x] := by
  rw [List.take_add_one, h]; rfl
theorem lt_of_get {α : Type} {l : List α} {i : Nat} {x : α} (h : l[i]? = some x) : i < l.length := by
  by_cases hi : i < l.length
  · exact hi
  · rw [List.getElem?_eq_none (by omega)] at h; cases h
end Go.Proofs.Ytgdmdhhihoifkaa.Pr

namespace Go.Proofs.Ytgdmdhhihoifkaa.Pr
open Go.ChangeShapes Go.WideShapes Go.ChangeAt Go.RowKit Go.Deep
open Go.Proofs.YtgdmdhhihoifkaaW.PrintWords Go.Proofs.YtgdmdhhihoifkaaW.PrintLast Go.Proofs.YtgdmdhhihoifkaaW.PrintMore

theorem bulk_one {H : Type} (d : DataW H) : 1 ≤ Rows.uptoBulk d := by
  cases d with
  | lit l => cases l <;> simp [Rows.uptoBulk]
  | nil => simp [Rows.uptoBulk]
  | ptr d => simp [Rows.uptoBulk]
  | slice elems spare => simp [Rows.uptoBulk]
  | agg parts => simp [Rows.uptoBulk]
  | iface t d => simp [Rows.uptoBulk]
  | map entries => simp [Rows.uptoBulk]
  | held h => simp [Rows.uptoBulk]
theorem bulk_len {H : Type} (l : List (DataW H)) : l.length ≤ Rows.uptoBulkAll l := by
  induction l with
  | nil => simp [Rows.uptoBulkAll]
  | cons x r ih => have := bulk_one x; simp only [Rows.uptoBulkAll, List.length_cons]; omega
theorem bulk_slice {H : Type} (elems spare : List (DataW H)) : elems.length ≤ Rows.uptoBulk (.slice elems spare) := by
  have h1 := bulk_len elems
  simp only [Rows.uptoBulk]
  omega
theorem bulk_mem {H : Type} {d : DataW H} {l : List (DataW H)} (h : d ∈ l) : Rows.uptoBulk d ≤ Rows.uptoBulkAll l := by
  induction l with
  | nil => cases h
  | cons x r ih =>
    simp only [Rows.uptoBulkAll]
    cases List.mem_cons.1 h with
    | inl e => subst e; omega
    | inr e => have := ih e; omega

section
variable {H : Type} {enc : TypeId × Value → H} {W : World}
set_option maxRecDepth 100000 in
theorem el_of_T {base : Nat} {sp : Nat → Bool} {hd : Bool} {fuel : Nat} {cs : List Value} {x : DataW H × List MemPlace} (h : DataW.trod enc Try.prog W base sp hd fuel 25 cs = some x) : ∃ y : T, cs = enT y := by
  obtain ⟨xs, n, _, _, hcl, hxl, hg⟩ := DataW.trod_struct Try.underlying25 h
  have c9 : Try.prog.cellsOf 9 = 1 := by kernel_rfl
  rw [show Try.prog.cellsOf 25 = 3 by kernel_rfl] at hcl
  match cs, hcl, xs, hxl with
  | [c0, c1, c2], _, [y0, y1, y2], _ =>
    have g0 : DataW.trod enc Try.prog W base sp hd n 9 [c0] = some y0 := by have this : DataW.trod enc Try.prog W base sp hd n 9 ((List.drop 0 [c0, c1, c2]).take (Try.prog.cellsOf 9)) = [y0, y1, y2][0]? := hg 0 _ rfl; rw [c9] at this; exact this
    have g1 : DataW.trod enc Try.prog W base sp hd n 9 [c1] = some y1 := by have this : DataW.trod enc Try.prog W base sp hd n 9 ((List.drop 1 [c0, c1, c2]).take (Try.prog.cellsOf 9)) = [y0, y1, y2][1]? := hg 1 _ rfl; rw [c9] at this; exact this
    have g2 : DataW.trod enc Try.prog W base sp hd n 9 [c2] = some y2 := by have this : DataW.trod enc Try.prog W base sp hd n 9 ((List.drop 2 [c0, c1, c2]).take (Try.prog.cellsOf 9)) = [y0, y1, y2][2]? := hg 2 _ rfl; rw [c9] at this; exact this
    obtain ⟨s0, e0, _⟩ := DataW.trod_string Try.underlying9 g0
    obtain ⟨s1, e1, _⟩ := DataW.trod_string Try.underlying9 g1
    obtain ⟨s2, e2, _⟩ := DataW.trod_string Try.underlying9 g2
    refine ⟨⟨s0, s1, s2⟩, ?_⟩
    injection e0 with e0
    injection e1 with e1
    injection e2 with e2
    rw [e0, e1, e2]; rfl
set_option maxRecDepth 100000 in
theorem el_of_Ch {base : Nat} {sp : Nat → Bool} {hd : Bool} {fuel : Nat} {cs : List Value} {x : DataW H × List MemPlace} (h : DataW.trod enc Try.prog W base sp hd fuel 29 cs = some x) : ∃ y : Ch, cs = enCh y := by
  obtain ⟨xs, n, _, _, hcl, hxl, hg⟩ := DataW.trod_struct Try.underlying29 h
  have c9 : Try.prog.cellsOf 2 = 1 := by kernel_rfl
  have c27 : Try.prog.cellsOf 27 = 4 := by kernel_rfl
  have cb : Try.prog.cellsOf 4 = 1 := by kernel_rfl
  have c25 : Try.prog.cellsOf 25 = 3 := by kernel_rfl
  rw [show Try.prog.cellsOf 29 = 5 by kernel_rfl] at hcl
  match cs, hcl, xs, hxl with
  | [c0, c1, c2, c3, c4], _, [y0, y1], _ =>
    have g0 : DataW.trod enc Try.prog W base sp hd n 2 [c0] = some y0 := by have this : DataW.trod enc Try.prog W base sp hd n 2 ((List.drop 0 [c0, c1, c2, c3, c4]).take (Try.prog.cellsOf 2)) = [y0, y1][0]? := hg 0 _ rfl; rw [c9] at this; exact this
    have g1 : DataW.trod enc Try.prog W base sp hd n 27 [c1, c2, c3, c4] = some y1 := by have this : DataW.trod enc Try.prog W base sp hd n 27 ((List.drop 1 [c0, c1, c2, c3, c4]).take (Try.prog.cellsOf 27)) = [y0, y1][1]? := hg 1 _ rfl; rw [c27] at this; exact this
    obtain ⟨xs', n', _, _, _, hxl', hg'⟩ := DataW.trod_struct Try.underlying27 g1
    match xs', hxl' with
    | [z0, z1], _ =>
      have f0 : DataW.trod enc Try.prog W base sp hd n' 4 [c1] = some z0 := by have this : DataW.trod enc Try.prog W base sp hd n' 4 ((List.drop 0 [c1, c2, c3, c4]).take (Try.prog.cellsOf 4)) = [z0, z1][0]? := hg' 0 _ rfl; rw [cb] at this; exact this
      have f1 : DataW.trod enc Try.prog W base sp hd n' 25 [c2, c3, c4] = some z1 := by have this : DataW.trod enc Try.prog W base sp hd n' 25 ((List.drop 1 [c1, c2, c3, c4]).take (Try.prog.cellsOf 25)) = [z0, z1][1]? := hg' 1 _ rfl; rw [c25] at this; exact this
      obtain ⟨t, e0⟩ := el_of_T f1
      obtain ⟨s1, e1, _⟩ := DataW.trod_int Try.underlying2 g0
      obtain ⟨b, e2, _⟩ := DataW.trod_bool Try.underlying4 f0
      refine ⟨⟨s1, ⟨b, t⟩⟩, ?_⟩
      injection e1 with e1
      injection e2 with e2
      rw [e1, e2, e0]; rfl

/-- A slice of structs of k cells that came in. -/
theorem open_gen {α : Type} [Inhabited α] {enc1 : α → List Value} {k : Nat} {t e : TypeId} (ht : Try.prog.underlying t = some (.slice e)) (hk : Try.prog.cellsOf e = k) (hlen : ∀ y, (enc1 y).length = k)
    (hel : ∀ {base : Nat} {sp : Nat → Bool} {hd : Bool} {fuel : Nat} {cs : List Value} {x : DataW H × List MemPlace}, DataW.trod enc Try.prog W base sp hd fuel e cs = some x → ∃ y : α, cs = enc1 y)
    {a : Option Addr} {len cap : Nat} {d : DataW H} {p : List MemPlace} {sp : Nat → Bool} {hd : Bool} (h : DataW.Trod enc Try.prog W 0 sp hd t (.slice a len cap) d p) :
    ∃ l : List α, l.length = len ∧ len ≤ cap ∧ len ≤ maxLen ∧ len ≤ Rows.uptoBulk d ∧ (0 < len → ∃ ad, a = some ad ∧ ∀ j y, l[j]? = some y → ∀ i u, (enc1 y)[i]? = some u → W.cell? (ad.add (j * k + i)) = some u) := by
  obtain ⟨fuel, hf⟩ := h
  rcases open_slice ht hf with ⟨hcs, _⟩ | ⟨a', len', cap', m, n, D, Pl, hcs, _, hl, hm, hmm, hx, hi⟩
  · simp [Value.cells] at hcs
    obtain ⟨rfl, rfl, rfl⟩ := hcs
    exact ⟨[], rfl, Nat.le_refl _, Nat.zero_le _, Nat.zero_le _, fun h => absurd h (Nat.lt_irrefl _)⟩
  · simp [Value.cells] at hcs
    obtain ⟨rfl, rfl, rfl⟩ := hcs
    have hle : len ≤ m := by rw [hmm]; split <;> omega
    have key : ∀ i, ∃ y : α, i < m → ∀ j u, (enc1 y)[j]? = some u → W.cell? (a'.add (i * k + j)) = some u := by
      intro i
      by_cases him : i < m
      · obtain ⟨cs', hc, ht'⟩ := hi i him
        obtain ⟨y, hy⟩ := hel ht'
        refine ⟨y, fun _ j u hu => ?_⟩
        obtain ⟨_, hcl, hat⟩ := World.cells?_some hc
        rw [hk] at hat hcl
        have hj : j < k := by
          have := (List.getElem?_eq_some_iff.1 hu).1
          rw [hlen] at this; exact this
        have := hat j hj
        rw [← Go.Deep.add_add, this, hy]
        exact hu
      · exact ⟨default, fun h => absurd h him⟩
    obtain ⟨f, hf2⟩ := Classical.axiomOfChoice key
    have hd : len ≤ Rows.uptoBulk d := by
      have h1 := congrArg Prod.fst hx
      dsimp only at h1
      rw [h1]
      have := bulk_slice (List.map D (List.range len)) (List.map (fun j => D (len + j)) (List.range (m - len)))
      simpa using this
    refine ⟨(List.range len).map f, by simp, hl, Nat.le_trans hl hm, hd, fun _ => ⟨a', rfl, fun j y hy i u hu => ?_⟩⟩
    rw [List.getElem?_map] at hy
    obtain ⟨q, hq, rfl⟩ := Option.map_eq_some_iff.1 hy
    have hj : j < len := by have := lt_of_get hq; simpa using this
    obtain rfl : q = j := by rw [List.getElem?_range hj] at hq; exact (Option.some.inj hq).symm
    exact hf2 q (by omega) i u hu
theorem open_Ch {a : Option Addr} {len cap : Nat} {d : DataW H} {p : List MemPlace} {sp : Nat → Bool} {hd : Bool} (h : DataW.Trod enc Try.prog W 0 sp hd 22 (.slice a len cap) d p) :
    ∃ l : List Ch, l.length = len ∧ len ≤ cap ∧ len ≤ Rows.uptoBulk d ∧ Kd.C k29 W a len l := by
  obtain ⟨l, h1, h2, h3, h4, h5⟩ := open_gen (α := Ch) (enc1 := enCh) (k := 5) Try.underlying22 (by kernel_rfl) (fun _ => rfl) el_of_Ch h
  refine ⟨l, h1, h2, h4, h1, h3, fun h0 => ?_⟩
  obtain ⟨ad, ha, hc⟩ := h5 h0
  exact ⟨ad, ha, fun j y hy => ⟨enCh y, rfl, k29_mk W y, hc j y hy⟩⟩
end
end Go.Proofs.Ytgdmdhhihoifkaa.Pr

namespace Go.Proofs.Ytgdmdhhihoifkaa.Pr
open Go.Proofs.Ytgdmdhhihoifkaa Go.Sort

theorem msort_self {α : Type} {lt : α → α → Bool} (hS : SWO lt) {l : List α} (h : SortedL lt l) : msort lt l = l := (eq_msort hS h (Stab.refl l)).symm
theorem swoT : SWO ltT := cmp_T.swo
theorem swoCh : SWO ltCh := cmp_Ch.swo
theorem swoRo : SWO ltRo := cmp_Ro.swo
theorem msort_len {α : Type} {lt : α → α → Bool} (l : List α) : (msort lt l).length = l.length := (msort_perm lt l).length_eq

theorem tiny_of {n : Nat} (h : n ≤ 1073741824) : tiny n = true := decide_eq_true h
/-- What At hands back. -/
def atL (l : List Ro) (a : Int) : List T := compactL (msort ltT ((l.filter (thereAt a)).map (·.f0)))
theorem At_eq (l : List Ro) (a : Int) (hl : l.length ≤ 1073741824) : watch_At.f l a = some (atL l a) := by
  unfold watch_At.f atL
  rw [if_pos (tiny_of hl)]
end Go.Proofs.Ytgdmdhhihoifkaa.Pr

namespace Go.Proofs.Ytgdmdhhihoifkaa.Pr
open Go.Proofs.Ytgdmdhhihoifkaa Go.Sort Go.RowKit

def One (out : List Ro) : Prop := out.Pairwise (fun a b => ¬ (a.f0 = b.f0 ∧ a.f2 = 0 ∧ b.f2 = 0))
theorem openAt_iff {t : T} {r : Ro} : openAt t r = true ↔ r.f0 = t ∧ r.f2 = 0 := by unfold openAt; exact decide_eq_true_iff
theorem One.map {out : List Ro} (h : One out) (t : T) (x : Int) : One (out.map (fun r => if openAt t r = true then ⟨r.f0, r.f1, x⟩ else r)) := by
  unfold One
  rw [List.pairwise_map]
  refine h.imp ?_
  intro a b hab hq
  apply hab
  have key : ∀ r : Ro, (if openAt t r = true then (⟨r.f0, r.f1, x⟩ : Ro) else r).f0 = r.f0 ∧ ((if openAt t r = true then (⟨r.f0, r.f1, x⟩ : Ro) else r).f2 = 0 → r.f2 = 0) := by
    intro r
    by_cases ho : openAt t r = true
    · rw [if_pos ho]; exact ⟨rfl, fun _ => (openAt_iff.1 ho).2⟩
    · rw [if_neg ho]; exact ⟨rfl, id⟩
  rw [(key a).1, (key b).1] at hq
  exact ⟨hq.1, (key a).2 hq.2.1, (key b).2 hq.2.2⟩
theorem One.snoc {out : List Ro} (h : One out) (t : T) (x : Int) (hn : out.any (openAt t) = false) : One (out ++ [⟨t, x, 0⟩]) := by
  refine List.pairwise_append.2 ⟨h, by simp, ?_⟩
  intro a ha b hb
  simp at hb
  subst hb
  rintro ⟨h1, h2, _⟩
  have := List.any_eq_false.1 hn a ha
  exact this (openAt_iff.2 ⟨h1, h2⟩)
theorem One.next {out : List Ro} (h : One out) (c : Ch) : One (rowsDo out c) := by
  unfold rowsDo
  split
  · split
    · exact h.map _ _
    · exact h
  · rename_i hn
    split
    · exact h
    · exact h.snoc _ _ (by simpa using hn)
/-- None open, or one, at its place. -/
theorem open_cases {out : List Ro} (h : One out) (t : T) : (∀ r ∈ out, openAt t r = false) ∨ ∃ P r Q, out = P ++ r :: Q ∧ openAt t r = true ∧ (∀ r ∈ P, openAt t r = false) ∧ (∀ r ∈ Q, openAt t r = false) := by
  induction out with
  | nil => exact .inl (by simp)
  | cons x out ih =>
    have h' := List.pairwise_cons.1 h
    by_cases hx : openAt t x = true
    · refine .inr ⟨[], x, out, rfl, hx, by simp, fun r hr => ?_⟩
      cases hq : openAt t r with
      | false => rfl
      | true =>
        have a := openAt_iff.1 hx
        have b := openAt_iff.1 hq
        exact absurd ⟨a.1.trans b.1.symm, a.2, b.2⟩ (h'.1 r hr)
    · have hx' : openAt t x = false := by simpa using hx
      rcases ih h'.2 with hn | ⟨P, r, Q, he, ho, hP, hQ⟩
      · refine .inl fun r hr => ?_
        rcases List.mem_cons.1 hr with rfl | hr
        · exact hx'
        · exact hn r hr
      · refine .inr ⟨x :: P, r, Q, by rw [he]; rfl, ho, fun r hr => ?_, hQ⟩
        rcases List.mem_cons.1 hr with rfl | hr
        · exact hx'
        · exact hP r hr

end Go.Proofs.Ytgdmdhhihoifkaa.Pr

namespace Go.Proofs.Ytgdmdhhihoifkaa.Pr
open Go.RowKit Go.Proofs.YtgdmdhhihoifkaaW.PrintWords Go.Proofs.YtgdmdhhihoifkaaW.PrintLast Go.Proofs.YtgdmdhhihoifkaaW.PrintMore
attribute [local go_sem] max2_int min2_int max_two min_two max_three min_three max_four min_four   -- for this text's walks alone
set_option linter.unusedVariables false
set_option linter.unusedSimpArgs false

theorem eqA25 (d : Nat) (w : World) (x0 y0 : ByteArray) (x1 y1 : ByteArray) (x2 y2 : ByteArray) :
    (Op.equalIn (d + 2) 25 (.agg #[.string x0, .string x1, .string x2]) (.agg #[.string y0, .string y1, .string y2])).run Try.prog w = .ok (x0.toList == y0.toList && (x1.toList == y1.toList && (x2.toList == y2.toList))) w := by
  refine eqA_of Try.underlying25 (by kernel_rfl) ?_
  refine eqf_cons (by rfl) (by go_simp; rfl) (by go_simp; rfl) (by go_simp) ?_
  refine eqf_cons (by rfl) (by go_simp; rfl) (by go_simp; rfl) (by go_simp) ?_
  exact eqf_last (by rfl) (by go_simp; rfl) (by go_simp; rfl) (by go_simp)
end Go.Proofs.Ytgdmdhhihoifkaa.Pr

namespace Go.Proofs.Ytgdmdhhihoifkaa.Pr
open Go.Shelf Go.RowKit Go.Lib Go.Sort Go.Proofs.Ytgdmdhhihoifkaa
open Go.Proofs.YtgdmdhhihoifkaaW.PrintWords Go.Proofs.YtgdmdhhihoifkaaW.PrintLast Go.Proofs.YtgdmdhhihoifkaaW.PrintMore

theorem bl_beq (x y : ByteArray) : (x.toList == y.toList) = decide (x = y) := by
  rw [ByteArray.toList_eq, ByteArray.toList_eq]
  by_cases h : x = y
  · simp [h]
  · have h2 : ¬ x.data.toList = y.data.toList := fun e => h (bl_inj.1 e)
    rw [decide_eq_false h]
    exact beq_eq_false_iff_ne.2 h2
theorem eqx_T (x y : T) : (x.f0.toList == y.f0.toList && (x.f1.toList == y.f1.toList && (x.f2.toList == y.f2.toList))) = decide (x = y) := by
  rw [bl_beq, bl_beq, bl_beq]
  obtain ⟨x0, x1, x2⟩ := x
  obtain ⟨y0, y1, y2⟩ := y
  by_cases h0 : x0 = y0 <;> by_cases h1 : x1 = y1 <;> by_cases h2 : x2 = y2 <;> simp [h0, h1, h2]
end Go.Proofs.Ytgdmdhhihoifkaa.Pr

namespace Go.Proofs.Ytgdmdhhihoifkaa.Pr
open Go.Shelf Go.RowKit Go.Lib Go.Sort Go.Proofs.Ytgdmdhhihoifkaa

structure CpTF (P : Program) (k : Nat) : Prop where
  mixed : P.follows .mixedOrders = true
  t3 : P.underlying 3 = some (TypeDesc.int IntKind.i64)
  a3 : ∀ w, (isAgg 3).run P w = .ok false w
  z3 : ∀ w, (Go.sizeOf 3).run P w = .ok 1 w
  v3 : ∀ w, (zeroValue 3).run P w = .ok (Value.int IntKind.i64 0) w
  t4 : P.underlying 4 = some (TypeDesc.bool)
  a4 : ∀ w, (isAgg 4).run P w = .ok false w
  z4 : ∀ w, (Go.sizeOf 4).run P w = .ok 1 w
  v4 : ∀ w, (zeroValue 4).run P w = .ok (Value.bool false) w
  t22 : P.underlying 34 = some (TypeDesc.slice 25)
  a22 : ∀ w, (isAgg 34).run P w = .ok false w
  z22 : ∀ w, (Go.sizeOf 34).run P w = .ok 1 w
  v22 : ∀ w, (zeroValue 34).run P w = .ok (Value.slice none 0 0) w
  aE : ∀ w, (isAgg 25).run P w = .ok true w
  zE : ∀ w, (Go.sizeOf 25).run P w = .ok k w
  f : P.funcs[37]? = some Try.f37

theorem CpTF.here : CpTF Try.prog 3 :=
  ⟨by kernel_rfl, Try.underlying3, Try.isAgg3, Try.sizeOf3, Try.zeroValue3, Try.underlying4, Try.isAgg4, Try.sizeOf4, Try.zeroValue4, Try.underlying34, Try.isAgg34, Try.sizeOf34, Try.zeroValue34, Try.isAgg25, Try.sizeOf25, Try.func37⟩

variable {P : Program} {α : Type} [Inhabited α] [DecidableEq α]

set_option maxHeartbeats 4000000 in
set_option maxRecDepth 1000000 in
theorem CpT.compact {k : Nat} (L : CpTF P k) (enc : α → List Value) (z : α) (heq : EqlAt P 25 (fun x => .agg (enc x).toArray) (fun x y => decide (x = y))) (hne : ∀ (x y : α) (w : World), Sem.run P (binOp .neq 25 (.agg (enc x).toArray) (.agg (enc y).toArray)) w = .ok (.bool (!decide (x = y))) w)
    (hz : ∀ w, (zeroValue 25).run P w = .ok (.agg (enc z).toArray) w) (blk off cap n : Nat) (D : List α) (d0 : Array α) (w0 w : World) (R : RowK enc k w0 blk off d0) (hk0 : 0 < k) (S : SWK enc k w0 blk off D.toArray w) (hs : d0.size = n) (hn : D.length = n) (hcap : n ≤ cap) (hbig : n < 4611686018427387904) :
    Calls P 37 #[.slice (some ⟨blk, off, none⟩) n cap] w fun e w' => ∃ Z, e = .returned (.slice (some ⟨blk, off, none⟩) (compactL D).length cap) ∧ SWK enc k w0 blk off (compactL D ++ Z).toArray w' ∧ (compactL D).length + Z.length = n := by
  have mixed := L.mixed; have t3 := L.t3; have a3 := L.a3; have z3 := L.z3; have v3 := L.v3; have t4 := L.t4; have a4 := L.a4; have z4 := L.z4; have v4 := L.v4; have t22 := L.t22; have a22 := L.a22; have z22 := L.z22; have v22 := L.v22; have aE := L.aE; have zE := L.zE
  have HQ : Hid (∀ (x y : α) (w : World), Sem.run P (binOp .eql 25 (.agg (enc x).toArray) (.agg (enc y).toArray)) w = .ok (.bool (decide (x = y))) w) := heq.1
  have HN : Hid (∀ (x y : α) (w : World), Sem.run P (binOp .neq 25 (.agg (enc x).toArray) (.agg (enc y).toArray)) w = .ok (.bool (!decide (x = y))) w) := hne
  have HG : Hid (∀ (op : BinOp) (a b : Operand) (x y : α) (w : World), Sem.run P (eqGuard op 25 a b (.agg (enc x).toArray) (.agg (enc y).toArray)) w = .ok () w) := heq.2
  have HZ : Hid (∀ w, (zeroValue 25).run P w = .ok (.agg (enc z).toArray) w) := hz
  have HE : Hid (d0.size = n ∧ D.length = n) := ⟨hs, hn⟩
  have S0 : Aside (SWK enc k w0 blk off D.toArray w) := S
  clear heq hne hz S hs hn
  by_cases h2 : n < 2
  · have h2z : (n : Int) < 2 := by omega
    have hc : Hid (compactL D = D) := by
      have := HE.out.2
      match D, this with
      | [], _ => rfl
      | [x], _ => rfl
      | x :: y :: D, h => exfalso; simp at h; omega
    go_enter L.f, Try.ntmps37
    go_wp2
    go_ret
    exact ⟨[], by rw [hc.out, HE.out.2]; rfl, by rw [hc.out, List.append_nil]; exact S0.out, by rw [hc.out, HE.out.2]; rfl⟩
  · have h2z : ¬ (n : Int) < 2 := by omega
    go_enter L.f, Try.ntmps37
    go_wp2
    go_loopg [3] n (fun gk s3 wr => ∃ (j : Nat) (A B : List α) (x : α), s3 = .int .i64 j ∧ 1 ≤ j ∧ j ≤ n ∧ n - j ≤ gk ∧ Hid (D = A ++ x :: B ∧ A.length + 1 = j ∧ compactL D = (A ++ [x]) ++ compactFrom x B) ∧ Aside (SWK enc k w0 blk off D.toArray wr))
    case atStart =>
      have h := HE.out.2
      match D, h, S0 with
      | [], h, S0 => exfalso; simp at h; omega
      | x :: D, h, S0 => exact ⟨1, [], D, x, rfl, Nat.le_refl _, by omega, by omega, ⟨rfl, rfl, rfl⟩, S0⟩
    case round =>
      clear S0
      obtain ⟨j, A, B, x, rfl, hj1, hjn, hg, HD, S1⟩ := hrel
      have hds : Hid (D.toArray.size = d0.size) := by have h := HE.out; show _ = _; simp; omega
      by_cases hlt : j < n
      · have hltz : (j : Int) < (n : Int) := by omega
        have hcapz : (n : Int) ≤ (cap : Int) := by omega
        obtain ⟨i, rfl⟩ : ∃ i, j = i + 1 := ⟨j - 1, by omega⟩
        have hi1 : (i : Int) + 1 < (n : Int) := by omega
        have hi0 : (i : Int) < (n : Int) := by omega
        have p0 : (0 : Int) ≤ (i : Int) + 1 := by omega
        have e0 : ((i : Int) + 1).toNat = i + 1 := by omega
        have wp0 : IntKind.i64.wrap (i : Int) = (i : Int) := by rw [IntKind.wrap_i64]; omega
        obtain ⟨y, B2, hB⟩ : ∃ y B2, B = y :: B2 := by
          cases B with
          | nil => exfalso; have h := HD.out; have h3 := HE.out.2; rw [h.1] at h3; simp at h3; omega
          | cons y B2 => exact ⟨y, B2, rfl⟩
        subst hB
        have hsz : D.toArray.size = n := by have h := HE.out.2; simpa using h
        have l1 := S1.out.ld R hds.out P (i + 1) (by omega)
        have l2 := S1.out.ld R hds.out P i (by omega)
        have e1 : D.toArray[i + 1]! = y := by
          have h := HD.out
          have h3 := get_mid (A ++ [x]) y B2
          rw [show (A ++ [x]) ++ y :: B2 = D from by rw [h.1]; simp, show (A ++ [x]).length = i + 1 from by simp; omega] at h3
          exact h3
        have e2 : D.toArray[i]! = x := by
          have h := HD.out
          have h3 := get_mid A x (y :: B2)
          rw [← h.1, show A.length = i from by omega] at h3
          exact h3
        rw [e1] at l1
        rw [e2] at l2
        have hq := HQ.out y x
        have hg' := fun op a b => HG.out op a b y x
        clear hsz e1 e2
        have n1 : (enc y).length = k := R.hk _
        have n2 : (enc x).length = k := R.hk _
        generalize enc y = cI at l1 hq hg' n1
        generalize enc x = cJ at l2 hq hg' n2
        by_cases hyx : y = x
        · have hd : decide (y = x) = true := decide_eq_true hyx
          rw [hd] at hq
          go_wp2_with fail
          go_quiet_grown (fail)
          have S2 : Aside (SWK enc k w0 blk off D.toArray (grow (wr.drewN nq) osq)) := S1.out.grown nq osq
          clear l1 l2 hq hg' n1 n2 S1 hd
          generalize grow (wr.drewN nq) osq = wv at S2 ⊢
          clear nq osq
          go_wp2
          go_loopg [3, 5] n (fun gk s3 s5 wr => ∃ (kk k2 : Nat) (C M0 Rr : List α) (p : α), s3 = .int .i64 kk ∧ s5 = .int .i64 k2 ∧ 1 ≤ k2 ∧ i + 1 + k2 ≤ n ∧ n - (i + 1 + k2) ≤ gk ∧ kk < i + 1 + k2 ∧ Hid (C.length = kk ∧ C.length + M0.length = i + k2 ∧ C.length + M0.length + 1 + Rr.length = n ∧ compactL D = C ++ compactFrom p Rr) ∧ Aside (SWK enc k w0 blk off ((C ++ M0) ++ p :: Rr).toArray wr))
          case atStart =>
            have h := HD.out
            refine ⟨i + 1, 1, A ++ [x], [], B2, x, by first | rfl | go_num, by first | rfl | go_num, Nat.le_refl _, by omega, by omega, by omega, ⟨by simp; omega, by simp; omega, ?_, ?_⟩, ?_⟩
            · have h3 := HE.out.2; rw [h.1] at h3; simp at h3 ⊢; omega
            · rw [h.2.2, hyx, compactFrom, if_pos rfl]
            · have e : (A ++ [x] ++ []) ++ x :: B2 = D := by rw [h.1, hyx]; simp
              rw [e]; exact S2
          case round =>
            clear S2
            obtain ⟨kk, k2, C, M0, Rr, p, rfl, rfl, hk1, hkn, hg2, hkk, HI, S3⟩ := hrel
            have hds2 : Hid (((C ++ M0) ++ p :: Rr).toArray.size = d0.size) := by have h := HI.out; have h3 := HE.out; show _ = _; simp; omega
            have hkkz : (kk : Int) < (n : Int) := by omega
            by_cases hlt2 : i + 1 + k2 < n
            · obtain ⟨q, rfl⟩ : ∃ q, k2 = q + 1 := ⟨k2 - 1, by omega⟩
              obtain ⟨r, R2, hR⟩ : ∃ r R2, Rr = r :: R2 := by
                cases Rr with
                | nil => exfalso; have h := HI.out; simp at h; omega
                | cons r R2 => exact ⟨r, R2, rfl⟩
              subst hR
              have p1 : (0 : Int) ≤ (q : Int) + 1 := by omega
              have e1' : ((q : Int) + 1).toNat = q + 1 := by omega
              have wq0 : IntKind.i64.wrap (q : Int) = (q : Int) := by rw [IntKind.wrap_i64]; omega
              have hlt2z : (q : Int) + 1 < ((n - (i + 1) : Nat) : Int) := by omega
              have hlt2z' : (q : Int) + 1 < (n : Int) - ((i : Int) + 1) := by omega
              have hqz : (q : Int) < (n : Int) - ((i : Int) + 1) := by omega
              have hqz' : (q : Int) < ((n - (i + 1) : Nat) : Int) := by omega
              have l1 := S3.out.ld R hds2.out P (i + 1 + (q + 1)) (by have h := HI.out; simp; omega)
              have l2 := S3.out.ld R hds2.out P (i + 1 + q) (by have h := HI.out; simp; omega)
              have l0 := S3.out.load R hds2.out P (i + 1 + (q + 1)) (by have h := HI.out; simp; omega)
              have e1 : ((C ++ M0) ++ p :: r :: R2).toArray[i + 1 + (q + 1)]! = r := by
                have h := HI.out
                have h3 := get_mid (C ++ M0 ++ [p]) r R2
                rw [show (C ++ M0 ++ [p]) ++ r :: R2 = (C ++ M0) ++ p :: r :: R2 from by simp, show (C ++ M0 ++ [p]).length = i + 1 + (q + 1) from by simp; omega] at h3
                exact h3
              have e2 : ((C ++ M0) ++ p :: r :: R2).toArray[i + 1 + q]! = p := by
                have h := HI.out
                have h3 := get_mid (C ++ M0) p (r :: R2)
                rw [show (C ++ M0).length = i + 1 + q from by simp; omega] at h3
                exact h3
              rw [e1, Nat.add_mul (i + 1) (q + 1) k, ← Nat.add_assoc off] at l1
              rw [e2, Nat.add_mul (i + 1) q k, ← Nat.add_assoc off] at l2
              rw [e1, Nat.add_mul (i + 1) (q + 1) k, ← Nat.add_assoc off] at l0
              have hq := HN.out r p
              have hg' := fun op a b => HG.out op a b r p
              clear e1 e2
              have n1 : (enc r).length = k := R.hk _
              have n2 : (enc p).length = k := R.hk _
              by_cases hrp : r = p
              · have hd : (!decide (r = p)) = false := by simp [hrp]
                rw [hd] at hq
                generalize enc r = cI at l1 l0 hq hg' n1
                generalize enc p = cJ at l2 hq hg' n2
                go_wp2_with fail
                go_quiet_grown (fail)
                have S4 : Aside (SWK enc k w0 blk off ((C ++ (M0 ++ [p])) ++ r :: R2).toArray (grow (wr.drewN nq) osq)) := SWK_cong (S3.out.grown nq osq) (by simp)
                clear l1 l2 l0 hq hg' n1 n2 S3 hd
                generalize grow (wr.drewN nq) osq = wv at S4 ⊢
                clear nq osq
                go_wp2
                go_roundg (n - (i + 1 + (q + 1 + 1)))
                case measure => omega
                case rel =>
                  have h := HI.out
                  exact ⟨kk, q + 1 + 1, C, M0 ++ [p], R2, r, rfl, by first | rfl | go_num, by omega, by omega, Nat.le_refl _, by omega, ⟨h.1, by simp; omega, by simp at h ⊢; omega, by rw [h.2.2.2, compactFrom, if_pos hrp, hrp]⟩, S4⟩
              · have hd : (!decide (r = p)) = true := by simp [hrp]
                rw [hd] at hq
                obtain ⟨m, M1, hM⟩ : ∃ m M1, M0 ++ [p] = m :: M1 := by
                  cases M0 with
                  | nil => exact ⟨p, [], rfl⟩
                  | cons m M => exact ⟨m, M ++ [p], rfl⟩
                have HM : Hid (M0 ++ [p] = m :: M1) := hM
                clear hM
                have S4 : Aside (∀ nq osq, SWK enc k w0 blk off (C ++ [m] ++ (M1 ++ r :: R2)).toArray (grow (wr.drewN nq) osq) ∧ storeCells ⟨blk, off + kk * k, none⟩ (enc r) 0 = storeCells ⟨blk, off + kk * k, none⟩ (enc r) 0) := fun nq osq => ⟨SWK_cong (S3.out.grown nq osq) (by
                  have := congrArg (fun l => C ++ l ++ (r :: R2)) HM.out
                  simpa using this), rfl⟩
                have s1 : ∀ nq osq, Sem.run P (storeCells ⟨blk, off + kk * k, none⟩ (enc r) 0) (grow (wr.drewN nq) osq) = .ok () ((grow (wr.drewN nq) osq).setCells blk (off + kk * k) (enc r)) := fun nq osq =>
                  stores_of_holds P ((S3.out.grown nq osq).holds R.hblk R.hH hds2.out) (kk * k) _ (by rw [R.hk, size_flatK]; exact rowK_bnd _ k kk (by have h := HI.out; simp; omega)) (R.h1 _)
                have l3 : ∀ nq osq, Sem.run P (loadCellsFrom ⟨blk, off + (i + 1) * k + (q + 1) * k, none⟩ 0 k #[]) (grow (wr.drewN nq) osq) = .ok (enc r).toArray (grow (wr.drewN nq) osq) := l1
                have S5 : Aside (∀ nq osq, SWK enc k w0 blk off (((C ++ [r]) ++ M1) ++ r :: R2).toArray ((grow (wr.drewN nq) osq).setCells blk (off + kk * k) (enc r))) := fun nq osq => by
                  have h := HI.out
                  have h3 := SWK_put (Y := [r]) R.hk R.hblk (S4.out nq osq).1 rfl
                  rw [h.1] at h3
                  exact SWK_cong (by simpa using h3) (by simp)
                clear S4
                generalize enc r = cI at l1 l3 s1 S5 hq hg' n1 l0
                generalize enc p = cJ at l2 hq hg' n2
                clear l0
                go_wp2_with fail
                go_quiet_grown (fail)
                replace l3 := l3 nq osq
                replace s1 := s1 nq osq
                have S6 : Aside (SWK enc k w0 blk off (((C ++ [r]) ++ M1) ++ r :: R2).toArray ((grow (wr.drewN nq) osq).setCells blk (off + kk * k) cI)) := S5.out nq osq
                clear l1 l2 hq hg' S3 hd S5
                generalize grow (wr.drewN nq) osq = wv at S6 l3 s1 ⊢
                clear nq osq
                go_wp2
                go_roundg (n - (i + 1 + (q + 1 + 1)))
                case measure => omega
                case rel =>
                  have h := HI.out
                  have hm := congrArg List.length HM.out
                  simp at hm
                  exact ⟨kk + 1, q + 1 + 1, C ++ [r], M1, R2, r, by first | rfl | go_num, by first | rfl | go_num, by omega, by omega, Nat.le_refl _, by omega, ⟨by simp; omega, by simp; omega, by simp at h ⊢; omega, by rw [h.2.2.2, compactFrom, if_neg hrp]; simp⟩, S6⟩
            · have hlt2z : ¬ (k2 : Int) < ((n - (i + 1) : Nat) : Int) := by omega
              have hlt2z' : ¬ (k2 : Int) < (n : Int) - ((i : Int) + 1) := by omega
              have hRn : Rr = [] := List.eq_nil_of_length_eq_zero (by have h := HI.out; omega)
              subst hRn
              have hlen : (M0 ++ [p]).length = n - kk := by have h := HI.out; simp at h ⊢; omega
              have hcl : ∀ ty, (Builtin.clear_ #[34] ty #[.slice (some ⟨blk, off + kk * k, none⟩) (n - kk) (cap - kk)]).run P wr = .ok (.tuple #[]) (wr.setCells blk (off + kk * k) ((List.replicate (n - kk) z).flatMap enc)) := fun ty => by
                have hH := S3.out.holds R.hblk R.hH hds2.out
                have hsz : (flatK enc k ((C ++ M0) ++ [p]).toArray).size = n * k := by
                  have h := HI.out
                  rw [size_flatK]; congr 1; simp at h ⊢; omega
                have hb : ∀ t, t < (n - kk) * k → kk * k + t < (flatK enc k ((C ++ M0) ++ [p]).toArray).size := fun t ht => by
                  rw [hsz]
                  have h4 : kk * k + (n - kk) * k = n * k := by rw [← Nat.add_mul]; congr 1; omega
                  omega
                have h3 := run_clear_structs (P := P) wr 34 25 ty _ t22 HZ.out (by simpa [Value.cells] using R.h1 z) blk (off + kk * k) (n - kk) (cap - kk) (by omega)
                  (fun t ht => by rw [Nat.add_assoc, (hH _ (hb t (by simpa [Value.cells, R.hk] using ht))).1]; rfl) (fun t ht => by rw [Nat.add_assoc]; exact (hH _ (hb t (by simpa [Value.cells, R.hk] using ht))).2)
                rw [h3]
                congr 2
                rw [List.flatMap_def, List.map_replicate]; simp [Value.cells]
              have S4 : Aside (SWK enc k w0 blk off (C ++ List.replicate (n - kk) z).toArray (wr.setCells blk (off + kk * k) ((List.replicate (n - kk) z).flatMap enc))) := by
                have h := HI.out
                have h3 := SWK_put (A := C) (M := M0 ++ [p]) (B := []) (Y := List.replicate (n - kk) z) R.hk R.hblk (SWK_cong S3.out (by simp)) (by rw [hlen]; simp)
                rw [h.1] at h3
                exact SWK_cong h3 (by simp)
              clear S3 hlen
              generalize (List.replicate (n - kk) z).flatMap enc = zs at hcl S4
              go_wp2
              go_ret
              have h := HI.out
              have hc : compactL D = C := by rw [h.2.2.2, compactFrom, List.append_nil]
              exact ⟨by rw [hc, h.1]; rfl, List.replicate (n - kk) z, by rw [hc]; exact S4.out, by rw [hc]; simp; omega⟩
        · have hd : decide (y = x) = false := decide_eq_false hyx
          rw [hd] at hq
          go_wp2_with fail
          go_quiet_grown (fail)
          have S2 : Aside (SWK enc k w0 blk off D.toArray (grow (wr.drewN nq) osq)) := S1.out.grown nq osq
          clear l1 l2 hq hg' n1 n2 S1 hd
          generalize grow (wr.drewN nq) osq = wv at S2 ⊢
          clear nq osq
          go_wp2
          go_roundg (n - (i + 1 + 1))
          case measure => omega
          case rel =>
            have h := HD.out
            exact ⟨i + 1 + 1, A ++ [x], B2, y, by first | rfl | go_num, by omega, by omega, Nat.le_refl _, ⟨by rw [h.1]; simp, by simp; omega, by rw [h.2.2, compactFrom, if_neg hyx]; simp⟩, S2⟩
      · have hltz : ¬ (j : Int) < (n : Int) := by omega
        have hB : B = [] := List.eq_nil_of_length_eq_zero (by have h := HD.out; have h3 := HE.out.2; rw [h.1] at h3; simp at h3; omega)
        subst hB
        have hc : Hid (compactL D = D) := by have h := HD.out; show _ = _; rw [h.2.2, compactFrom, List.append_nil, h.1]
        go_wp2
        go_ret
        exact ⟨by rw [hc.out, HE.out.2]; rfl, [], by rw [hc.out, List.append_nil]; exact S1.out, by rw [hc.out, HE.out.2]; rfl⟩

set_option maxHeartbeats 1000000 in
theorem CpT.compact_none {k : Nat} (L : CpTF P k) (cap : Nat) (w : World) : Calls P 37 #[.slice none 0 cap] w fun e w' => e = .returned (.slice none 0 cap) ∧ w' = w := by
  have mixed := L.mixed; have t3 := L.t3; have a3 := L.a3; have z3 := L.z3; have v3 := L.v3; have t4 := L.t4; have a4 := L.a4; have z4 := L.z4; have v4 := L.v4; have t22 := L.t22; have a22 := L.a22; have z22 := L.z22; have v22 := L.v22; have aE := L.aE; have zE := L.zE
  go_enter L.f, Try.ntmps37
  go_wp2
  go_ret
  exact ⟨rfl, rfl⟩
end Go.Proofs.Ytgdmdhhihoifkaa.Pr

namespace Go.Proofs.Ytgdmdhhihoifkaa.Pr
open Go.Shelf Go.RowKit Go.Lib Go.Sort Go.Proofs.Ytgdmdhhihoifkaa

structure CpMuF (P : Program) (k : Nat) : Prop where
  mixed : P.follows .mixedOrders = true
  t3 : P.underlying 3 = some (TypeDesc.int IntKind.i64)
  a3 : ∀ w, (isAgg 3).run P w = .ok false w
  z3 : ∀ w, (Go.sizeOf 3).run P w = .ok 1 w
  v3 : ∀ w, (zeroValue 3).run P w = .ok (Value.int IntKind.i64 0) w
  t4 : P.underlying 4 = some (TypeDesc.bool)
  a4 : ∀ w, (isAgg 4).run P w = .ok false w
  z4 : ∀ w, (Go.sizeOf 4).run P w = .ok 1 w
  v4 : ∀ w, (zeroValue 4).run P w = .ok (Value.bool false) w
  t22 : P.underlying 43 = some (TypeDesc.slice 27)
  a22 : ∀ w, (isAgg 43).run P w = .ok false w
  z22 : ∀ w, (Go.sizeOf 43).run P w = .ok 1 w
  v22 : ∀ w, (zeroValue 43).run P w = .ok (Value.slice none 0 0) w
  aE : ∀ w, (isAgg 27).run P w = .ok true w
  zE : ∀ w, (Go.sizeOf 27).run P w = .ok k w
  f : P.funcs[35]? = some Try.f35

theorem CpMuF.here : CpMuF Try.prog 4 :=
  ⟨by kernel_rfl, Try.underlying3, Try.isAgg3, Try.sizeOf3, Try.zeroValue3, Try.underlying4, Try.isAgg4, Try.sizeOf4, Try.zeroValue4, Try.underlying43, Try.isAgg43, Try.sizeOf43, Try.zeroValue43, Try.isAgg27, Try.sizeOf27, Try.func35⟩

variable {P : Program} {α : Type} [Inhabited α] [DecidableEq α]

set_option maxHeartbeats 4000000 in
set_option maxRecDepth 1000000 in
theorem CpMu.compact {k : Nat} (L : CpMuF P k) (enc : α → List Value) (z : α) (heq : EqlAt P 27 (fun x => .agg (enc x).toArray) (fun x y => decide (x = y))) (hne : ∀ (x y : α) (w : World), Sem.run P (binOp .neq 27 (.agg (enc x).toArray) (.agg (enc y).toArray)) w = .ok (.bool (!decide (x = y))) w)
    (hz : ∀ w, (zeroValue 27).run P w = .ok (.agg (enc z).toArray) w) (blk off cap n : Nat) (D : List α) (d0 : Array α) (w0 w : World) (R : RowK enc k w0 blk off d0) (hk0 : 0 < k) (S : SWK enc k w0 blk off D.toArray w) (hs : d0.size = n) (hn : D.length = n) (hcap : n ≤ cap) (hbig : n < 4611686018427387904) :
    Calls P 35 #[.slice (some ⟨blk, off, none⟩) n cap] w fun e w' => ∃ Z, e = .returned (.slice (some ⟨blk, off, none⟩) (compactL D).length cap) ∧ SWK enc k w0 blk off (compactL D ++ Z).toArray w' ∧ (compactL D).length + Z.length = n := by
  have mixed := L.mixed; have t3 := L.t3; have a3 := L.a3; have z3 := L.z3; have v3 := L.v3; have t4 := L.t4; have a4 := L.a4; have z4 := L.z4; have v4 := L.v4; have t22 := L.t22; have a22 := L.a22; have z22 := L.z22; have v22 := L.v22; have aE := L.aE; have zE := L.zE
  have HQ : Hid (∀ (x y : α) (w : World), Sem.run P (binOp .eql 27 (.agg (enc x).toArray) (.agg (enc y).toArray)) w = .ok (.bool (decide (x = y))) w) := heq.1
  have HN : Hid (∀ (x y : α) (w : World), Sem.run P (binOp .neq 27 (.agg (enc x).toArray) (.agg (enc y).toArray)) w = .ok (.bool (!decide (x = y))) w) := hne
  have HG : Hid (∀ (op : BinOp) (a b : Operand) (x y : α) (w : World), Sem.run P (eqGuard op 27 a b (.agg (enc x).toArray) (.agg (enc y).toArray)) w = .ok () w) := heq.2
  have HZ : Hid (∀ w, (zeroValue 27).run P w = .ok (.agg (enc z).toArray) w) := hz
  have HE : Hid (d0.size = n ∧ D.length = n) := ⟨hs, hn⟩
  have S0 : Aside (SWK enc k w0 blk off D.toArray w) := S
  clear heq hne hz S hs hn
  by_cases h2 : n < 2
  · have h2z : (n : Int) < 2 := by omega
    have hc : Hid (compactL D = D) := by
      have := HE.out.2
      match D, this with
      | [], _ => rfl
      | [x], _ => rfl
      | x :: y :: D, h => exfalso; simp at h; omega
    go_enter L.f, Try.ntmps35
    go_wp2
    go_ret
    exact ⟨[], by rw [hc.out, HE.out.2]; rfl, by rw [hc.out, List.append_nil]; exact S0.out, by rw [hc.out, HE.out.2]; rfl⟩
  · have h2z : ¬ (n : Int) < 2 := by omega
    go_enter L.f, Try.ntmps35
    go_wp2
    go_loopg [3] n (fun gk s3 wr => ∃ (j : Nat) (A B : List α) (x : α), s3 = .int .i64 j ∧ 1 ≤ j ∧ j ≤ n ∧ n - j ≤ gk ∧ Hid (D = A ++ x :: B ∧ A.length + 1 = j ∧ compactL D = (A ++ [x]) ++ compactFrom x B) ∧ Aside (SWK enc k w0 blk off D.toArray wr))
    case atStart =>
      have h := HE.out.2
      match D, h, S0 with
      | [], h, S0 => exfalso; simp at h; omega
      | x :: D, h, S0 => exact ⟨1, [], D, x, rfl, Nat.le_refl _, by omega, by omega, ⟨rfl, rfl, rfl⟩, S0⟩
    case round =>
      clear S0
      obtain ⟨j, A, B, x, rfl, hj1, hjn, hg, HD, S1⟩ := hrel
      have hds : Hid (D.toArray.size = d0.size) := by have h := HE.out; show _ = _; simp; omega
      by_cases hlt : j < n
      · have hltz : (j : Int) < (n : Int) := by omega
        have hcapz : (n : Int) ≤ (cap : Int) := by omega
        obtain ⟨i, rfl⟩ : ∃ i, j = i + 1 := ⟨j - 1, by omega⟩
        have hi1 : (i : Int) + 1 < (n : Int) := by omega
        have hi0 : (i : Int) < (n : Int) := by omega
        have p0 : (0 : Int) ≤ (i : Int) + 1 := by omega
        have e0 : ((i : Int) + 1).toNat = i + 1 := by omega
        have wp0 : IntKind.i64.wrap (i : Int) = (i : Int) := by rw [IntKind.wrap_i64]; omega
        obtain ⟨y, B2, hB⟩ : ∃ y B2, B = y :: B2 := by
          cases B with
          | nil => exfalso; have h := HD.out; have h3 := HE.out.2; rw [h.1] at h3; simp at h3; omega
          | cons y B2 => exact ⟨y, B2, rfl⟩
        subst hB
        have hsz : D.toArray.size = n := by have h := HE.out.2; simpa using h
        have l1 := S1.out.ld R hds.out P (i + 1) (by omega)
        have l2 := S1.out.ld R hds.out P i (by omega)
        have e1 : D.toArray[i + 1]! = y := by
          have h := HD.out
          have h3 := get_mid (A ++ [x]) y B2
          rw [show (A ++ [x]) ++ y :: B2 = D from by rw [h.1]; simp, show (A ++ [x]).length = i + 1 from by simp; omega] at h3
          exact h3
        have e2 : D.toArray[i]! = x := by
          have h := HD.out
          have h3 := get_mid A x (y :: B2)
          rw [← h.1, show A.length = i from by omega] at h3
          exact h3
        rw [e1] at l1
        rw [e2] at l2
        have hq := HQ.out y x
        have hg' := fun op a b => HG.out op a b y x
        clear hsz e1 e2
        have n1 : (enc y).length = k := R.hk _
        have n2 : (enc x).length = k := R.hk _
        generalize enc y = cI at l1 hq hg' n1
        generalize enc x = cJ at l2 hq hg' n2
        by_cases hyx : y = x
        · have hd : decide (y = x) = true := decide_eq_true hyx
          rw [hd] at hq
          go_wp2_with fail
          go_quiet_grown (fail)
          have S2 : Aside (SWK enc k w0 blk off D.toArray (grow (wr.drewN nq) osq)) := S1.out.grown nq osq
          clear l1 l2 hq hg' n1 n2 S1 hd
          generalize grow (wr.drewN nq) osq = wv at S2 ⊢
          clear nq osq
          go_wp2
          go_loopg [3, 5] n (fun gk s3 s5 wr => ∃ (kk k2 : Nat) (C M0 Rr : List α) (p : α), s3 = .int .i64 kk ∧ s5 = .int .i64 k2 ∧ 1 ≤ k2 ∧ i + 1 + k2 ≤ n ∧ n - (i + 1 + k2) ≤ gk ∧ kk < i + 1 + k2 ∧ Hid (C.length = kk ∧ C.length + M0.length = i + k2 ∧ C.length + M0.length + 1 + Rr.length = n ∧ compactL D = C ++ compactFrom p Rr) ∧ Aside (SWK enc k w0 blk off ((C ++ M0) ++ p :: Rr).toArray wr))
          case atStart =>
            have h := HD.out
            refine ⟨i + 1, 1, A ++ [x], [], B2, x, by first | rfl | go_num, by first | rfl | go_num, Nat.le_refl _, by omega, by omega, by omega, ⟨by simp; omega, by simp; omega, ?_, ?_⟩, ?_⟩
            · have h3 := HE.out.2; rw [h.1] at h3; simp at h3 ⊢; omega
            · rw [h.2.2, hyx, compactFrom, if_pos rfl]
            · have e : (A ++ [x] ++ []) ++ x :: B2 = D := by rw [h.1, hyx]; simp
              rw [e]; exact S2
          case round =>
            clear S2
            obtain ⟨kk, k2, C, M0, Rr, p, rfl, rfl, hk1, hkn, hg2, hkk, HI, S3⟩ := hrel
            have hds2 : Hid (((C ++ M0) ++ p :: Rr).toArray.size = d0.size) := by have h := HI.out; have h3 := HE.out; show _ = _; simp; omega
            have hkkz : (kk : Int) < (n : Int) := by omega
            by_cases hlt2 : i + 1 + k2 < n
            · obtain ⟨q, rfl⟩ : ∃ q, k2 = q + 1 := ⟨k2 - 1, by omega⟩
              obtain ⟨r, R2, hR⟩ : ∃ r R2, Rr = r :: R2 := by
                cases Rr with
                | nil => exfalso; have h := HI.out; simp at h; omega
                | cons r R2 => exact ⟨r, R2, rfl⟩
              subst hR
              have p1 : (0 : Int) ≤ (q : Int) + 1 := by omega
              have e1' : ((q : Int) + 1).toNat = q + 1 := by omega
              have wq0 : IntKind.i64.wrap (q : Int) = (q : Int) := by rw [IntKind.wrap_i64]; omega
              have hlt2z : (q : Int) + 1 < ((n - (i + 1) : Nat) : Int) := by omega
              have hlt2z' : (q : Int) + 1 < (n : Int) - ((i : Int) + 1) := by omega
              have hqz : (q : Int) < (n : Int) - ((i : Int) + 1) := by omega
              have hqz' : (q : Int) < ((n - (i + 1) : Nat) : Int) := by omega
              have l1 := S3.out.ld R hds2.out P (i + 1 + (q + 1)) (by have h := HI.out; simp; omega)
              have l2 := S3.out.ld R hds2.out P (i + 1 + q) (by have h := HI.out; simp; omega)
              have l0 := S3.out.load R hds2.out P (i + 1 + (q + 1)) (by have h := HI.out; simp; omega)
              have e1 : ((C ++ M0) ++ p :: r :: R2).toArray[i + 1 + (q + 1)]! = r := by
                have h := HI.out
                have h3 := get_mid (C ++ M0 ++ [p]) r R2
                rw [show (C ++ M0 ++ [p]) ++ r :: R2 = (C ++ M0) ++ p :: r :: R2 from by simp, show (C ++ M0 ++ [p]).length = i + 1 + (q + 1) from by simp; omega] at h3
                exact h3
              have e2 : ((C ++ M0) ++ p :: r :: R2).toArray[i + 1 + q]! = p := by
                have h := HI.out
                have h3 := get_mid (C ++ M0) p (r :: R2)
                rw [show (C ++ M0).length = i + 1 + q from by simp; omega] at h3
                exact h3
              rw [e1, Nat.add_mul (i + 1) (q + 1) k, ← Nat.add_assoc off] at l1
              rw [e2, Nat.add_mul (i + 1) q k, ← Nat.add_assoc off] at l2
              rw [e1, Nat.add_mul (i + 1) (q + 1) k, ← Nat.add_assoc off] at l0
              have hq := HN.out r p
              have hg' := fun op a b => HG.out op a b r p
              clear e1 e2
              have n1 : (enc r).length = k := R.hk _
              have n2 : (enc p).length = k := R.hk _
              by_cases hrp : r = p
              · have hd : (!decide (r = p)) = false := by simp [hrp]
                rw [hd] at hq
                generalize enc r = cI at l1 l0 hq hg' n1
                generalize enc p = cJ at l2 hq hg' n2
                go_wp2_with fail
                go_quiet_grown (fail)
                have S4 : Aside (SWK enc k w0 blk off ((C ++ (M0 ++ [p])) ++ r :: R2).toArray (grow (wr.drewN nq) osq)) := SWK_cong (S3.out.grown nq osq) (by simp)
                clear l1 l2 l0 hq hg' n1 n2 S3 hd
                generalize grow (wr.drewN nq) osq = wv at S4 ⊢
                clear nq osq
                go_wp2
                go_roundg (n - (i + 1 + (q + 1 + 1)))
                case measure => omega
                case rel =>
                  have h := HI.out
                  exact ⟨kk, q + 1 + 1, C, M0 ++ [p], R2, r, rfl, by first | rfl | go_num, by omega, by omega, Nat.le_refl _, by omega, ⟨h.1, by simp; omega, by simp at h ⊢; omega, by rw [h.2.2.2, compactFrom, if_pos hrp, hrp]⟩, S4⟩
              · have hd : (!decide (r = p)) = true := by simp [hrp]
                rw [hd] at hq
                obtain ⟨m, M1, hM⟩ : ∃ m M1, M0 ++ [p] = m :: M1 := by
                  cases M0 with
                  | nil => exact ⟨p, [], rfl⟩
                  | cons m M => exact ⟨m, M ++ [p], rfl⟩
                have HM : Hid (M0 ++ [p] = m :: M1) := hM
                clear hM
                have S4 : Aside (∀ nq osq, SWK enc k w0 blk off (C ++ [m] ++ (M1 ++ r :: R2)).toArray (grow (wr.drewN nq) osq) ∧ storeCells ⟨blk, off + kk * k, none⟩ (enc r) 0 = storeCells ⟨blk, off + kk * k, none⟩ (enc r) 0) := fun nq osq => ⟨SWK_cong (S3.out.grown nq osq) (by
                  have := congrArg (fun l => C ++ l ++ (r :: R2)) HM.out
                  simpa using this), rfl⟩
                have s1 : ∀ nq osq, Sem.run P (storeCells ⟨blk, off + kk * k, none⟩ (enc r) 0) (grow (wr.drewN nq) osq) = .ok () ((grow (wr.drewN nq) osq).setCells blk (off + kk * k) (enc r)) := fun nq osq =>
                  stores_of_holds P ((S3.out.grown nq osq).holds R.hblk R.hH hds2.out) (kk * k) _ (by rw [R.hk, size_flatK]; exact rowK_bnd _ k kk (by have h := HI.out; simp; omega)) (R.h1 _)
                have l3 : ∀ nq osq, Sem.run P (loadCellsFrom ⟨blk, off + (i + 1) * k + (q + 1) * k, none⟩ 0 k #[]) (grow (wr.drewN nq) osq) = .ok (enc r).toArray (grow (wr.drewN nq) osq) := l1
                have S5 : Aside (∀ nq osq, SWK enc k w0 blk off (((C ++ [r]) ++ M1) ++ r :: R2).toArray ((grow (wr.drewN nq) osq).setCells blk (off + kk * k) (enc r))) := fun nq osq => by
                  have h := HI.out
                  have h3 := SWK_put (Y := [r]) R.hk R.hblk (S4.out nq osq).1 rfl
                  rw [h.1] at h3
                  exact SWK_cong (by simpa using h3) (by simp)
                clear S4
                generalize enc r = cI at l1 l3 s1 S5 hq hg' n1 l0
                generalize enc p = cJ at l2 hq hg' n2
                clear l0
                go_wp2_with fail
                go_quiet_grown (fail)
                replace l3 := l3 nq osq
                replace s1 := s1 nq osq
                have S6 : Aside (SWK enc k w0 blk off (((C ++ [r]) ++ M1) ++ r :: R2).toArray ((grow (wr.drewN nq) osq).setCells blk (off + kk * k) cI)) := S5.out nq osq
                clear l1 l2 hq hg' S3 hd S5
                generalize grow (wr.drewN nq) osq = wv at S6 l3 s1 ⊢
                clear nq osq
                go_wp2
                go_roundg (n - (i + 1 + (q + 1 + 1)))
                case measure => omega
                case rel =>
                  have h := HI.out
                  have hm := congrArg List.length HM.out
                  simp at hm
                  exact ⟨kk + 1, q + 1 + 1, C ++ [r], M1, R2, r, by first | rfl | go_num, by first | rfl | go_num, by omega, by omega, Nat.le_refl _, by omega, ⟨by simp; omega, by simp; omega, by simp at h ⊢; omega, by rw [h.2.2.2, compactFrom, if_neg hrp]; simp⟩, S6⟩
            · have hlt2z : ¬ (k2 : Int) < ((n - (i + 1) : Nat) : Int) := by omega
              have hlt2z' : ¬ (k2 : Int) < (n : Int) - ((i : Int) + 1) := by omega
              have hRn : Rr = [] := List.eq_nil_of_length_eq_zero (by have h := HI.out; omega)
              subst hRn
              have hlen : (M0 ++ [p]).length = n - kk := by have h := HI.out; simp at h ⊢; omega
              have hcl : ∀ ty, (Builtin.clear_ #[43] ty #[.slice (some ⟨blk, off + kk * k, none⟩) (n - kk) (cap - kk)]).run P wr = .ok (.tuple #[]) (wr.setCells blk (off + kk * k) ((List.replicate (n - kk) z).flatMap enc)) := fun ty => by
                have hH := S3.out.holds R.hblk R.hH hds2.out
                have hsz : (flatK enc k ((C ++ M0) ++ [p]).toArray).size = n * k := by
                  have h := HI.out
                  rw [size_flatK]; congr 1; simp at h ⊢; omega
                have hb : ∀ t, t < (n - kk) * k → kk * k + t < (flatK enc k ((C ++ M0) ++ [p]).toArray).size := fun t ht => by
                  rw [hsz]
                  have h4 : kk * k + (n - kk) * k = n * k := by rw [← Nat.add_mul]; congr 1; omega
                  omega
                have h3 := run_clear_structs (P := P) wr 43 27 ty _ t22 HZ.out (by simpa [Value.cells] using R.h1 z) blk (off + kk * k) (n - kk) (cap - kk) (by omega)
                  (fun t ht => by rw [Nat.add_assoc, (hH _ (hb t (by simpa [Value.cells, R.hk] using ht))).1]; rfl) (fun t ht => by rw [Nat.add_assoc]; exact (hH _ (hb t (by simpa [Value.cells, R.hk] using ht))).2)
                rw [h3]
                congr 2
                rw [List.flatMap_def, List.map_replicate]; simp [Value.cells]
              have S4 : Aside (SWK enc k w0 blk off (C ++ List.replicate (n - kk) z).toArray (wr.setCells blk (off + kk * k) ((List.replicate (n - kk) z).flatMap enc))) := by
                have h := HI.out
                have h3 := SWK_put (A := C) (M := M0 ++ [p]) (B := []) (Y := List.replicate (n - kk) z) R.hk R.hblk (SWK_cong S3.out (by simp)) (by rw [hlen]; simp)
                rw [h.1] at h3
                exact SWK_cong h3 (by simp)
              clear S3 hlen
              generalize (List.replicate (n - kk) z).flatMap enc = zs at hcl S4
              go_wp2
              go_ret
              have h := HI.out
              have hc : compactL D = C := by rw [h.2.2.2, compactFrom, List.append_nil]
              exact ⟨by rw [hc, h.1]; rfl, List.replicate (n - kk) z, by rw [hc]; exact S4.out, by rw [hc]; simp; omega⟩
        · have hd : decide (y = x) = false := decide_eq_false hyx
          rw [hd] at hq
          go_wp2_with fail
          go_quiet_grown (fail)
          have S2 : Aside (SWK enc k w0 blk off D.toArray (grow (wr.drewN nq) osq)) := S1.out.grown nq osq
          clear l1 l2 hq hg' n1 n2 S1 hd
          generalize grow (wr.drewN nq) osq = wv at S2 ⊢
          clear nq osq
          go_wp2
          go_roundg (n - (i + 1 + 1))
          case measure => omega
          case rel =>
            have h := HD.out
            exact ⟨i + 1 + 1, A ++ [x], B2, y, by first | rfl | go_num, by omega, by omega, Nat.le_refl _, ⟨by rw [h.1]; simp, by simp; omega, by rw [h.2.2, compactFrom, if_neg hyx]; simp⟩, S2⟩
      · have hltz : ¬ (j : Int) < (n : Int) := by omega
        have hB : B = [] := List.eq_nil_of_length_eq_zero (by have h := HD.out; have h3 := HE.out.2; rw [h.1] at h3; simp at h3; omega)
        subst hB
        have hc : Hid (compactL D = D) := by have h := HD.out; show _ = _; rw [h.2.2, compactFrom, List.append_nil, h.1]
        go_wp2
        go_ret
        exact ⟨by rw [hc.out, HE.out.2]; rfl, [], by rw [hc.out, List.append_nil]; exact S1.out, by rw [hc.out, HE.out.2]; rfl⟩

set_option maxHeartbeats 1000000 in
theorem CpMu.compact_none {k : Nat} (L : CpMuF P k) (cap : Nat) (w : World) : Calls P 35 #[.slice none 0 cap] w fun e w' => e = .returned (.slice none 0 cap) ∧ w' = w := by
  have mixed := L.mixed; have t3 := L.t3; have a3 := L.a3; have z3 := L.z3; have v3 := L.v3; have t4 := L.t4; have a4 := L.a4; have z4 := L.z4; have v4 := L.v4; have t22 := L.t22; have a22 := L.a22; have z22 := L.z22; have v22 := L.v22; have aE := L.aE; have zE := L.zE
  go_enter L.f, Try.ntmps35
  go_wp2
  go_ret
  exact ⟨rfl, rfl⟩
end Go.Proofs.Ytgdmdhhihoifkaa.Pr

namespace Go.Proofs.Ytgdmdhhihoifkaa.Pr
open Go.RowKit Go.Proofs.YtgdmdhhihoifkaaW.PrintWords Go.Proofs.YtgdmdhhihoifkaaW.PrintLast Go.Proofs.YtgdmdhhihoifkaaW.PrintMore
attribute [local go_sem] max2_int min2_int max_two min_two max_three min_three max_four min_four   -- for this text's walks alone
set_option linter.unusedVariables false
set_option linter.unusedSimpArgs false

theorem eqA27 (d : Nat) (w : World) (x0 y0 : Bool) (x1 y1 : ByteArray) (x2 y2 : ByteArray) (x3 y3 : ByteArray) :
    (Op.equalIn (d + 3) 27 (.agg #[.bool x0, .string x1, .string x2, .string x3]) (.agg #[.bool y0, .string y1, .string y2, .string y3])).run Try.prog w = .ok (x0 == y0 && ((x1.toList == y1.toList && (x2.toList == y2.toList && (x3.toList == y3.toList))))) w := by
  refine eqA_of Try.underlying27 (by kernel_rfl) ?_
  refine eqf_cons (by rfl) (by go_simp; rfl) (by go_simp; rfl) (by go_simp) ?_
  exact eqf_last (by rfl) (by go_simp) (by go_simp) (eqA25 (d + 0) w _ _ _ _ _ _)
end Go.Proofs.Ytgdmdhhihoifkaa.Pr

namespace Go.Proofs.Ytgdmdhhihoifkaa.Pr
open Go.RowKit Go.Proofs.YtgdmdhhihoifkaaW.PrintWords Go.Proofs.YtgdmdhhihoifkaaW.PrintLast Go.Proofs.YtgdmdhhihoifkaaW.PrintMore
end Go.Proofs.Ytgdmdhhihoifkaa.Pr

namespace Go.Proofs.Ytgdmdhhihoifkaa.Pr
open Go.Shelf Go.RowKit Go.Lib Go.Sort Go.Proofs.Ytgdmdhhihoifkaa
open Go.Proofs.YtgdmdhhihoifkaaW.PrintWords Go.Proofs.YtgdmdhhihoifkaaW.PrintLast Go.Proofs.YtgdmdhhihoifkaaW.PrintMore

theorem eql_T : EqlAt Try.prog 25 (fun x : T => .agg (enT x).toArray) (fun x y => decide (x = y)) := by
  refine ⟨fun x y w => ?_, GuardAt.agg _ (by kernel_rfl)⟩
  simp only [enT]
  rw [run_eql_struct, show (10000 : Nat) = 9998 + 2 from rfl, eqA25, eqx_T]
  rfl
theorem neq_T (x y : T) (w : World) : Sem.run Try.prog (binOp .neq 25 (.agg (enT x).toArray) (.agg (enT y).toArray)) w = .ok (.bool (!decide (x = y))) w := by
  simp only [enT]
  rw [run_neq_struct, show (10000 : Nat) = 9998 + 2 from rfl, eqA25, eqx_T]
  rfl
theorem eqx_Mu (x y : Mu) : (x.f0 == y.f0 && (x.f1.f0.toList == y.f1.f0.toList && (x.f1.f1.toList == y.f1.f1.toList && (x.f1.f2.toList == y.f1.f2.toList)))) = decide (x = y) := by
  rw [eqx_T]
  obtain ⟨x0, x1⟩ := x
  obtain ⟨y0, y1⟩ := y
  by_cases h0 : x0 = y0 <;> by_cases h1 : x1 = y1 <;> simp [h0, h1]
theorem eql_Mu : EqlAt Try.prog 27 (fun x : Mu => .agg (enMu x).toArray) (fun x y => decide (x = y)) := by
  refine ⟨fun x y w => ?_, GuardAt.agg _ (by kernel_rfl)⟩
  simp only [enMu, enT]
  rw [run_eql_struct, show (10000 : Nat) = 9997 + 3 from rfl, eqA27, eqx_Mu]
  rfl
theorem neq_Mu (x y : Mu) (w : World) : Sem.run Try.prog (binOp .neq 27 (.agg (enMu x).toArray) (.agg (enMu y).toArray)) w = .ok (.bool (!decide (x = y))) w := by
  simp only [enMu, enT]
  rw [run_neq_struct, show (10000 : Nat) = 9997 + 3 from rfl, eqA27, eqx_Mu]
  rfl
end Go.Proofs.Ytgdmdhhihoifkaa.Pr

namespace Go.Proofs.Ytgdmdhhihoifkaa.Pr
open Go.Shelf Go.RowKit Go.Lib Go.Sort Go.Proofs.Ytgdmdhhihoifkaa
open Go.Proofs.YtgdmdhhihoifkaaW.PrintWords Go.Proofs.YtgdmdhhihoifkaaW.PrintLast Go.Proofs.YtgdmdhhihoifkaaW.PrintMore
open Go.ChangeMaps (setBlock)

def kv (t : T) : Value := .agg #[.string t.f0, .string t.f1, .string t.f2]
theorem kv_inj {a b : T} : kv a = kv b ↔ a = b := by
  constructor
  · intro h
    obtain ⟨a0, a1, a2⟩ := a
    obtain ⟨b0, b1, b2⟩ := b
    simp [kv] at h
    simp [h]
  · rintro rfl; rfl

theorem check_T (em : Bool) (t : T) (w : World) : (Instr.checkKey em 10000 25 (kv t)).run Try.prog w = .ok () w := by
  have hs : ∀ (n : Nat) (s : ByteArray) (w : World), (Instr.checkKey em (n + 1) 9 (.string s)).run Try.prog w = .ok () w := by
    intro n s w
    simp [Instr.checkKey, run_underlying Try.underlying9]
  rw [show (10000 : Nat) = 9998 + 1 + 1 from rfl]
  unfold kv
  rw [Instr.checkKey]
  go_simp

/-- Where a key stands, and what it holds. -/
def mfind (t : T) : List (T × Int) → Nat → Option (Nat × Int)
  | [], _ => none
  | p :: m, i => if t = p.1 then some (i, p.2) else mfind t m (i + 1)
def mput (t : T) (v : Int) (m : List (T × Int)) : List (T × Int) :=
  match mfind t m 0 with
  | some (i, _) => m.set i (t, v)
  | none => m ++ [(t, v)]
def mdel (t : T) (m : List (T × Int)) : List (T × Int) :=
  match mfind t m 0 with
  | some (i, _) => m.eraseIdx i
  | none => m
def ent (e : MapEntry) : Value × Value := (e.key, e.val)
def pr (p : T × Int) : Value × Value := (kv p.1, .int .i64 p.2)

theorem equal_T (a b : T) (w : World) : (Op.equal 25 (kv a) (kv b)).run Try.prog w = .ok (decide (a = b)) w := by
  unfold kv
  simp only [Op.equal, Op.maxDepth]
  rw [show (10000 : Nat) = 9998 + 2 from rfl, eqA25, eqx_T]
theorem asking_T (t : T) (w : World) : ∀ (es : List MapEntry) (m : List (T × Int)) (i : Nat), es.map ent = m.map pr → (Instr.findAsking 25 (kv t) es i).run Try.prog w = .ok ((mfind t m i).map (fun q => (q.1, Value.int .i64 q.2))) w
  | [], [], i, _ => by simp [Instr.findAsking, mfind]
  | [], _ :: _, _, h => by simp at h
  | _ :: _, [], _, h => by simp at h
  | e :: es, p :: m, i, h => by
    rw [List.map_cons, List.map_cons] at h
    obtain ⟨h1, h2⟩ := List.cons.inj h
    have hk : e.key = kv p.1 := congrArg Prod.fst h1
    have hv : e.val = .int .i64 p.2 := congrArg Prod.snd h1
    have ih := asking_T t w es m (i + 1) h2
    have he := equal_T t p.1 w
    rw [Instr.findAsking, hk, mfind]
    by_cases hq : t = p.1
    · rw [decide_eq_true hq] at he
      rw [if_pos hq]
      simp [Sem.run_bind, he, Result.andThen, hv]
    · rw [decide_eq_false hq] at he
      rw [if_neg hq]
      simp [Sem.run_bind, he, Result.andThen, ih]
theorem find_T (t : T) (w : World) (es : List MapEntry) (m : List (T × Int)) (h : es.map ent = m.map pr) : (Instr.findKey 25 (kv t) es).run Try.prog w = .ok ((mfind t m 0).map (fun q => (q.1, Value.int .i64 q.2))) w := by
  have ha := asking_T t w es m 0 h
  cases es with
  | nil =>
    cases m with
    | nil => simp [Instr.findKey, Instr.findNow, run_underlying Try.underlying25, mfind]
    | cons p m => simp at h
  | cons e es =>
    have hn : ∀ fs, Instr.sameNow (.struct fs) (kv t) e.key = none := fun fs => by simp [Instr.sameNow, kv]
    unfold Instr.findKey
    simp only [Sem.run_bind, run_underlying Try.underlying25, Result.andThen]
    simp only [Instr.findNow, hn]
    exact ha

/-- Block b of w is a map that holds m. -/
def MapIs (w : World) (b : Nat) (m : List (T × Int)) : Prop :=
  ∃ es clock, w.heap[b]? = some (.map es clock) ∧ es.toList.map ent = m.map pr ∧ (es.toList.map (·.born)).Nodup ∧ ∀ e ∈ es.toList, e.born < clock
theorem MapIs.made (w : World) : MapIs (w.alloc (.map #[] 0)) w.heap.size [] := ⟨#[], 0, blk_new _ _, rfl, by simp, by simp⟩
theorem MapIs.lt {w : World} {b : Nat} {m : List (T × Int)} (h : MapIs w b m) : b < w.heap.size := by
  obtain ⟨es, clock, hb, _⟩ := h
  exact (Array.getElem?_eq_some_iff.1 hb).1
theorem MapIs.kept {w w' : World} {b : Nat} {m : List (T × Int)} (h : MapIs w b m) (hb : w'.heap[b]? = w.heap[b]?) : MapIs w' b m := by
  obtain ⟨es, clock, h1, h2⟩ := h
  exact ⟨es, clock, hb.trans h1, h2⟩
theorem MapIs.alloc {w : World} {b : Nat} {m : List (T × Int)} (h : MapIs w b m) (o : Obj) : MapIs (w.alloc o) b m := h.kept (Below.heap_alloc _ _ _ h.lt)

theorem grown_setBlock {w : World} {b : Nat} {es : Array MapEntry} {c : Nat} (hb : w.heap[b]? = some (.map es c)) (o : Obj) : w.grownBy (setBlock w b o) (some b) :=
  ⟨rfl, rfl, rfl, by simp [setBlock], fun k _ hk => by
    have : b ≠ k := fun e => hk (by rw [e])
    simp [setBlock, Array.getElem?_setIfInBounds, this]⟩

/-- v, ok := m[t] -/
theorem look_T {w : World} {b : Nat} {m : List (T × Int)} (h : MapIs w b m) (t : T) :
    Sem.run Try.prog (Instr.lookup 52 (.map (some b)) (kv t) true) w = .ok (match mfind t m 0 with | some q => .tuple #[.int .i64 q.2, .bool true] | none => .tuple #[.int .i64 0, .bool false]) w := by
  obtain ⟨es, clock, hb, hm, _⟩ := h
  have hc := check_T es.isEmpty t w
  have hf := find_T t w es.toList m hm
  have hg : (getObj b).run Try.prog w = .ok (.map es clock) w := by simp [getObj, Sem.run, hb]
  unfold Instr.lookup
  simp only [Sem.run_bind, run_underlying Try.underlying52, Result.andThen, hg]
  cases hq : mfind t m 0 with
  | none =>
    rw [hq] at hf
    simp [hc, hf, Try.zeroValue3]
  | some q =>
    rw [hq] at hf
    simp [hc, hf]
theorem setObj_map {w : World} {b : Nat} {es : Array MapEntry} {c : Nat} (hb : w.heap[b]? = some (.map es c)) (o : Obj) : (setObj b o).run Try.prog w = .ok () (setBlock w b o) := by
  simp [setObj, Sem.run, hb, setBlock]
theorem mfind_at (t : T) : ∀ (m : List (T × Int)) (i j : Nat) (v : Int), mfind t m i = some (j, v) → ∃ n, j = i + n ∧ m[n]? = some (t, v)
  | [], _, _, _, h => by simp [mfind] at h
  | p :: m, i, j, v, h => by
    rw [mfind] at h
    split at h
    · rename_i e
      injection h with h
      injection h with h1 h2
      exact ⟨0, by omega, by simp [e, h2.symm]⟩
    · obtain ⟨n, h1, h2⟩ := mfind_at t m (i + 1) j v h
      exact ⟨n + 1, by omega, by simpa using h2⟩
/-- m[t] = v -/
theorem put_T {w : World} {b : Nat} {m : List (T × Int)} (h : MapIs w b m) (t : T) (v : Int) :
    ∃ w', Sem.run Try.prog (Instr.mapUpdate 52 (.map (some b)) (kv t) (.int .i64 v)) w = .ok () w' ∧ MapIs w' b (mput t v m) ∧ w.grownBy w' (some b) := by
  obtain ⟨es, clock, hb, hm, hn, hl⟩ := h
  have hc := check_T false t w
  have hf := find_T t w es.toList m hm
  have hg : (getObj b).run Try.prog w = .ok (.map es clock) w := by simp [getObj, Sem.run, hb]
  unfold mput
  cases hq : mfind t m 0 with
  | none =>
    rw [hq] at hf
    refine ⟨setBlock w b (.map (es.push ⟨kv t, .int .i64 v, clock⟩) (clock + 1)), ?_, ⟨_, _, ChangeMaps.heap_setBlock_same hb _, ?_, ?_, ?_⟩, grown_setBlock hb _⟩
    · unfold Instr.mapUpdate
      simp only [Sem.run_bind, run_underlying Try.underlying52, Result.andThen, hg, hc, hf, Option.map_none, setObj_map hb]
    · simp [hm, ent, pr]
    · simp only [Array.toList_push, List.map_append, List.map_cons, List.map_nil]
      rw [List.nodup_append]
      refine ⟨hn, by simp, ?_⟩
      intro x hx y hy
      obtain ⟨e, he, rfl⟩ := List.mem_map.1 hx
      have := hl e he
      simp at hy
      omega
    · intro e he
      simp only [Array.toList_push, List.mem_append, List.mem_singleton] at he
      rcases he with he | rfl
      · have := hl e he; omega
      · show clock < clock + 1; omega
  | some q =>
    obtain ⟨i, v0⟩ := q
    rw [hq] at hf
    obtain ⟨n, hin, hmn⟩ := mfind_at t m 0 i v0 hq
    obtain rfl : i = n := by omega
    have hlt : i < es.size := by
      have h1 := congrArg List.length hm
      have h2 := lt_of_get hmn
      simp at h1; omega
    have hkey : es[i].key = kv t := by
      have h1 : (es.toList.map ent)[i]? = (m.map pr)[i]? := by rw [hm]
      rw [List.getElem?_map, List.getElem?_map, hmn, Array.getElem?_toList, Array.getElem?_eq_getElem hlt] at h1
      simp only [Option.map_some, Option.some.injEq] at h1
      exact congrArg Prod.fst h1
    have hsame : Instr.sameBits 10000 (kv t) (kv t) = true := by
      unfold kv
      rw [show (10000 : Nat) = 9999 + 1 from rfl, Instr.sameBits]
      have hs : ∀ (n : Nat) (s : ByteArray), Instr.sameBits n (.string s) (.string s) = true := fun n s => by
        have h1 : (s == s) = true := by rw [beq_toListBytes]; simp
        cases n <;> simp [Instr.sameBits, h1]
      simp [hs]
    have hstay : (Instr.keyThatStays (((es[i]?).map (·.key)).getD (kv t)) (kv t)).run Try.prog w = .ok (kv t) w := by
      rw [Array.getElem?_eq_getElem hlt, Option.map_some, Option.getD_some, hkey]
      simp [Instr.keyThatStays, hsame]
    refine ⟨setBlock w b (.map (es.modify i fun e => { e with key := kv t, val := .int .i64 v }) clock), ?_, ⟨_, _, ChangeMaps.heap_setBlock_same hb _, ?_, ?_, ?_⟩, grown_setBlock hb _⟩
    · unfold Instr.mapUpdate
      simp only [Sem.run_bind, run_underlying Try.underlying52, Result.andThen, hg, hc, hf, Option.map_some, hstay, setObj_map hb]
    · apply List.ext_getElem?
      intro j
      have h1 : (es.toList.map ent)[j]? = (m.map pr)[j]? := by rw [hm]
      simp only [List.getElem?_map, Array.getElem?_toList, Array.getElem?_modify, List.getElem?_set] at h1 ⊢
      by_cases hj : i = j
      · subst hj
        have h2 := lt_of_get hmn
        simp [Array.getElem?_eq_getElem hlt, ent, pr, h2]
      · simp [hj, h1]
    · have e : ((es.modify i fun e => { e with key := kv t, val := Value.int .i64 v }).toList.map (·.born)) = es.toList.map (·.born) := by
        apply List.ext_getElem?
        intro j
        simp only [List.getElem?_map, Array.getElem?_toList, Array.getElem?_modify]
        by_cases hj : i = j
        · subst hj; simp only [if_true, Option.map_map]; cases es[i]? <;> rfl
        · simp [hj]
      rw [e]; exact hn
    · intro e he
      rw [Array.mem_toList_iff, Array.mem_iff_getElem?] at he
      obtain ⟨j, hj⟩ := he
      rw [Array.getElem?_modify] at hj
      split at hj
      · obtain ⟨e0, h0, rfl⟩ := Option.map_eq_some_iff.1 hj
        exact hl e0 (by rw [Array.mem_toList_iff, Array.mem_iff_getElem?]; exact ⟨j, h0⟩)
      · exact hl e (by rw [Array.mem_toList_iff, Array.mem_iff_getElem?]; exact ⟨j, hj⟩)
/-- delete(m, t) -/
theorem del_T {w : World} {b : Nat} {m : List (T × Int)} (h : MapIs w b m) (t : T) :
    ∃ w', (∀ ty, Sem.run Try.prog (Builtin.delete_ #[52, 25] ty #[.map (some b), kv t]) w = .ok (.tuple #[]) w') ∧ MapIs w' b (mdel t m) ∧ w.grownBy w' (some b) := by
  obtain ⟨es, clock, hb, hm, hn, hl⟩ := h
  have hc := check_T es.isEmpty t w
  have hf := find_T t w es.toList m hm
  have hg : (getObj b).run Try.prog w = .ok (.map es clock) w := by simp [getObj, Sem.run, hb]
  unfold mdel
  cases hq : mfind t m 0 with
  | none =>
    rw [hq] at hf
    refine ⟨setBlock w b (.map es clock), fun ty => ?_, ⟨_, _, ChangeMaps.heap_setBlock_same hb _, hm, hn, hl⟩, grown_setBlock hb _⟩
    unfold Builtin.delete_
    simp [Sem.run_bind, run_underlying Try.underlying52, Result.andThen, hg, hc, hf, setObj_map hb]
  | some q =>
    obtain ⟨i, v0⟩ := q
    rw [hq] at hf
    have ht : (es.eraseIdxIfInBounds i).toList = es.toList.eraseIdx i := by
      unfold Array.eraseIdxIfInBounds
      split
      · simp
      · rename_i hh
        rw [List.eraseIdx_of_length_le (by simp; omega)]
    refine ⟨setBlock w b (.map (es.eraseIdxIfInBounds i) clock), fun ty => ?_, ⟨_, _, ChangeMaps.heap_setBlock_same hb _, ?_, ?_, ?_⟩, grown_setBlock hb _⟩
    · unfold Builtin.delete_
      simp [Sem.run_bind, run_underlying Try.underlying52, Result.andThen, hg, hc, hf, setObj_map hb]
    · rw [ht, ChangeMaps.map_eraseIdx, ChangeMaps.map_eraseIdx, hm]
    · rw [ht, ChangeMaps.map_eraseIdx]; exact hn.sublist (List.eraseIdx_sublist _ _)
    · intro e he
      rw [ht] at he
      exact hl e ((List.eraseIdx_sublist _ _).subset he)
end Go.Proofs.Ytgdmdhhihoifkaa.Pr

namespace Go.Proofs.Ytgdmdhhihoifkaa.Pr
open Go.Shelf Go.RowKit Go.Lib Go.Sort Go.Proofs.Ytgdmdhhihoifkaa
open Go.Proofs.YtgdmdhhihoifkaaW.PrintWords Go.Proofs.YtgdmdhhihoifkaaW.PrintLast Go.Proofs.YtgdmdhhihoifkaaW.PrintMore
open Go.ChangeMaps (setBlock)

/-- Block r is an iterator over the map in block b; acc has come, n keys are left. -/
def RngIs (w : World) (r b : Nat) (ks acc : List T) (n : Nat) : Prop :=
  ∃ es clock since seen c L, w.heap[b]? = some (.map es clock) ∧ w.heap[r]? = some (.mapIter (some b) since seen c) ∧ (es.toList.map (·.born)).Nodup ∧ (∀ e ∈ es.toList, e.born < since) ∧ (since ≤ c ∧ since ≤ clock) ∧
    (leftOf es seen).toList.map (·.key) = L.map kv ∧ L.length = n ∧ (acc ++ L).Perm ks
theorem RngIs.kept {w w' : World} {r b : Nat} {ks acc : List T} {n : Nat} (h : RngIs w r b ks acc n) (hb : w'.heap[b]? = w.heap[b]?) (hr : w'.heap[r]? = w.heap[r]?) : RngIs w' r b ks acc n := by
  obtain ⟨es, clock, since, seen, c, L, h1, h2, h3⟩ := h
  exact ⟨es, clock, since, seen, c, L, hb.trans h1, hr.trans h2, h3⟩
theorem RngIs.lt {w : World} {r b : Nat} {ks acc : List T} {n : Nat} (h : RngIs w r b ks acc n) : r < w.heap.size ∧ b < w.heap.size := by
  obtain ⟨es, clock, since, seen, c, L, h1, h2, h3⟩ := h
  exact ⟨(Array.getElem?_eq_some_iff.1 h2).1, (Array.getElem?_eq_some_iff.1 h1).1⟩
theorem map_kv {m : List (T × Int)} {l : List MapEntry} (h : l.map ent = m.map pr) : l.map (·.key) = (m.map Prod.fst).map kv := by
  have h1 : (l.map ent).map Prod.fst = (m.map pr).map Prod.fst := by rw [h]
  simpa [List.map_map, ent, pr, Function.comp_def] using h1
theorem rng_start {w : World} {b : Nat} {m : List (T × Int)} (h : MapIs w b m) :
    ∃ o, Sem.run Try.prog (Instr.range 52 (.map (some b))) w = .ok (.pointer (some ⟨w.heap.size, 0, none⟩)) (w.alloc o) ∧ RngIs (w.alloc o) w.heap.size b (m.map Prod.fst) [] m.length := by
  obtain ⟨es, clock, hb, hm, hn, hl⟩ := h
  refine ⟨.mapIter (some b) clock #[] clock, ?_, es, clock, clock, #[], clock, m.map Prod.fst, (Below.heap_alloc _ _ _ (Array.getElem?_eq_some_iff.1 hb).1).trans hb, blk_new _ _, hn, hl, ⟨Nat.le_refl _, Nat.le_refl _⟩, ?_, by simp, List.Perm.refl _⟩
  · have hg : (getObj b).run Try.prog w = .ok (.map es clock) w := by simp [getObj, Sem.run, hb]
    unfold Instr.range
    simp [Sem.run_bind, run_underlying Try.underlying52, hg, Result.andThen]
  · have : leftOf es #[] = es := by unfold leftOf; simp
    rw [this, map_kv hm]
theorem left_push (es : Array MapEntry) (seen : Array Nat) (e : MapEntry) : (leftOf es (seen.push e.born)).toList = (leftOf es seen).toList.filter (fun x => decide (x.born ≠ e.born)) := by
  unfold leftOf
  simp only [Array.toList_filter, List.filter_filter]
  apply List.filter_congr
  intro x _
  by_cases h : x.born = e.born <;> simp [h]
theorem rng_next {w : World} {r b : Nat} {ks acc : List T} {n : Nat} (h : RngIs w r b ks acc n) :
    (n = 0 ∧ acc.Perm ks ∧ ∀ ty, Sem.run Try.prog (Instr.next (.pointer (some ⟨r, 0, none⟩)) false ty) w = .ok (.tuple #[.bool false]) w) ∨
    ∃ t w' n', n = n' + 1 ∧ (∃ u, (∀ ty, Sem.run Try.prog (Instr.next (.pointer (some ⟨r, 0, none⟩)) false ty) w = .ok (.tuple #[.bool true, kv t, u]) w') ∧ Sem.run Try.prog (Instr.entry (.pointer (some ⟨r, 0, none⟩))) w' = .ok (.tuple #[kv t, u]) w') ∧ RngIs w' r b ks (acc ++ [t]) n' ∧ w.grownBy w' (some r) := by
  obtain ⟨es, clock, since, seen, c, L, hb, hr, hn, hl, ⟨hsc, hsk⟩, hL, hLn, hp⟩ := h
  have hne : r ≠ b := by rintro rfl; rw [hr] at hb; cases hb
  rcases run_next_at (P := Try.prog) w 0 r b since c seen es clock hr hb hl hsc with ⟨h0, _⟩ | ⟨_, he0, _⟩
  · left
    have hL0 : L = [] := by
      have h1 := congrArg List.length hL
      simp [h0] at h1
      exact List.eq_nil_of_length_eq_zero h1.symm
    subst hL0
    refine ⟨by simpa using hLn.symm, by simpa using hp, fun ty => ?_⟩
    rcases run_next_at (P := Try.prog) w ty r b since c seen es clock hr hb hl hsc with ⟨_, h1⟩ | ⟨e, he, _⟩
    · exact h1
    · have : (leftOf es seen).toList.length = 0 := by simpa using h0
      rw [List.eq_nil_of_length_eq_zero this] at he
      cases he
  · right
    rcases run_next_at (P := Try.prog) w 0 r b since c seen es clock hr hb hl hsc with ⟨h0, _⟩ | ⟨e, he, w1, hw1, hrun⟩
    · have : (leftOf es seen).toList.length = 0 := by simpa using h0
      rw [List.eq_nil_of_length_eq_zero this] at he0
      cases he0
    · have hb1 : w1.heap[b]? = some (.map es clock) := by rcases hw1 with rfl | rfl <;> exact hb
      have hr1 : w1.heap[r]? = some (.mapIter (some b) since seen c) := by rcases hw1 with rfl | rfl <;> exact hr
      have hes : e ∈ es.toList := by
        unfold leftOf at he
        rw [Array.toList_filter] at he
        exact (List.mem_filter.1 he).1
      have hkm : e.key ∈ L.map kv := by rw [← hL]; exact List.mem_map_of_mem he
      obtain ⟨t, htL, hkt⟩ := List.mem_map.1 hkm
      have hlt : r < w1.heap.size := (Array.getElem?_eq_some_iff.1 hr1).1
      have hb2 : (setBlock w1 r (.mapIter (some b) since (seen.push e.born) clock)).heap[b]? = some (.map es clock) := by
        unfold setBlock
        rw [Array.getElem?_setIfInBounds_ne hne]
        exact hb1
      have hr2 : (setBlock w1 r (.mapIter (some b) since (seen.push e.born) clock)).heap[r]? = some (.mapIter (some b) since (seen.push e.born) clock) := by
        unfold setBlock
        rw [Array.getElem?_setIfInBounds_self_of_lt hlt]
      -- the rest of the keys
      have hnd : ((leftOf es seen).toList.map (·.born)).Nodup := by
        unfold leftOf
        rw [Array.toList_filter]
        exact hn.sublist (List.filter_sublist.map _)
      obtain ⟨l1, l2, hl12⟩ := List.append_of_mem he
      have hflt : (leftOf es (seen.push e.born)).toList = l1 ++ l2 := by
        rw [left_push, hl12]
        rw [hl12, List.map_append, List.map_cons, List.nodup_append] at hnd
        obtain ⟨_, hn2, hn3⟩ := hnd
        rw [List.nodup_cons] at hn2
        rw [List.filter_append, List.filter_cons_of_neg (by simp)]
        rw [List.filter_eq_self.2, List.filter_eq_self.2]
        · intro x hx
          have : x.born ≠ e.born := fun h => hn2.1 (by rw [← h]; exact List.mem_map_of_mem hx)
          simpa using this
        · intro x hx
          have := hn3 x.born (List.mem_map_of_mem hx) e.born (by simp)
          simpa using this
      rw [hl12, List.map_append, List.map_cons] at hL
      have hLs : ∃ L1 L2, L = L1 ++ t :: L2 ∧ l1.map (·.key) = L1.map kv ∧ l2.map (·.key) = L2.map kv := by
        have hlen : l1.length < L.length := by
          have := congrArg List.length hL
          simp at this; omega
        refine ⟨L.take l1.length, L.drop (l1.length + 1), ?_, ?_, ?_⟩
        · have hx : L[l1.length] = t := by
            have h1 : (L.map kv)[l1.length]? = some e.key := by rw [← hL]; simp
            rw [List.getElem?_map, List.getElem?_eq_getElem hlen] at h1
            simp only [Option.map_some, Option.some.injEq] at h1
            exact kv_inj.1 (h1.trans hkt.symm)
          rw [← hx]
          conv => lhs; rw [← List.take_append_drop l1.length L, List.drop_eq_getElem_cons hlen]
        · have := congrArg (List.take l1.length) hL
          rw [List.take_left' (by simp), ← List.map_take] at this
          exact this
        · have := congrArg (List.drop (l1.length + 1)) hL
          rw [← List.map_drop] at this
          rw [← this]
          simp [List.drop_append]
      obtain ⟨L1, L2, rfl, hL1, hL2⟩ := hLs
      refine ⟨t, _, L1.length + L2.length, by simp at hLn; omega, ⟨e.val, fun ty => ?_, ?_⟩, ⟨es, clock, since, seen.push e.born, clock, L1 ++ L2, hb2, hr2, hn, hl, ⟨hsk, hsk⟩, ?_, by simp, ?_⟩, ?_⟩
      · rw [hkt]; exact hrun
      · rw [hkt]; exact run_entry_at _ r b since seen es clock e hr2 hb2 hes hn
      · rw [hflt, List.map_append, List.map_append, hL1, hL2]
      · refine List.Perm.trans ?_ hp
        rw [List.append_assoc]
        exact List.Perm.append_left _ (by simpa using (List.perm_middle (a := t) (l₁ := L1) (l₂ := L2)).symm)
      · have hg : w.grownBy w1 none := by
          rcases hw1 with rfl | rfl
          · exact World.grownBy.refl _ _
          · exact ⟨rfl, rfl, rfl, Nat.le_refl _, fun _ _ _ => rfl⟩
        refine ⟨hg.os, hg.tape, hg.output, by simpa [setBlock] using hg.size, fun k hk hkr => ?_⟩
        have : r ≠ k := fun e => hkr (by rw [e])
        unfold setBlock
        rw [Array.getElem?_setIfInBounds_ne this]
        exact hg.block k hk (by simp)
end Go.Proofs.Ytgdmdhhihoifkaa.Pr

namespace Go.Proofs.Ytgdmdhhihoifkaa
open Go.Shelf Go.RowKit Go.Lib Go.Sort

structure StRowF (P : Program) (k : Nat) : Prop where
  mixed : P.follows .mixedOrders = true
  t0 : P.underlying 0 = some (TypeDesc.tuple #[])
  t3 : P.underlying 3 = some (TypeDesc.int IntKind.i64)
  a3 : ∀ w, (isAgg 3).run P w = .ok false w
  z3 : ∀ w, (Go.sizeOf 3).run P w = .ok 1 w
  v3 : ∀ w, (zeroValue 3).run P w = .ok (Value.int IntKind.i64 0) w
  t4 : P.underlying 4 = some (TypeDesc.bool)
  a4 : ∀ w, (isAgg 4).run P w = .ok false w
  z4 : ∀ w, (Go.sizeOf 4).run P w = .ok 1 w
  v4 : ∀ w, (zeroValue 4).run P w = .ok (Value.bool false) w
  t22 : P.underlying 30 = some (TypeDesc.slice 51)
  a22 : ∀ w, (isAgg 30).run P w = .ok false w
  z22 : ∀ w, (Go.sizeOf 30).run P w = .ok 1 w
  v22 : ∀ w, (zeroValue 30).run P w = .ok (Value.slice none 0 0) w
  t25 : P.underlying 58 = some (TypeDesc.func #[51, 51] #[3] false)
  a25 : ∀ w, (isAgg 58).run P w = .ok false w
  z25 : ∀ w, (Go.sizeOf 58).run P w = .ok 1 w
  v25 : ∀ w, (zeroValue 58).run P w = .ok (Value.nilFunc) w
  t84 : P.underlying 84 = some (TypeDesc.int IntKind.u64)
  a84 : ∀ w, (isAgg 84).run P w = .ok false w
  z84 : ∀ w, (Go.sizeOf 84).run P w = .ok 1 w
  v84 : ∀ w, (zeroValue 84).run P w = .ok (Value.int IntKind.u64 0) w
  aE : ∀ w, (isAgg 51).run P w = .ok true w
  zE : ∀ w, (Go.sizeOf 51).run P w = .ok k w
  fswap : P.funcs[83]? = some Try.f83
  frot : P.funcs[72]? = some Try.f72
  fins : P.funcs[49]? = some Try.f49
  fsym : P.funcs[50]? = some Try.f50
  fstab : P.funcs[39]? = some Try.f39
  fsort : P.funcs[21]? = some Try.f21

theorem StRowF.here : StRowF Try.prog 5 :=
  ⟨by kernel_rfl, Try.underlying0, Try.underlying3, Try.isAgg3, Try.sizeOf3, Try.zeroValue3, Try.underlying4, Try.isAgg4, Try.sizeOf4, Try.zeroValue4, Try.underlying30, Try.isAgg30, Try.sizeOf30, Try.zeroValue30,
    Try.underlying58, Try.isAgg58, Try.sizeOf58, Try.zeroValue58, Try.underlying84, Try.isAgg84, Try.sizeOf84, Try.zeroValue84, Try.isAgg51, Try.sizeOf51, Try.func83, Try.func72, Try.func49, Try.func50, Try.func39, Try.func21⟩

variable {P : Program} {α : Type} [Inhabited α]

theorem StRow.cong {enc : α → List Value} {k : Nat} {w0 w : World} {blk off : Nat} {X Y : List α} (S : SWK enc k w0 blk off X.toArray w) (h : X = Y) : SWK enc k w0 blk off Y.toArray w := h ▸ S

set_option maxHeartbeats 4000000 in
set_option maxRecDepth 1000000 in
/-- Two ranges of one length exchanged. -/
theorem StRow.swapRange {k : Nat} (L : StRowF P k) (enc : α → List Value) (g : Nat) (cb : Array Value) (blk off cap a b n sz : Nat) (X U M V Y : List α) (d0 : Array α) (w0 w : World) (R : RowK enc k w0 blk off d0)
    (ha : a = X.length) (hb : b = X.length + U.length + M.length) (hn : n = U.length) (hv : V.length = n) (hz : sz = X.length + U.length + M.length + V.length + Y.length) (hs : d0.size = sz) (hbig : sz < 4611686018427387904)
    (S : SWK enc k w0 blk off (X ++ U ++ M ++ V ++ Y).toArray w) :
    Calls P 83 #[.slice (some ⟨blk, off, none⟩) sz cap, .int .i64 a, .int .i64 b, .int .i64 n, .func (.func g) #[] cb] w fun e w' => e = .returned (.tuple #[]) ∧ SWK enc k w0 blk off (X ++ V ++ M ++ U ++ Y).toArray w' := by
  have mixed := L.mixed; have t3 := L.t3; have a3 := L.a3; have z3 := L.z3; have v3 := L.v3; have t4 := L.t4; have a4 := L.a4; have z4 := L.z4; have v4 := L.v4; have t22 := L.t22; have a22 := L.a22; have z22 := L.z22; have v22 := L.v22; have t25 := L.t25; have a25 := L.a25; have z25 := L.z25; have v25 := L.v25; have aE := L.aE; have zE := L.zE
  have HE : Hid (a = X.length ∧ b = X.length + U.length + M.length ∧ n = U.length ∧ V.length = n ∧ sz = X.length + U.length + M.length + V.length + Y.length ∧ d0.size = sz) := ⟨ha, hb, hn, hv, hz, hs⟩
  have S0 : Aside (SWK enc k w0 blk off (X ++ U ++ M ++ V ++ Y).toArray w) := S
  have b1 : a + n ≤ b := by omega
  have b2 : b + n ≤ sz := by omega
  clear S ha hb hn hv hz hs
  go_enter L.fswap, Try.ntmps83
  go_wp2
  go_loopg [10] n (fun gk s10 wr => ∃ (i : Nat) (U1 U2 V1 V2 : List α), s10 = .int .i64 i ∧ i ≤ n ∧ n - i ≤ gk ∧ Hid (U = U1 ++ U2 ∧ V = V1 ++ V2 ∧ U1.length = i ∧ V1.length = i) ∧ Aside (SWK enc k w0 blk off (X ++ V1 ++ U2 ++ M ++ U1 ++ V2 ++ Y).toArray wr))
  case atStart => exact ⟨0, [], U, [], V, rfl, Nat.zero_le _, by omega, ⟨rfl, rfl, rfl, rfl⟩, by rw [List.append_nil, List.append_nil]; exact S0⟩
  case round =>
    clear S0
    obtain ⟨i, U1, U2, V1, V2, rfl, hin, hg, HU, S1⟩ := hrel
    by_cases hlt : i < n
    · have hltz : (i : Int) < (n : Int) := by omega
      obtain ⟨u, U3, hU2⟩ : ∃ u U3, U2 = u :: U3 := by
        cases U2 with
        | nil => exfalso; have h1 := HU.out; have h2 := HE.out; rw [h1.1] at h2; simp at h2; omega
        | cons u U3 => exact ⟨u, U3, rfl⟩
      obtain ⟨v, V3, hV2⟩ : ∃ v V3, V2 = v :: V3 := by
        cases V2 with
        | nil => exfalso; have h1 := HU.out; have h2 := HE.out; rw [h1.2.1] at h2; simp at h2; omega
        | cons v V3 => exact ⟨v, V3, rfl⟩
      subst hU2 hV2
      have hsz' : ((X ++ V1) ++ u :: ((U3 ++ M ++ U1) ++ v :: (V3 ++ Y))).toArray.size = d0.size := by
        have h1 := HU.out; have h2 := HE.out; rw [h1.1, h1.2.1] at h2; simp at h2 ⊢; omega
      have hbnd : ((X ++ V1) ++ u :: ((U3 ++ M ++ U1) ++ v :: (V3 ++ Y))).toArray.size = sz := hsz'.trans HE.out.2.2.2.2.2
      have hi0 : a + i = (X ++ V1).length := by have h1 := HU.out; have h2 := HE.out; simp; omega
      have hj0 : b + i = (X ++ V1).length + 1 + (U3 ++ M ++ U1).length := by have h1 := HU.out; have h2 := HE.out; rw [h1.1] at h2; simp at h2 ⊢; omega
      have S2 : Aside (SWK enc k w0 blk off ((X ++ V1) ++ u :: ((U3 ++ M ++ U1) ++ v :: (V3 ++ Y))).toArray wr) := by
        have e : ((X ++ V1) ++ u :: ((U3 ++ M ++ U1) ++ v :: (V3 ++ Y))) = X ++ V1 ++ (u :: U3) ++ M ++ U1 ++ (v :: V3) ++ Y := by simp [List.append_assoc]
        rw [e]; exact S1
      have gi : ((X ++ V1) ++ u :: ((U3 ++ M ++ U1) ++ v :: (V3 ++ Y))).toArray[a + i]! = u := by rw [hi0]; exact get_mid _ _ _
      have gj : ((X ++ V1) ++ u :: ((U3 ++ M ++ U1) ++ v :: (V3 ++ Y))).toArray[b + i]! = v := by
        have := get_mid ((X ++ V1) ++ u :: (U3 ++ M ++ U1)) v (V3 ++ Y)
        have e : ((X ++ V1) ++ u :: (U3 ++ M ++ U1)) ++ v :: (V3 ++ Y) = ((X ++ V1) ++ u :: ((U3 ++ M ++ U1) ++ v :: (V3 ++ Y))) := by simp
        rw [e] at this
        have hl : (X ++ V1).length + 1 + (U3 ++ M ++ U1).length = ((X ++ V1) ++ u :: (U3 ++ M ++ U1)).length := by simp only [List.length_append, List.length_cons]; omega
        rw [hj0, hl]; exact this
      have hsw := swp_split (X ++ V1) (U3 ++ M ++ U1) (V3 ++ Y) u v (a + i) (b + i) hi0 hj0
      have S3 := S2.out.swapped R (a + i) (b + i) (by omega) (by omega)
      have l1 := S2.out.ld1 R hsz' P (a + i) (by omega)
      have l2 := S2.out.ld1 R hsz' P (b + i) (by omega)
      have s1 := S2.out.st1 R hsz' P (a + i) (by omega) v
      have s2 := S2.out.st2 R hsz' P (a + i) (b + i) (by omega) (by omega) v u
      rw [hsw, gi, gj] at S3
      rw [gi] at l1
      rw [gj] at l2
      have S3' : Aside _ := S3
      have HW : Hid ((X ++ V1) ++ v :: ((U3 ++ M ++ U1) ++ u :: (V3 ++ Y)) = X ++ (V1 ++ [v]) ++ U3 ++ M ++ (U1 ++ [u]) ++ V3 ++ Y) := by show _ = _; simp [List.append_assoc]
      have HU' : Hid (U = (U1 ++ [u]) ++ U3 ∧ V = (V1 ++ [v]) ++ V3 ∧ (U1 ++ [u]).length = i + 1 ∧ (V1 ++ [v]).length = i + 1) := by
        have h1 := HU.out
        exact ⟨by rw [h1.1]; simp, by rw [h1.2.1]; simp, by simp; omega, by simp; omega⟩
      clear hsz' hbnd hi0 hj0 S1 S2 gi gj hsw S3 HU
      have n1 : (enc u).length = k := R.hk _
      have n2 : (enc v).length = k := R.hk _
      generalize enc u = cI at S3' l1 s2 n1
      generalize enc v = cJ at S3' l2 s1 s2 n2
      have ea : ((a : Int) + (i : Int)).toNat = a + i := by omega
      have pa : (0 : Int) ≤ (a : Int) + (i : Int) := by omega
      have ba : (a : Int) + (i : Int) < (sz : Int) := by omega
      have ra : IntKind.i64.wrap ((a : Int) + (i : Int)) = (a : Int) + (i : Int) := by rw [IntKind.wrap_i64]; omega
      have ec : ((b : Int) + (i : Int)).toNat = b + i := by omega
      have pc : (0 : Int) ≤ (b : Int) + (i : Int) := by omega
      have bc : (b : Int) + (i : Int) < (sz : Int) := by omega
      have rc : IntKind.i64.wrap ((b : Int) + (i : Int)) = (b : Int) + (i : Int) := by rw [IntKind.wrap_i64]; omega
      go_wp2_with fail
      go_big_region_o
      clear l1 l2 s1 s2 ea ec ra rc
      generalize (wr.drew.setCells blk (off + (a + i) * k) cJ).setCells blk (off + (b + i) * k) cI = w2 at S3' ⊢
      go_wp2
      go_roundg (n - (i + 1))
      case measure => omega
      case rel => exact ⟨i + 1, U1 ++ [u], U3, V1 ++ [v], V3, by go_num, by omega, Nat.le_refl _, HU', by rw [← HW.out]; exact S3'⟩
    · go_wp2
      go_end0
      refine ⟨rfl, ?_⟩
      have h1 := HU.out; have h2 := HE.out
      have hU2 : U2 = [] := by
        have := congrArg List.length h1.1; simp at this; exact List.eq_nil_of_length_eq_zero (by omega)
      have hV2 : V2 = [] := by
        have := congrArg List.length h1.2.1; simp at this; exact List.eq_nil_of_length_eq_zero (by omega)
      have S3 := S1.out
      rw [hU2, hV2] at S3
      rw [hU2, List.append_nil] at h1
      rw [h1.1, h1.2.1, hV2]
      simpa using S3
end Go.Proofs.Ytgdmdhhihoifkaa

namespace Go.Proofs.Ytgdmdhhihoifkaa
open Go.Shelf Go.RowKit Go.Lib Go.Sort
variable {P : Program} {α : Type} [Inhabited α]

set_option maxHeartbeats 4000000 in
set_option maxRecDepth 1000000 in
/-- Two blocks one behind the other, exchanged. -/
theorem StRow.rotate {k : Nat} (L : StRowF P k) (enc : α → List Value) (g : Nat) (cb : Array Value) (blk off cap a m b sz : Nat) (X U V Y : List α) (d0 : Array α) (w0 w : World) (R : RowK enc k w0 blk off d0)
    (ha : a = X.length) (hm : m = X.length + U.length) (hb : b = X.length + U.length + V.length) (hU : 0 < U.length) (hV : 0 < V.length) (hz : sz = X.length + U.length + V.length + Y.length) (hs : d0.size = sz) (hbig : sz < 4611686018427387904)
    (S : SWK enc k w0 blk off (X ++ U ++ V ++ Y).toArray w) :
    Calls P 72 #[.slice (some ⟨blk, off, none⟩) sz cap, .int .i64 a, .int .i64 m, .int .i64 b, .func (.func g) #[] cb] w fun e w' => e = .returned (.tuple #[]) ∧ SWK enc k w0 blk off (X ++ V ++ U ++ Y).toArray w' := by
  have mixed := L.mixed; have t3 := L.t3; have a3 := L.a3; have z3 := L.z3; have v3 := L.v3; have t4 := L.t4; have a4 := L.a4; have z4 := L.z4; have v4 := L.v4; have t22 := L.t22; have a22 := L.a22; have z22 := L.z22; have v22 := L.v22; have t25 := L.t25; have a25 := L.a25; have z25 := L.z25; have v25 := L.v25; have aE := L.aE; have zE := L.zE
  have e83 : ∀ args w, (callFunc 83 args).run P w = .ok (.enter 83 args) w := enters_of L.fswap (by kernel_rfl) rfl
  have HE : Hid (a = X.length ∧ m = X.length + U.length ∧ b = X.length + U.length + V.length ∧ sz = X.length + U.length + V.length + Y.length ∧ d0.size = sz) := ⟨ha, hm, hb, hz, hs⟩
  have S0 : Aside (SWK enc k w0 blk off (X ++ U ++ V ++ Y).toArray w) := S
  have b1 : a < m := by omega
  have b2 : m < b := by omega
  have b3 : b ≤ sz := by omega
  clear S ha hm hb hU hV hz hs
  go_enter L.frot, Try.ntmps72
  go_wp2
  go_loopg [10, 11] (m - a + (b - m)) (fun gk s10 s11 wr => ∃ (i j : Nat) (A U1 V1 Z : List α), s10 = .int .i64 i ∧ s11 = .int .i64 j ∧ 1 ≤ i ∧ 1 ≤ j ∧ a + i ≤ m ∧ m + j ≤ b ∧ i + j ≤ gk ∧
    Hid (U1.length = i ∧ V1.length = j ∧ X.length + A.length + i = m ∧ V ++ U = A ++ V1 ++ U1 ++ Z) ∧ Aside (SWK enc k w0 blk off ((X ++ A) ++ U1 ++ V1 ++ (Z ++ Y)).toArray wr))
  case atStart =>
    refine ⟨m - a, b - m, [], U, V, [], ?_, ?_, by omega, by omega, by omega, by omega, Nat.le_refl _, ?_, ?_⟩
    · rw [show ((m - a : Nat) : Int) = (m : Int) - (a : Int) from by omega]
    · rw [show ((b - m : Nat) : Int) = (b : Int) - (m : Int) from by omega]
    · have h2 := HE.out
      exact ⟨by omega, by omega, by simp; omega, by simp⟩
    · rw [List.append_nil, List.nil_append]; exact S0
  case round =>
    clear S0
    obtain ⟨i, j, A, U1, V1, Z, rfl, rfl, hi1, hj1, hai, hmj, hg, HU, S1⟩ := hrel
    have hlen : X.length + A.length + U1.length + V1.length + Z.length + Y.length = sz := by
      have h1 := HU.out; have h2 := HE.out
      have h3 := congrArg List.length h1.2.2.2
      simp at h3; omega
    have HL : Aside (X.length + A.length + U1.length + V1.length + Z.length + Y.length = sz) := hlen
    clear hlen
    have zmi : ((m - i : Nat) : Int) = (m : Int) - (i : Int) := by omega
    rcases Nat.lt_trichotomy i j with hij | hij | hij
    · -- i < j: the last i of V1 come to the front
      have hne : ((i : Int) != (j : Int)) = true := by rw [bne_iff_ne]; omega
      have hgt : ¬ ((j : Int) < (i : Int)) := by omega
      have hijz : (i : Int) < (j : Int) := by omega
      obtain ⟨V2, V3, hV, hV2⟩ : ∃ V2 V3, V1 = V2 ++ V3 ∧ V2.length = j - i := ⟨V1.take (j - i), V1.drop (j - i), (List.take_append_drop _ _).symm, by have := HU.out; simp; omega⟩
      have hV3 : V3.length = i := by have h1 := HU.out; rw [hV] at h1; simp at h1; omega
      have hc := StRow.swapRange L enc g cb blk off cap (m - i) (m + j - i) i sz (X ++ A) U1 V2 V3 (Z ++ Y) d0 w0 wr R (by have h1 := HU.out; simp; omega) (by have h1 := HU.out; simp; omega) (by have h1 := HU.out; omega) hV3
        (by have h1 := HL.out; rw [hV] at h1; simp at h1 ⊢; omega) HE.out.2.2.2.2 hbig (by have := S1.out; rw [hV] at this; simpa [List.append_assoc] using this)
      rw [zmi, show ((m + j - i : Nat) : Int) = (m : Int) + (j : Int) - (i : Int) from by omega] at hc
      have HU2 : Hid (V3.length = i ∧ V2.length = j - i ∧ X.length + A.length + i = m ∧ V ++ U = A ++ V2 ++ V3 ++ (U1 ++ Z)) := by
        have h1 := HU.out
        exact ⟨hV3, hV2, h1.2.2.1, by rw [h1.2.2.2, hV]; simp⟩
      have HC : Hid (type_of% hc) := hc
      clear hc zmi hV hV2 hV3 HU S1 HL
      go_wp2_with (go_at_fn 83; refine HC.out.mono ?_; rintro e w' ⟨rfl, S2⟩; have S3 : Aside _ := S2; clear S2)
      go_roundg (i + (j - i))
      case measure => omega
      case rel => exact ⟨i, j - i, A, V3, V2, U1 ++ Z, rfl, by rw [show ((j - i : Nat) : Int) = (j : Int) - (i : Int) from by omega], hi1, by omega, hai, by omega, Nat.le_refl _, HU2, by exact StRow.cong S3.out (by simp [List.append_assoc])⟩
    · -- i = j
      subst hij
      have hne : ((i : Int) != (i : Int)) = false := by simp
      have hc := StRow.swapRange L enc g cb blk off cap (m - i) m i sz (X ++ A) U1 [] V1 (Z ++ Y) d0 w0 wr R (by have h1 := HU.out; simp; omega) (by have h1 := HU.out; simp; omega) (by have h1 := HU.out; omega) (by have h1 := HU.out; omega)
        (by have h1 := HL.out; simp; omega) HE.out.2.2.2.2 hbig (by have := S1.out; simpa [List.append_assoc] using this)
      rw [zmi] at hc
      have HC : Hid (type_of% hc) := hc
      clear hc zmi S1 HL
      go_wp2_with (go_at_fn 83; refine HC.out.mono ?_; rintro e w' ⟨rfl, S2⟩; have S3 : Aside _ := S2; clear S2)
      go_end0
      refine ⟨rfl, ?_⟩
      have h1 := HU.out.2.2.2
      have e : X ++ V ++ U ++ Y = (X ++ A) ++ V1 ++ [] ++ U1 ++ (Z ++ Y) := by
        rw [List.append_assoc X V U, h1]; simp [List.append_assoc]
      rw [e]
      exact S3.out
    · -- j < i: the first j of U1 go to the end
      have hne : ((i : Int) != (j : Int)) = true := by rw [bne_iff_ne]; omega
      have hgt : (j : Int) < (i : Int) := by omega
      obtain ⟨U2, U3, hU, hU2⟩ : ∃ U2 U3, U1 = U2 ++ U3 ∧ U2.length = j := ⟨U1.take j, U1.drop j, (List.take_append_drop _ _).symm, by have := HU.out; simp; omega⟩
      have hU3 : U3.length = i - j := by have h1 := HU.out; rw [hU] at h1; simp at h1; omega
      have hc := StRow.swapRange L enc g cb blk off cap (m - i) m j sz (X ++ A) U2 U3 V1 (Z ++ Y) d0 w0 wr R (by have h1 := HU.out; simp; omega) (by have h1 := HU.out; simp; omega) hU2.symm (by have h1 := HU.out; omega)
        (by have h1 := HL.out; rw [hU] at h1; simp at h1 ⊢; omega) HE.out.2.2.2.2 hbig (by have := S1.out; rw [hU] at this; simpa [List.append_assoc] using this)
      rw [zmi] at hc
      have HU4 : Hid (U3.length = i - j ∧ U2.length = j ∧ X.length + (A ++ V1).length + (i - j) = m ∧ V ++ U = (A ++ V1) ++ U2 ++ U3 ++ Z) := by
        have h1 := HU.out
        exact ⟨hU3, hU2, by simp; omega, by rw [h1.2.2.2, hU]; simp⟩
      have HC : Hid (type_of% hc) := hc
      clear hc zmi hU hU2 hU3 HU S1 HL
      go_wp2_with (go_at_fn 83; refine HC.out.mono ?_; rintro e w' ⟨rfl, S2⟩; have S3 : Aside _ := S2; clear S2)
      go_roundg (i - j + j)
      case measure => omega
      case rel => exact ⟨i - j, j, A ++ V1, U3, U2, Z, by rw [show ((i - j : Nat) : Int) = (i : Int) - (j : Int) from by omega], rfl, by omega, hj1, by omega, hmj, Nat.le_refl _, HU4, by exact StRow.cong S3.out (by simp [List.append_assoc])⟩
end Go.Proofs.Ytgdmdhhihoifkaa

namespace Go.Proofs.Ytgdmdhhihoifkaa
open Go.Shelf Go.RowKit Go.Lib Go.Sort
variable {P : Program} {α : Type} [Inhabited α]

set_option maxHeartbeats 8000000 in
set_option maxRecDepth 1000000 in
/-- The merge where the first run has one element. -/
theorem StRow.symFirst {k : Nat} (L : StRowF P k) (enc : α → List Value) (cf : α → α → Int) (hO : SWO (ltOf cf)) (g : Nat) (cb : Array Value) (blk off cap sz : Nat) (d0 : Array α) (w0 : World) (R : RowK enc k w0 blk off d0)
    (eg : ∀ args w, (callFunc g args).run P w = .ok (.enter g args) w) (hcmp : CmpLays P g cb enc k cf blk off sz w0) (hs : d0.size = sz) (hbig : sz < 4611686018427387904)
    (a m b : Nat) (X V Y : List α) (x : α) (w : World) (ha : a = X.length) (hm : m = X.length + 1) (hb : b = X.length + 1 + V.length) (hV : 0 < V.length) (hz : sz = X.length + 1 + V.length + Y.length)
    (sV : SortedL (ltOf cf) V) (S : SWK enc k w0 blk off (X ++ x :: (V ++ Y)).toArray w) :
    Calls P 50 #[.slice (some ⟨blk, off, none⟩) sz cap, .int .i64 a, .int .i64 m, .int .i64 b, .func (.func g) #[] cb] w fun e w' => e = .returned (.tuple #[]) ∧
      ∃ W, SWK enc k w0 blk off (X ++ W ++ Y).toArray w' ∧ SortedL (ltOf cf) W ∧ Stab (ltOf cf) ([x] ++ V) W := by
  have mixed := L.mixed; have t3 := L.t3; have a3 := L.a3; have z3 := L.z3; have v3 := L.v3; have t4 := L.t4; have a4 := L.a4; have z4 := L.z4; have v4 := L.v4; have t22 := L.t22; have a22 := L.a22; have z22 := L.z22; have v22 := L.v22; have t25 := L.t25; have a25 := L.a25; have z25 := L.z25; have v25 := L.v25; have aE := L.aE; have zE := L.zE; have t84 := L.t84; have a84 := L.a84; have z84 := L.z84; have v84 := L.v84; have u3 := run_underlying L.t3; have u84 := run_underlying L.t84
  have HC : Aside _ := hcmp
  have HO : Aside _ := hO
  have HV : Aside _ := sV
  obtain ⟨l, hl⟩ : ∃ l, l = X ++ x :: (V ++ Y) := ⟨_, rfl⟩
  rw [← hl] at S
  have HE : Hid (a = X.length ∧ m = X.length + 1 ∧ b = X.length + 1 + V.length ∧ sz = X.length + 1 + V.length + Y.length ∧ d0.size = sz ∧ l = X ++ x :: (V ++ Y) ∧ l.toArray.size = sz) :=
    ⟨ha, hm, hb, hz, hs, hl, by rw [hl]; simp; omega⟩
  have S0 : Aside (SWK enc k w0 blk off l.toArray w) := S
  have b1 : a + 1 ≤ m := by omega
  have b1' : m ≤ a + 1 := by omega
  have b2 : m < b := by omega
  have b3 : b ≤ sz := by omega
  have h1 : ((m : Int) - (a : Int) == 1) = true := by rw [beq_iff_eq]; omega
  clear S ha hm hb hz hs hcmp hl hO sV
  go_enter L.fsym, Try.ntmps50
  go_wp2
  go_loopg [10, 11] (b - m) (fun gk s10 s11 wr => ∃ i j : Nat, s10 = .int .i64 i ∧ s11 = .int .i64 j ∧ m ≤ i ∧ i ≤ j ∧ j ≤ b ∧ j - i ≤ gk ∧ Aside (SWK enc k w0 blk off l.toArray wr) ∧
    Aside ((i = m ∨ ltOf cf l.toArray[i - 1]! l.toArray[a]! = true) ∧ (j = b ∨ ltOf cf l.toArray[j]! l.toArray[a]! = false)))
  case atStart => exact ⟨m, b, rfl, rfl, Nat.le_refl _, by omega, Nat.le_refl _, Nat.le_refl _, S0, ⟨.inl rfl, .inl rfl⟩⟩
  case round =>
    clear S0
    obtain ⟨i, j, rfl, rfl, hmi, hij, hjb, hg, S1, I⟩ := hrel
    by_cases hlt : i < j
    · obtain ⟨h, hh⟩ : ∃ h, h = (i + j) / 2 := ⟨_, rfl⟩
      have hz1 : ((i : Int) + (j : Int)) / 2 = (h : Int) := by omega
      have hih : i ≤ h := by omega
      have hhj : h < j := by omega
      clear hh
      have hltz : (i : Int) < (j : Int) := by omega
      have hsz := HE.out.2.2.2.2.2.2
      have l1 := S1.out.ld R (by rw [hsz]; exact HE.out.2.2.2.2.1.symm) P h (by rw [hsz]; omega)
      have l2 := S1.out.ld R (by rw [hsz]; exact HE.out.2.2.2.2.1.symm) P a (by rw [hsz]; omega)
      obtain ⟨y, hy⟩ : ∃ y, y = l.toArray[h]! := ⟨_, rfl⟩
      obtain ⟨x1, hx1⟩ : ∃ y, y = l.toArray[a]! := ⟨_, rfl⟩
      rw [← hy] at l1
      rw [← hx1] at l2
      have hc := S1.out.cmp HC.out hsz y x1
      have HY : Hid (y = l.toArray[h]! ∧ x1 = l.toArray[a]!) := ⟨hy, hx1⟩
      clear hsz hy hx1
      have pa1 : (0 : Int) ≤ (h : Int) := by omega
      have ba1 : (h : Int) < (sz : Int) := by omega
      have pa2 : (0 : Int) ≤ (a : Int) := by omega
      have ba2 : (a : Int) < (sz : Int) := by omega
      by_cases hlv : cf y x1 < 0
      · have hdv : decide (cf y x1 < 0) = true := decide_eq_true hlv
        go_wp2_with fail
        go_quiet_grown (first | (go_at_fn g; refine Calls.grown_of (hc _ _)))
        have S2 : Aside (SWK enc k w0 blk off l.toArray (grow (wr.drewN nq) osq)) := S1.out.grown nq osq
        clear l1 l2 hc S1
        generalize grow (wr.drewN nq) osq = wv at S2 ⊢
        clear nq osq
        go_wp2
        go_roundg (j - (h + 1))
        case measure => omega
        case rel =>
          have I2 : Aside ((h + 1 = m ∨ ltOf cf l.toArray[h + 1 - 1]! l.toArray[a]! = true) ∧ (j = b ∨ ltOf cf l.toArray[j]! l.toArray[a]! = false)) := ⟨.inr (by rw [Nat.add_sub_cancel, ← HY.out.1, ← HY.out.2]; exact hdv), I.out.2⟩
          exact ⟨h + 1, j, by go_num, rfl, by omega, by omega, hjb, Nat.le_refl _, S2, I2⟩
      · have hdv : decide (cf y x1 < 0) = false := decide_eq_false hlv
        go_wp2_with fail
        go_quiet_grown (first | (go_at_fn g; refine Calls.grown_of (hc _ _)))
        have S2 : Aside (SWK enc k w0 blk off l.toArray (grow (wr.drewN nq) osq)) := S1.out.grown nq osq
        clear l1 l2 hc S1
        generalize grow (wr.drewN nq) osq = wv at S2 ⊢
        clear nq osq
        go_wp2
        go_roundg (h - i)
        case measure => omega
        case rel =>
          have I2 : Aside ((i = m ∨ ltOf cf l.toArray[i - 1]! l.toArray[a]! = true) ∧ (h = b ∨ ltOf cf l.toArray[h]! l.toArray[a]! = false)) := ⟨I.out.1, .inr (by rw [← HY.out.1, ← HY.out.2]; exact hdv)⟩
          exact ⟨i, h, rfl, rfl, hmi, hih, by omega, Nat.le_refl _, S2, I2⟩
    · obtain rfl : j = i := by omega
      -- the place is found: V = A ++ B
      obtain ⟨A, B, hAB, hA⟩ : ∃ A B, V = A ++ B ∧ A.length = j - m := ⟨V.take (j - m), V.drop (j - m), (List.take_append_drop _ _).symm, by have := HE.out; simp; omega⟩
      have ex : l.toArray[a]! = x := by
        have h := HE.out
        rw [h.2.2.2.2.2.1, h.1]; exact get_mid X x _
      have fin : SortedL (ltOf cf) (A ++ x :: B) ∧ Stab (ltOf cf) (x :: (A ++ B)) (A ++ x :: B) := by
        have h := HE.out
        refine insert_left HO.out x A B (by rw [← hAB]; exact HV.out) ?_ ?_
        · intro y hy
          obtain ⟨A', rfl⟩ := List.getLast?_eq_some_iff.1 hy
          have hI := I.out.1.resolve_left (by simp at hA; omega)
          rw [ex] at hI
          have e : l = (X ++ x :: A') ++ y :: (B ++ Y) := by rw [h.2.2.2.2.2.1, hAB]; simp
          have := get_mid (X ++ x :: A') y (B ++ Y)
          rw [← e, show (X ++ x :: A').length = j - 1 from by simp at hA ⊢; omega] at this
          rw [this] at hI
          exact hI
        · intro y hy
          cases B with
          | nil => cases hy
          | cons z B' =>
            have hz : z = y := by simpa using hy
            subst hz
            have hlen := congrArg List.length hAB
            have hI := I.out.2.resolve_left (by simp at hlen; omega)
            rw [ex] at hI
            have e : l = (X ++ x :: A) ++ z :: (B' ++ Y) := by rw [h.2.2.2.2.2.1, hAB]; simp
            have := get_mid (X ++ x :: A) z (B' ++ Y)
            rw [← e, show (X ++ x :: A).length = j from by simp at hA ⊢; omega] at this
            rw [this] at hI
            exact hI
      have FIN : Hid (SortedL (ltOf cf) (A ++ x :: B) ∧ Stab (ltOf cf) ([x] ++ V) (A ++ x :: B)) := ⟨fin.1, by rw [hAB]; simpa using fin.2⟩
      have S2 : Aside (SWK enc k w0 blk off (X ++ x :: (A ++ (B ++ Y))).toArray wr) := by
        have := S1.out; rw [HE.out.2.2.2.2.2.1, hAB] at this; exact StRow.cong this (by simp)
      have HA : Hid (A.length = j - m ∧ V = A ++ B) := ⟨hA, hAB⟩
      have hnlt : ¬ ((j : Int) < (j : Int)) := by omega
      clear ex fin hA hAB S1 I HV HO hlt
      go_wp2
      go_loopg [13] (j - m) (fun gk s13 wq => ∃ (t : Nat) (A1 A2 : List α), s13 = .int .i64 t ∧ a ≤ t ∧ t + 1 ≤ j ∧ j - 1 - t ≤ gk ∧ Hid (A = A1 ++ A2 ∧ A1.length = t - a) ∧ Aside (SWK enc k w0 blk off ((X ++ A1) ++ x :: (A2 ++ (B ++ Y))).toArray wq))
      case atStart => exact ⟨a, [], A, rfl, Nat.le_refl _, by omega, by omega, ⟨rfl, by simp⟩, by rw [List.append_nil]; exact S2⟩
      case round =>
        rename_i wr0 _ _ _ _ _ _ _
        clear S2
        obtain ⟨t, A1, A2, rfl, hat, htj, hg2, HT, S3⟩ := hrel
        by_cases hlt2 : t < j - 1
        · have hlt2z : (t : Int) < (j : Int) - 1 := by omega
          obtain ⟨u, A3, hA2⟩ : ∃ u A3, A2 = u :: A3 := by
            cases A2 with
            | nil => exfalso; have h1 := HT.out; have h2 := HA.out; rw [h1.1] at h2; simp at h2; omega
            | cons u A3 => exact ⟨u, A3, rfl⟩
          subst hA2
          have hsz' : ((X ++ A1) ++ x :: ([] ++ u :: (A3 ++ (B ++ Y)))).toArray.size = d0.size := by
            have h1 := HT.out; have h2 := HA.out; have h3 := HE.out
            have h4 := congrArg List.length h2.2
            rw [h1.1] at h4; simp at h4 ⊢; omega
          have hbnd : ((X ++ A1) ++ x :: ([] ++ u :: (A3 ++ (B ++ Y)))).toArray.size = sz := hsz'.trans HE.out.2.2.2.2.1
          have hi0 : t = (X ++ A1).length := by have h1 := HT.out; have h3 := HE.out; simp; omega
          have S4 : Aside (SWK enc k w0 blk off ((X ++ A1) ++ x :: ([] ++ u :: (A3 ++ (B ++ Y)))).toArray wr) := S3
          have gi : ((X ++ A1) ++ x :: ([] ++ u :: (A3 ++ (B ++ Y)))).toArray[t]! = x := by rw [hi0]; exact get_mid _ _ _
          have gj : ((X ++ A1) ++ x :: ([] ++ u :: (A3 ++ (B ++ Y)))).toArray[t + 1]! = u := by
            have hl : (X ++ A1).length + 1 = ((X ++ A1) ++ [x]).length := by simp only [List.length_append, List.length_cons, List.length_nil]
            have := get_mid ((X ++ A1) ++ [x]) u (A3 ++ (B ++ Y))
            have e : ((X ++ A1) ++ [x]) ++ u :: (A3 ++ (B ++ Y)) = ((X ++ A1) ++ x :: ([] ++ u :: (A3 ++ (B ++ Y)))) := by simp
            rw [e] at this
            rw [hi0, hl]; exact this
          have hsw := swp_split (X ++ A1) [] (A3 ++ (B ++ Y)) x u t (t + 1) hi0 (by rw [hi0]; simp)
          have S5 := S4.out.swapped R t (t + 1) (by omega) (by omega)
          have l1 := S4.out.ld1 R hsz' P t (by omega)
          have l2 := S4.out.ld1 R hsz' P (t + 1) (by omega)
          have s1 := S4.out.st1 R hsz' P t (by omega) u
          have s2 := S4.out.st2 R hsz' P t (t + 1) (by omega) (by omega) u x
          rw [hsw, gi, gj] at S5
          rw [gi] at l1
          rw [gj] at l2
          have S5' : Aside _ := S5
          have HW : Hid ((X ++ A1) ++ u :: ([] ++ x :: (A3 ++ (B ++ Y))) = (X ++ (A1 ++ [u])) ++ x :: (A3 ++ (B ++ Y))) := by show _ = _; simp
          have HT' : Hid (A = (A1 ++ [u]) ++ A3 ∧ (A1 ++ [u]).length = t + 1 - a) := by
            have h1 := HT.out
            exact ⟨by rw [h1.1]; simp, by simp; omega⟩
          clear hsz' hbnd hi0 S3 S4 gi gj hsw S5 HT
          have n1 : (enc x).length = k := R.hk _
          have n2 : (enc u).length = k := R.hk _
          generalize enc x = cI at S5' l1 s2 n1
          generalize enc u = cJ at S5' l2 s1 s2 n2
          have ea : ((t : Int)).toNat = t := by omega
          have pa : (0 : Int) ≤ (t : Int) := by omega
          have ba : (t : Int) < (sz : Int) := by omega
          have ec : ((t : Int) + 1).toNat = t + 1 := by omega
          have pc : (0 : Int) ≤ (t : Int) + 1 := by omega
          have bc : (t : Int) + 1 < (sz : Int) := by omega
          have rc : IntKind.i64.wrap ((t : Int) + 1) = (t : Int) + 1 := by rw [IntKind.wrap_i64]; omega
          go_wp2_with fail
          go_big_region_o
          clear l1 l2 s1 s2 ea ec rc
          generalize (wr.drew.setCells blk (off + t * k) cJ).setCells blk (off + (t + 1) * k) cI = w2 at S5' ⊢
          go_wp2
          go_roundg (j - 1 - (t + 1))
          case measure => omega
          case rel => exact ⟨t + 1, A1 ++ [u], A3, by go_num, by omega, by omega, Nat.le_refl _, HT', by rw [← HW.out]; exact S5'⟩
        · have hnlt2 : ¬ ((t : Int) < (j : Int) - 1) := by omega
          go_wp2
          refine bodyPost_ret (results_none rfl _ _ _) rfl ?_
          have h1 := HT.out; have h2 := HA.out
          have hA2 : A2 = [] := by
            have := congrArg List.length h1.1; simp at this; exact List.eq_nil_of_length_eq_zero (by omega)
          have S5 := S3.out
          rw [hA2] at h1 S5
          rw [List.append_nil] at h1
          rw [← h1.1] at S5
          exact ⟨rfl, A ++ x :: B, by simpa using S5, FIN.out.1, FIN.out.2⟩
end Go.Proofs.Ytgdmdhhihoifkaa

namespace Go.Proofs.Ytgdmdhhihoifkaa
open Go.Shelf Go.RowKit Go.Lib Go.Sort
variable {P : Program} {α : Type} [Inhabited α]

set_option maxHeartbeats 8000000 in
set_option maxRecDepth 1000000 in
/-- The merge where the second run has one element. -/
theorem StRow.symLast {k : Nat} (L : StRowF P k) (enc : α → List Value) (cf : α → α → Int) (hO : SWO (ltOf cf)) (g : Nat) (cb : Array Value) (blk off cap sz : Nat) (d0 : Array α) (w0 : World) (R : RowK enc k w0 blk off d0)
    (eg : ∀ args w, (callFunc g args).run P w = .ok (.enter g args) w) (hcmp : CmpLays P g cb enc k cf blk off sz w0) (hs : d0.size = sz) (hbig : sz < 4611686018427387904)
    (a m b : Nat) (X U Y : List α) (x : α) (w : World) (ha : a = X.length) (hm : m = X.length + U.length) (hb : b = X.length + U.length + 1) (hU : 1 < U.length) (hz : sz = X.length + U.length + 1 + Y.length)
    (sU : SortedL (ltOf cf) U) (S : SWK enc k w0 blk off (X ++ U ++ x :: Y).toArray w) :
    Calls P 50 #[.slice (some ⟨blk, off, none⟩) sz cap, .int .i64 a, .int .i64 m, .int .i64 b, .func (.func g) #[] cb] w fun e w' => e = .returned (.tuple #[]) ∧
      ∃ W, SWK enc k w0 blk off (X ++ W ++ Y).toArray w' ∧ SortedL (ltOf cf) W ∧ Stab (ltOf cf) (U ++ [x]) W := by
  have mixed := L.mixed; have t3 := L.t3; have a3 := L.a3; have z3 := L.z3; have v3 := L.v3; have t4 := L.t4; have a4 := L.a4; have z4 := L.z4; have v4 := L.v4; have t22 := L.t22; have a22 := L.a22; have z22 := L.z22; have v22 := L.v22; have t25 := L.t25; have a25 := L.a25; have z25 := L.z25; have v25 := L.v25; have aE := L.aE; have zE := L.zE; have t84 := L.t84; have a84 := L.a84; have z84 := L.z84; have v84 := L.v84; have u3 := run_underlying L.t3; have u84 := run_underlying L.t84
  have HC : Aside _ := hcmp
  have HO : Aside _ := hO
  have HV : Aside _ := sU
  obtain ⟨l, hl⟩ : ∃ l, l = X ++ U ++ x :: Y := ⟨_, rfl⟩
  rw [← hl] at S
  have HE : Hid (a = X.length ∧ m = X.length + U.length ∧ b = X.length + U.length + 1 ∧ sz = X.length + U.length + 1 + Y.length ∧ d0.size = sz ∧ l = X ++ U ++ x :: Y ∧ l.toArray.size = sz) :=
    ⟨ha, hm, hb, hz, hs, hl, by rw [hl]; simp; omega⟩
  have S0 : Aside (SWK enc k w0 blk off l.toArray w) := S
  have b1 : a + 1 < m := by omega
  have b2 : m + 1 ≤ b := by omega
  have b2' : b ≤ m + 1 := by omega
  have b3 : b ≤ sz := by omega
  have h1 : ((m : Int) - (a : Int) == 1) = false := by rw [beq_eq_false_iff_ne]; omega
  have h2 : ((b : Int) - (m : Int) == 1) = true := by rw [beq_iff_eq]; omega
  clear S ha hm hb hz hs hcmp hl hO sU
  go_enter L.fsym, Try.ntmps50
  go_wp2
  go_loopg [14, 15] (m - a) (fun gk s14 s15 wr => ∃ i j : Nat, s14 = .int .i64 i ∧ s15 = .int .i64 j ∧ a ≤ i ∧ i ≤ j ∧ j ≤ m ∧ j - i ≤ gk ∧ Aside (SWK enc k w0 blk off l.toArray wr) ∧
    Aside ((i = a ∨ ltOf cf l.toArray[m]! l.toArray[i - 1]! = false) ∧ (j = m ∨ ltOf cf l.toArray[m]! l.toArray[j]! = true)))
  case atStart => exact ⟨a, m, rfl, rfl, Nat.le_refl _, by omega, Nat.le_refl _, Nat.le_refl _, S0, ⟨.inl rfl, .inl rfl⟩⟩
  case round =>
    clear S0
    obtain ⟨i, j, rfl, rfl, hmi, hij, hjb, hg, S1, I⟩ := hrel
    by_cases hlt : i < j
    · obtain ⟨h, hh⟩ : ∃ h, h = (i + j) / 2 := ⟨_, rfl⟩
      have hz1 : ((i : Int) + (j : Int)) / 2 = (h : Int) := by omega
      have hih : i ≤ h := by omega
      have hhj : h < j := by omega
      clear hh
      have hltz : (i : Int) < (j : Int) := by omega
      have hsz := HE.out.2.2.2.2.2.2
      have l1 := S1.out.ld R (by rw [hsz]; exact HE.out.2.2.2.2.1.symm) P h (by rw [hsz]; omega)
      have l2 := S1.out.ld R (by rw [hsz]; exact HE.out.2.2.2.2.1.symm) P m (by rw [hsz]; omega)
      obtain ⟨y, hy⟩ : ∃ y, y = l.toArray[h]! := ⟨_, rfl⟩
      obtain ⟨x1, hx1⟩ : ∃ y, y = l.toArray[m]! := ⟨_, rfl⟩
      rw [← hy] at l1
      rw [← hx1] at l2
      have hc := S1.out.cmp HC.out hsz x1 y
      have HY : Hid (y = l.toArray[h]! ∧ x1 = l.toArray[m]!) := ⟨hy, hx1⟩
      clear hsz hy hx1
      have pa1 : (0 : Int) ≤ (h : Int) := by omega
      have ba1 : (h : Int) < (sz : Int) := by omega
      have pa2 : (0 : Int) ≤ (m : Int) := by omega
      have ba2 : (m : Int) < (sz : Int) := by omega
      by_cases hlv : cf x1 y < 0
      · have hdv : decide (cf x1 y < 0) = true := decide_eq_true hlv
        go_wp2_with fail
        go_quiet_grown (first | (go_at_fn g; refine Calls.grown_of (hc _ _)))
        have S2 : Aside (SWK enc k w0 blk off l.toArray (grow (wr.drewN nq) osq)) := S1.out.grown nq osq
        clear l1 l2 hc S1
        generalize grow (wr.drewN nq) osq = wv at S2 ⊢
        clear nq osq
        go_wp2
        go_roundg (h - i)
        case measure => omega
        case rel =>
          have I2 : Aside ((i = a ∨ ltOf cf l.toArray[m]! l.toArray[i - 1]! = false) ∧ (h = m ∨ ltOf cf l.toArray[m]! l.toArray[h]! = true)) := ⟨I.out.1, .inr (by rw [← HY.out.1, ← HY.out.2]; exact hdv)⟩
          exact ⟨i, h, rfl, rfl, hmi, hih, by omega, Nat.le_refl _, S2, I2⟩
      · have hdv : decide (cf x1 y < 0) = false := decide_eq_false hlv
        go_wp2_with fail
        go_quiet_grown (first | (go_at_fn g; refine Calls.grown_of (hc _ _)))
        have S2 : Aside (SWK enc k w0 blk off l.toArray (grow (wr.drewN nq) osq)) := S1.out.grown nq osq
        clear l1 l2 hc S1
        generalize grow (wr.drewN nq) osq = wv at S2 ⊢
        clear nq osq
        go_wp2
        go_roundg (j - (h + 1))
        case measure => omega
        case rel =>
          have I2 : Aside ((h + 1 = a ∨ ltOf cf l.toArray[m]! l.toArray[h + 1 - 1]! = false) ∧ (j = m ∨ ltOf cf l.toArray[m]! l.toArray[j]! = true)) := ⟨.inr (by rw [Nat.add_sub_cancel, ← HY.out.1, ← HY.out.2]; exact hdv), I.out.2⟩
          exact ⟨h + 1, j, by go_num, rfl, by omega, by omega, hjb, Nat.le_refl _, S2, I2⟩
    · obtain rfl : j = i := by omega
      -- the place is found: U = A ++ B
      obtain ⟨A, B, hAB, hA⟩ : ∃ A B, U = A ++ B ∧ A.length = j - a := ⟨U.take (j - a), U.drop (j - a), (List.take_append_drop _ _).symm, by have := HE.out; simp; omega⟩
      have ex : l.toArray[m]! = x := by
        have h := HE.out
        rw [h.2.2.2.2.2.1, h.2.1, ← List.length_append]; exact get_mid (X ++ U) x _
      have fin : SortedL (ltOf cf) (A ++ x :: B) ∧ Stab (ltOf cf) ((A ++ B) ++ [x]) (A ++ x :: B) := by
        have h := HE.out
        refine insert_right HO.out x A B (by rw [← hAB]; exact HV.out) ?_ ?_
        · intro y hy
          cases B with
          | nil => cases hy
          | cons z B' =>
            have hz : z = y := by simpa using hy
            subst hz
            have hlen := congrArg List.length hAB
            have hI := I.out.2.resolve_left (by simp at hlen; omega)
            rw [ex] at hI
            have e : l = (X ++ A) ++ z :: (B' ++ x :: Y) := by rw [h.2.2.2.2.2.1, hAB]; simp
            have := get_mid (X ++ A) z (B' ++ x :: Y)
            rw [← e, show (X ++ A).length = j from by simp; omega] at this
            rw [this] at hI
            exact hI
        · intro y hy
          obtain ⟨A', rfl⟩ := List.getLast?_eq_some_iff.1 hy
          have hI := I.out.1.resolve_left (by simp at hA; omega)
          rw [ex] at hI
          have e : l = (X ++ A') ++ y :: (B ++ x :: Y) := by rw [h.2.2.2.2.2.1, hAB]; simp
          have := get_mid (X ++ A') y (B ++ x :: Y)
          rw [← e, show (X ++ A').length = j - 1 from by simp at hA ⊢; omega] at this
          rw [this] at hI
          exact hI
      have FIN : Hid (SortedL (ltOf cf) (A ++ x :: B) ∧ Stab (ltOf cf) (U ++ [x]) (A ++ x :: B)) := ⟨fin.1, by rw [hAB]; exact fin.2⟩
      have S2 : Aside (SWK enc k w0 blk off ((X ++ A ++ B) ++ x :: ([] ++ Y)).toArray wr) := by
        have := S1.out; rw [HE.out.2.2.2.2.2.1, hAB] at this; exact StRow.cong this (by simp)
      have HA : Hid (A.length = j - a ∧ U = A ++ B) := ⟨hA, hAB⟩
      have hnlt : ¬ ((j : Int) < (j : Int)) := by omega
      clear ex fin hA hAB S1 I HV HO hlt
      go_wp2
      go_loopg [17] (m - j) (fun gk s17 wq => ∃ (t : Nat) (B1 B2 : List α), s17 = .int .i64 t ∧ j ≤ t ∧ t ≤ m ∧ t - j ≤ gk ∧ Hid (B = B1 ++ B2 ∧ B1.length = t - j) ∧ Aside (SWK enc k w0 blk off ((X ++ A ++ B1) ++ x :: (B2 ++ Y)).toArray wq))
      case atStart => exact ⟨m, B, [], rfl, hjb, Nat.le_refl _, Nat.le_refl _, ⟨by simp, by have h1 := HA.out; have h3 := HE.out; have h4 := congrArg List.length h1.2; simp at h4; omega⟩, S2⟩
      case round =>
        clear S2
        obtain ⟨t, B1, B2, rfl, hat, htj, hg2, HT, S3⟩ := hrel
        by_cases hlt2 : j < t
        · have hlt2z : (j : Int) < (t : Int) := by omega
          obtain ⟨B0, u, hB1⟩ : ∃ B0 u, B1 = B0 ++ [u] := by
            rcases List.eq_nil_or_concat B1 with h | ⟨B0, u, h⟩
            · exfalso; have h1 := HT.out; rw [h] at h1; simp at h1; omega
            · exact ⟨B0, u, by rw [h, List.concat_eq_append]⟩
          subst hB1
          have hsz' : ((X ++ A ++ B0) ++ u :: ([] ++ x :: (B2 ++ Y))).toArray.size = d0.size := by
            have h1 := HT.out; have h2 := HA.out; have h3 := HE.out
            have h4 := congrArg List.length h2.2
            rw [h1.1] at h4; simp at h4 ⊢; omega
          have hbnd : ((X ++ A ++ B0) ++ u :: ([] ++ x :: (B2 ++ Y))).toArray.size = sz := hsz'.trans HE.out.2.2.2.2.1
          obtain ⟨q, hq⟩ : ∃ q, t = q + 1 := ⟨t - 1, by omega⟩
          subst hq
          have hi0 : q = (X ++ A ++ B0).length := by have h1 := HT.out; have h2 := HA.out; have h3 := HE.out; simp at h1 ⊢; omega
          have S4 : Aside (SWK enc k w0 blk off ((X ++ A ++ B0) ++ u :: ([] ++ x :: (B2 ++ Y))).toArray wr) := by
            have e : ((X ++ A ++ B0) ++ u :: ([] ++ x :: (B2 ++ Y))) = (X ++ A ++ (B0 ++ [u])) ++ x :: (B2 ++ Y) := by simp
            rw [e]; exact S3
          have gi : ((X ++ A ++ B0) ++ u :: ([] ++ x :: (B2 ++ Y))).toArray[q]! = u := by rw [hi0]; exact get_mid _ _ _
          have gj : ((X ++ A ++ B0) ++ u :: ([] ++ x :: (B2 ++ Y))).toArray[q + 1]! = x := by
            have hl : (X ++ A ++ B0).length + 1 = ((X ++ A ++ B0) ++ [u]).length := by simp only [List.length_append, List.length_cons, List.length_nil]
            have := get_mid ((X ++ A ++ B0) ++ [u]) x (B2 ++ Y)
            have e : ((X ++ A ++ B0) ++ [u]) ++ x :: (B2 ++ Y) = ((X ++ A ++ B0) ++ u :: ([] ++ x :: (B2 ++ Y))) := by simp
            rw [e] at this
            rw [hi0, hl]; exact this
          have hsw := swp_split' (X ++ A ++ B0) [] (B2 ++ Y) u x q (q + 1) hi0 (by rw [hi0]; simp)
          have S5 := S4.out.swapped R (q + 1) q (by omega) (by omega)
          have l1 := S4.out.ld1 R hsz' P (q + 1) (by omega)
          have l2 := S4.out.ld1 R hsz' P q (by omega)
          have s1 := S4.out.st1 R hsz' P (q + 1) (by omega) u
          have s2 := S4.out.st2 R hsz' P (q + 1) q (by omega) (by omega) u x
          rw [hsw, gi, gj] at S5
          rw [gj] at l1
          rw [gi] at l2
          have S5' : Aside _ := S5
          have HW : Hid ((X ++ A ++ B0) ++ x :: ([] ++ u :: (B2 ++ Y)) = (X ++ A ++ B0) ++ x :: ((u :: B2) ++ Y)) := by show _ = _; simp
          have HT' : Hid (B = B0 ++ (u :: B2) ∧ B0.length = q - j) := by
            have h1 := HT.out
            exact ⟨by rw [h1.1]; simp, by have := h1.2; simp at this; omega⟩
          clear hsz' hbnd hi0 S3 S4 gi gj hsw S5 HT
          have n1 : (enc x).length = k := R.hk _
          have n2 : (enc u).length = k := R.hk _
          generalize enc x = cI at S5' l1 s2 n1
          generalize enc u = cJ at S5' l2 s1 s2 n2
          have zq : (((q + 1 : Nat) : Int)) = (q : Int) + 1 := by omega
          rw [zq] at hlt2z
          have ea : ((q : Int) + 1).toNat = q + 1 := by omega
          have pa : (0 : Int) ≤ (q : Int) + 1 := by omega
          have ba : (q : Int) + 1 < (sz : Int) := by omega
          have rq : IntKind.i64.wrap ((q : Int)) = (q : Int) := by rw [IntKind.wrap_i64]; omega
          have rq1 : IntKind.i64.wrap ((q : Int) + 1 - 1) = (q : Int) := by rw [IntKind.wrap_i64]; omega
          have ec : ((q : Int)).toNat = q := by omega
          have pc : (0 : Int) ≤ (q : Int) := by omega
          have bc : (q : Int) < (sz : Int) := by omega
          clear zq
          go_wp2_with fail
          go_big_region_o
          clear l1 l2 s1 s2 ea ec rq rq1
          generalize (wr.drew.setCells blk (off + (q + 1) * k) cJ).setCells blk (off + q * k) cI = w2 at S5' ⊢
          go_wp2
          go_roundg (q - j)
          case measure => omega
          case rel => exact ⟨q, B0, u :: B2, by first | rfl | go_num, by omega, by omega, Nat.le_refl _, HT', by rw [← HW.out]; exact S5'⟩
        · have hnlt2 : ¬ ((j : Int) < (t : Int)) := by omega
          go_wp2
          refine bodyPost_ret (results_none rfl _ _ _) rfl ?_
          have h1 := HT.out; have h2 := HA.out
          have hB1 : B1 = [] := List.eq_nil_of_length_eq_zero (by omega)
          have S5 := S3.out
          rw [hB1] at h1 S5
          rw [List.nil_append] at h1
          rw [← h1.1] at S5
          exact ⟨rfl, A ++ x :: B, by simpa using S5, FIN.out.1, FIN.out.2⟩
end Go.Proofs.Ytgdmdhhihoifkaa
