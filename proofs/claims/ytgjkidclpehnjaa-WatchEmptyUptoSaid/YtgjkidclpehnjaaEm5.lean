/- The law WatchEmpty, second form: whatever it reads of bulk at most 2^20, it returns true and what it reads is as it was. Condition: the form's own bound. -/
import Derived.Maps.RangeRun
import Derived.Test.YtgjkidclpehnjaaEm3
import Derived.Test.YtgjkidclpehnjaaEm4
import Derived.Carry
import Derived.Deep.AppendLies
import Derived.Lib.SmallJoins
set_option linter.unusedVariables false
set_option linter.unusedSimpArgs false
namespace Go.Proofs.Ytgjkidclpehnjaa.Pr
open Go.Shelf Go.RowKit Go.Lib Go.Sort Go.Proofs.Ytgjkidclpehnjaa
open Go.Proofs.YtgjkidclpehnjaaW.PrintWords Go.Proofs.YtgjkidclpehnjaaW.PrintLast Go.Proofs.YtgjkidclpehnjaaW.PrintMore
open Go.ChangeMaps (setBlock)

def kv (t : T) : Value := .agg #[.string t.f0, .string t.f1, .string t.f2]
theorem kv_inj {a b : T} : kv a = kv b ↔ a = b := by
  constructor
  · intro h
    obtain ⟨a0, a1, a2⟩ := a
    obtain ⟨b0, b1, b2⟩ := b
    simp [kv] at h
    simp [h]
  · rintro rfl; rfl

theorem check_T (em : Bool) (t : T) (w : World) : (Instr.checkKey em 10000 25 (kv t)).run Try.prog w = .ok () w := by
  have hs : ∀ (n : Nat) (s : ByteArray) (w : World), (Instr.checkKey em (n + 1) 9 (.string s)).run Try.prog w = .ok () w := by
    intro n s w
    simp [Instr.checkKey, run_underlying Try.underlying9]
  rw [show (10000 : Nat) = 9998 + 1 + 1 from rfl]
  unfold kv
  rw [Instr.checkKey]
  go_simp

/-- Where a key stands, and what it holds. -/
def mfind (t : T) : List (T × Int) → Nat → Option (Nat × Int)
  | [], _ => none
  | p :: m, i => if t = p.1 then some (i, p.2) else mfind t m (i + 1)
def mput (t : T) (v : Int) (m : List (T × Int)) : List (T × Int) :=
  match mfind t m 0 with
  | some (i, _) => m.set i (t, v)
  | none => m ++ [(t, v)]
def mdel (t : T) (m : List (T × Int)) : List (T × Int) :=
  match mfind t m 0 with
  | some (i, _) => m.eraseIdx i
  | none => m
def ent (e : MapEntry) : Value × Value := (e.key, e.val)
def pr (p : T × Int) : Value × Value := (kv p.1, .int .i64 p.2)

theorem equal_T (a b : T) (w : World) : (Op.equal 25 (kv a) (kv b)).run Try.prog w = .ok (decide (a = b)) w := by
  unfold kv
  simp only [Op.equal, Op.maxDepth]
  rw [show (10000 : Nat) = 9998 + 2 from rfl, eqA25, eqx_T]
theorem asking_T (t : T) (w : World) : ∀ (es : List MapEntry) (m : List (T × Int)) (i : Nat), es.map ent = m.map pr → (Instr.findAsking 25 (kv t) es i).run Try.prog w = .ok ((mfind t m i).map (fun q => (q.1, Value.int .i64 q.2))) w
  | [], [], i, _ => by simp [Instr.findAsking, mfind]
  | [], _ :: _, _, h => by simp at h
  | _ :: _, [], _, h => by simp at h
  | e :: es, p :: m, i, h => by
    rw [List.map_cons, List.map_cons] at h
    obtain ⟨h1, h2⟩ := List.cons.inj h
    have hk : e.key = kv p.1 := congrArg Prod.fst h1
    have hv : e.val = .int .i64 p.2 := congrArg Prod.snd h1
    have ih := asking_T t w es m (i + 1) h2
    have he := equal_T t p.1 w
    rw [Instr.findAsking, hk, mfind]
    by_cases hq : t = p.1
    · rw [decide_eq_true hq] at he
      rw [if_pos hq]
      simp [Sem.run_bind, he, Result.andThen, hv]
    · rw [decide_eq_false hq] at he
      rw [if_neg hq]
      simp [Sem.run_bind, he, Result.andThen, ih]
theorem find_T (t : T) (w : World) (es : List MapEntry) (m : List (T × Int)) (h : es.map ent = m.map pr) : (Instr.findKey 25 (kv t) es).run Try.prog w = .ok ((mfind t m 0).map (fun q => (q.1, Value.int .i64 q.2))) w := by
  have ha := asking_T t w es m 0 h
  cases es with
  | nil =>
    cases m with
    | nil => simp [Instr.findKey, Instr.findNow, run_underlying Try.underlying25, mfind]
    | cons p m => simp at h
  | cons e es =>
    have hn : ∀ fs, Instr.sameNow (.struct fs) (kv t) e.key = none := fun fs => by simp [Instr.sameNow, kv]
    unfold Instr.findKey
    simp only [Sem.run_bind, run_underlying Try.underlying25, Result.andThen]
    simp only [Instr.findNow, hn]
    exact ha

/-- Block b of w is a map that holds m. -/
def MapIs (w : World) (b : Nat) (m : List (T × Int)) : Prop :=
  ∃ es clock, w.heap[b]? = some (.map es clock) ∧ es.toList.map ent = m.map pr ∧ (es.toList.map (·.born)).Nodup ∧ ∀ e ∈ es.toList, e.born < clock
theorem MapIs.made (w : World) : MapIs (w.alloc (.map #[] 0)) w.heap.size [] := ⟨#[], 0, blk_new _ _, rfl, by simp, by simp⟩
theorem MapIs.lt {w : World} {b : Nat} {m : List (T × Int)} (h : MapIs w b m) : b < w.heap.size := by
  obtain ⟨es, clock, hb, _⟩ := h
  exact (Array.getElem?_eq_some_iff.1 hb).1
theorem MapIs.kept {w w' : World} {b : Nat} {m : List (T × Int)} (h : MapIs w b m) (hb : w'.heap[b]? = w.heap[b]?) : MapIs w' b m := by
  obtain ⟨es, clock, h1, h2⟩ := h
  exact ⟨es, clock, hb.trans h1, h2⟩
theorem MapIs.alloc {w : World} {b : Nat} {m : List (T × Int)} (h : MapIs w b m) (o : Obj) : MapIs (w.alloc o) b m := h.kept (Below.heap_alloc _ _ _ h.lt)

theorem grown_setBlock {w : World} {b : Nat} {es : Array MapEntry} {c : Nat} (hb : w.heap[b]? = some (.map es c)) (o : Obj) : w.grownBy (setBlock w b o) (some b) :=
  ⟨rfl, rfl, rfl, by simp [setBlock], fun k _ hk => by
    have : b ≠ k := fun e => hk (by rw [e])
    simp [setBlock, Array.getElem?_setIfInBounds, this]⟩

/-- v, ok := m[t] -/
theorem look_T {w : World} {b : Nat} {m : List (T × Int)} (h : MapIs w b m) (t : T) :
    Sem.run Try.prog (Instr.lookup 52 (.map (some b)) (kv t) true) w = .ok (match mfind t m 0 with | some q => .tuple #[.int .i64 q.2, .bool true] | none => .tuple #[.int .i64 0, .bool false]) w := by
  obtain ⟨es, clock, hb, hm, _⟩ := h
  have hc := check_T es.isEmpty t w
  have hf := find_T t w es.toList m hm
  have hg : (getObj b).run Try.prog w = .ok (.map es clock) w := by simp [getObj, Sem.run, hb]
  unfold Instr.lookup
  simp only [Sem.run_bind, run_underlying Try.underlying52, Result.andThen, hg]
  cases hq : mfind t m 0 with
  | none =>
    rw [hq] at hf
    simp [hc, hf, Try.zeroValue3]
  | some q =>
    rw [hq] at hf
    simp [hc, hf]
theorem setObj_map {w : World} {b : Nat} {es : Array MapEntry} {c : Nat} (hb : w.heap[b]? = some (.map es c)) (o : Obj) : (setObj b o).run Try.prog w = .ok () (setBlock w b o) := by
  simp [setObj, Sem.run, hb, setBlock]
theorem mfind_at (t : T) : ∀ (m : List (T × Int)) (i j : Nat) (v : Int), mfind t m i = some (j, v) → ∃ n, j = i + n ∧ m[n]? = some (t, v)
  | [], _, _, _, h => by simp [mfind] at h
  | p :: m, i, j, v, h => by
    rw [mfind] at h
    split at h
    · rename_i e
      injection h with h
      injection h with h1 h2
      exact ⟨0, by omega, by simp [e, h2.symm]⟩
    · obtain ⟨n, h1, h2⟩ := mfind_at t m (i + 1) j v h
      exact ⟨n + 1, by omega, by simpa using h2⟩
/-- m[t] = v -/
theorem put_T {w : World} {b : Nat} {m : List (T × Int)} (h : MapIs w b m) (t : T) (v : Int) :
    ∃ w', Sem.run Try.prog (Instr.mapUpdate 52 (.map (some b)) (kv t) (.int .i64 v)) w = .ok () w' ∧ MapIs w' b (mput t v m) ∧ w.grownBy w' (some b) := by
  obtain ⟨es, clock, hb, hm, hn, hl⟩ := h
  have hc := check_T false t w
  have hf := find_T t w es.toList m hm
  have hg : (getObj b).run Try.prog w = .ok (.map es clock) w := by simp [getObj, Sem.run, hb]
  unfold mput
  cases hq : mfind t m 0 with
  | none =>
    rw [hq] at hf
    refine ⟨setBlock w b (.map (es.push ⟨kv t, .int .i64 v, clock⟩) (clock + 1)), ?_, ⟨_, _, ChangeMaps.heap_setBlock_same hb _, ?_, ?_, ?_⟩, grown_setBlock hb _⟩
    · unfold Instr.mapUpdate
      simp only [Sem.run_bind, run_underlying Try.underlying52, Result.andThen, hg, hc, hf, Option.map_none, setObj_map hb]
    · simp [hm, ent, pr]
    · simp only [Array.toList_push, List.map_append, List.map_cons, List.map_nil]
      rw [List.nodup_append]
      refine ⟨hn, by simp, ?_⟩
      intro x hx y hy
      obtain ⟨e, he, rfl⟩ := List.mem_map.1 hx
      have := hl e he
      simp at hy
      omega
    · intro e he
      simp only [Array.toList_push, List.mem_append, List.mem_singleton] at he
      rcases he with he | rfl
      · have := hl e he; omega
      · show clock < clock + 1; omega
  | some q =>
    obtain ⟨i, v0⟩ := q
    rw [hq] at hf
    obtain ⟨n, hin, hmn⟩ := mfind_at t m 0 i v0 hq
    obtain rfl : i = n := by omega
    have hlt : i < es.size := by
      have h1 := congrArg List.length hm
      have h2 := lt_of_get hmn
      simp at h1; omega
    have hkey : es[i].key = kv t := by
      have h1 : (es.toList.map ent)[i]? = (m.map pr)[i]? := by rw [hm]
      rw [List.getElem?_map, List.getElem?_map, hmn, Array.getElem?_toList, Array.getElem?_eq_getElem hlt] at h1
      simp only [Option.map_some, Option.some.injEq] at h1
      exact congrArg Prod.fst h1
    have hsame : Instr.sameBits 10000 (kv t) (kv t) = true := by
      unfold kv
      rw [show (10000 : Nat) = 9999 + 1 from rfl, Instr.sameBits]
      have hs : ∀ (n : Nat) (s : ByteArray), Instr.sameBits n (.string s) (.string s) = true := fun n s => by
        have h1 : (s == s) = true := by rw [beq_toListBytes]; simp
        cases n <;> simp [Instr.sameBits, h1]
      simp [hs]
    have hstay : (Instr.keyThatStays (((es[i]?).map (·.key)).getD (kv t)) (kv t)).run Try.prog w = .ok (kv t) w := by
      rw [Array.getElem?_eq_getElem hlt, Option.map_some, Option.getD_some, hkey]
      simp [Instr.keyThatStays, hsame]
    refine ⟨setBlock w b (.map (es.modify i fun e => { e with key := kv t, val := .int .i64 v }) clock), ?_, ⟨_, _, ChangeMaps.heap_setBlock_same hb _, ?_, ?_, ?_⟩, grown_setBlock hb _⟩
    · unfold Instr.mapUpdate
      simp only [Sem.run_bind, run_underlying Try.underlying52, Result.andThen, hg, hc, hf, Option.map_some, hstay, setObj_map hb]
    · apply List.ext_getElem?
      intro j
      have h1 : (es.toList.map ent)[j]? = (m.map pr)[j]? := by rw [hm]
      simp only [List.getElem?_map, Array.getElem?_toList, Array.getElem?_modify, List.getElem?_set] at h1 ⊢
      by_cases hj : i = j
      · subst hj
        have h2 := lt_of_get hmn
        simp [Array.getElem?_eq_getElem hlt, ent, pr, h2]
      · simp [hj, h1]
    · have e : ((es.modify i fun e => { e with key := kv t, val := Value.int .i64 v }).toList.map (·.born)) = es.toList.map (·.born) := by
        apply List.ext_getElem?
        intro j
        simp only [List.getElem?_map, Array.getElem?_toList, Array.getElem?_modify]
        by_cases hj : i = j
        · subst hj; simp only [if_true, Option.map_map]; cases es[i]? <;> rfl
        · simp [hj]
      rw [e]; exact hn
    · intro e he
      rw [Array.mem_toList_iff, Array.mem_iff_getElem?] at he
      obtain ⟨j, hj⟩ := he
      rw [Array.getElem?_modify] at hj
      split at hj
      · obtain ⟨e0, h0, rfl⟩ := Option.map_eq_some_iff.1 hj
        exact hl e0 (by rw [Array.mem_toList_iff, Array.mem_iff_getElem?]; exact ⟨j, h0⟩)
      · exact hl e (by rw [Array.mem_toList_iff, Array.mem_iff_getElem?]; exact ⟨j, hj⟩)
/-- delete(m, t) -/
theorem del_T {w : World} {b : Nat} {m : List (T × Int)} (h : MapIs w b m) (t : T) :
    ∃ w', (∀ ty, Sem.run Try.prog (Builtin.delete_ #[52, 25] ty #[.map (some b), kv t]) w = .ok (.tuple #[]) w') ∧ MapIs w' b (mdel t m) ∧ w.grownBy w' (some b) := by
  obtain ⟨es, clock, hb, hm, hn, hl⟩ := h
  have hc := check_T es.isEmpty t w
  have hf := find_T t w es.toList m hm
  have hg : (getObj b).run Try.prog w = .ok (.map es clock) w := by simp [getObj, Sem.run, hb]
  unfold mdel
  cases hq : mfind t m 0 with
  | none =>
    rw [hq] at hf
    refine ⟨setBlock w b (.map es clock), fun ty => ?_, ⟨_, _, ChangeMaps.heap_setBlock_same hb _, hm, hn, hl⟩, grown_setBlock hb _⟩
    unfold Builtin.delete_
    simp [Sem.run_bind, run_underlying Try.underlying52, Result.andThen, hg, hc, hf, setObj_map hb]
  | some q =>
    obtain ⟨i, v0⟩ := q
    rw [hq] at hf
    have ht : (es.eraseIdxIfInBounds i).toList = es.toList.eraseIdx i := by
      unfold Array.eraseIdxIfInBounds
      split
      · simp
      · rename_i hh
        rw [List.eraseIdx_of_length_le (by simp; omega)]
    refine ⟨setBlock w b (.map (es.eraseIdxIfInBounds i) clock), fun ty => ?_, ⟨_, _, ChangeMaps.heap_setBlock_same hb _, ?_, ?_, ?_⟩, grown_setBlock hb _⟩
    · unfold Builtin.delete_
      simp [Sem.run_bind, run_underlying Try.underlying52, Result.andThen, hg, hc, hf, setObj_map hb]
    · rw [ht, ChangeMaps.map_eraseIdx, ChangeMaps.map_eraseIdx, hm]
    · rw [ht, ChangeMaps.map_eraseIdx]; exact hn.sublist (List.eraseIdx_sublist _ _)
    · intro e he
      rw [ht] at he
      exact hl e ((List.eraseIdx_sublist _ _).subset he)
end Go.Proofs.Ytgjkidclpehnjaa.Pr

namespace Go.Proofs.Ytgjkidclpehnjaa.Pr
open Go.Shelf Go.RowKit Go.Lib Go.Sort Go.Proofs.Ytgjkidclpehnjaa
open Go.Proofs.YtgjkidclpehnjaaW.PrintWords Go.Proofs.YtgjkidclpehnjaaW.PrintLast Go.Proofs.YtgjkidclpehnjaaW.PrintMore
open Go.ChangeMaps (setBlock)

/-- Block r is an iterator over the map in block b; acc has come, n keys are left. -/
def RngIs (w : World) (r b : Nat) (ks acc : List T) (n : Nat) : Prop :=
  ∃ es clock since seen c L, w.heap[b]? = some (.map es clock) ∧ w.heap[r]? = some (.mapIter (some b) since seen c) ∧ (es.toList.map (·.born)).Nodup ∧ (∀ e ∈ es.toList, e.born < since) ∧ (since ≤ c ∧ since ≤ clock) ∧
    (leftOf es seen).toList.map (·.key) = L.map kv ∧ L.length = n ∧ (acc ++ L).Perm ks
theorem RngIs.kept {w w' : World} {r b : Nat} {ks acc : List T} {n : Nat} (h : RngIs w r b ks acc n) (hb : w'.heap[b]? = w.heap[b]?) (hr : w'.heap[r]? = w.heap[r]?) : RngIs w' r b ks acc n := by
  obtain ⟨es, clock, since, seen, c, L, h1, h2, h3⟩ := h
  exact ⟨es, clock, since, seen, c, L, hb.trans h1, hr.trans h2, h3⟩
theorem RngIs.lt {w : World} {r b : Nat} {ks acc : List T} {n : Nat} (h : RngIs w r b ks acc n) : r < w.heap.size ∧ b < w.heap.size := by
  obtain ⟨es, clock, since, seen, c, L, h1, h2, h3⟩ := h
  exact ⟨(Array.getElem?_eq_some_iff.1 h2).1, (Array.getElem?_eq_some_iff.1 h1).1⟩
theorem map_kv {m : List (T × Int)} {l : List MapEntry} (h : l.map ent = m.map pr) : l.map (·.key) = (m.map Prod.fst).map kv := by
  have h1 : (l.map ent).map Prod.fst = (m.map pr).map Prod.fst := by rw [h]
  simpa [List.map_map, ent, pr, Function.comp_def] using h1
theorem rng_start {w : World} {b : Nat} {m : List (T × Int)} (h : MapIs w b m) :
    ∃ o, Sem.run Try.prog (Instr.range 52 (.map (some b))) w = .ok (.pointer (some ⟨w.heap.size, 0, none⟩)) (w.alloc o) ∧ RngIs (w.alloc o) w.heap.size b (m.map Prod.fst) [] m.length := by
  obtain ⟨es, clock, hb, hm, hn, hl⟩ := h
  refine ⟨.mapIter (some b) clock #[] clock, ?_, es, clock, clock, #[], clock, m.map Prod.fst, (Below.heap_alloc _ _ _ (Array.getElem?_eq_some_iff.1 hb).1).trans hb, blk_new _ _, hn, hl, ⟨Nat.le_refl _, Nat.le_refl _⟩, ?_, by simp, List.Perm.refl _⟩
  · have hg : (getObj b).run Try.prog w = .ok (.map es clock) w := by simp [getObj, Sem.run, hb]
    unfold Instr.range
    simp [Sem.run_bind, run_underlying Try.underlying52, hg, Result.andThen]
  · have : leftOf es #[] = es := by unfold leftOf; simp
    rw [this, map_kv hm]
theorem left_push (es : Array MapEntry) (seen : Array Nat) (e : MapEntry) : (leftOf es (seen.push e.born)).toList = (leftOf es seen).toList.filter (fun x => decide (x.born ≠ e.born)) := by
  unfold leftOf
  simp only [Array.toList_filter, List.filter_filter]
  apply List.filter_congr
  intro x _
  by_cases h : x.born = e.born <;> simp [h]
theorem rng_next {w : World} {r b : Nat} {ks acc : List T} {n : Nat} (h : RngIs w r b ks acc n) :
    (n = 0 ∧ acc.Perm ks ∧ ∀ ty, Sem.run Try.prog (Instr.next (.pointer (some ⟨r, 0, none⟩)) false ty) w = .ok (.tuple #[.bool false]) w) ∨
    ∃ t w' n', n = n' + 1 ∧ (∃ u, (∀ ty, Sem.run Try.prog (Instr.next (.pointer (some ⟨r, 0, none⟩)) false ty) w = .ok (.tuple #[.bool true, kv t, u]) w') ∧ Sem.run Try.prog (Instr.entry (.pointer (some ⟨r, 0, none⟩))) w' = .ok (.tuple #[kv t, u]) w') ∧ RngIs w' r b ks (acc ++ [t]) n' ∧ w.grownBy w' (some r) := by
  obtain ⟨es, clock, since, seen, c, L, hb, hr, hn, hl, ⟨hsc, hsk⟩, hL, hLn, hp⟩ := h
  have hne : r ≠ b := by rintro rfl; rw [hr] at hb; cases hb
  rcases run_next_at (P := Try.prog) w 0 r b since c seen es clock hr hb hl hsc with ⟨h0, _⟩ | ⟨_, he0, _⟩
  · left
    have hL0 : L = [] := by
      have h1 := congrArg List.length hL
      simp [h0] at h1
      exact List.eq_nil_of_length_eq_zero h1.symm
    subst hL0
    refine ⟨by simpa using hLn.symm, by simpa using hp, fun ty => ?_⟩
    rcases run_next_at (P := Try.prog) w ty r b since c seen es clock hr hb hl hsc with ⟨_, h1⟩ | ⟨e, he, _⟩
    · exact h1
    · have : (leftOf es seen).toList.length = 0 := by simpa using h0
      rw [List.eq_nil_of_length_eq_zero this] at he
      cases he
  · right
    rcases run_next_at (P := Try.prog) w 0 r b since c seen es clock hr hb hl hsc with ⟨h0, _⟩ | ⟨e, he, w1, hw1, hrun⟩
    · have : (leftOf es seen).toList.length = 0 := by simpa using h0
      rw [List.eq_nil_of_length_eq_zero this] at he0
      cases he0
    · have hb1 : w1.heap[b]? = some (.map es clock) := by rcases hw1 with rfl | rfl <;> exact hb
      have hr1 : w1.heap[r]? = some (.mapIter (some b) since seen c) := by rcases hw1 with rfl | rfl <;> exact hr
      have hes : e ∈ es.toList := by
        unfold leftOf at he
        rw [Array.toList_filter] at he
        exact (List.mem_filter.1 he).1
      have hkm : e.key ∈ L.map kv := by rw [← hL]; exact List.mem_map_of_mem he
      obtain ⟨t, htL, hkt⟩ := List.mem_map.1 hkm
      have hlt : r < w1.heap.size := (Array.getElem?_eq_some_iff.1 hr1).1
      have hb2 : (setBlock w1 r (.mapIter (some b) since (seen.push e.born) clock)).heap[b]? = some (.map es clock) := by
        unfold setBlock
        rw [Array.getElem?_setIfInBounds_ne hne]
        exact hb1
      have hr2 : (setBlock w1 r (.mapIter (some b) since (seen.push e.born) clock)).heap[r]? = some (.mapIter (some b) since (seen.push e.born) clock) := by
        unfold setBlock
        rw [Array.getElem?_setIfInBounds_self_of_lt hlt]
      -- the rest of the keys
      have hnd : ((leftOf es seen).toList.map (·.born)).Nodup := by
        unfold leftOf
        rw [Array.toList_filter]
        exact hn.sublist (List.filter_sublist.map _)
      obtain ⟨l1, l2, hl12⟩ := List.append_of_mem he
      have hflt : (leftOf es (seen.push e.born)).toList = l1 ++ l2 := by
        rw [left_push, hl12]
        rw [hl12, List.map_append, List.map_cons, List.nodup_append] at hnd
        obtain ⟨_, hn2, hn3⟩ := hnd
        rw [List.nodup_cons] at hn2
        rw [List.filter_append, List.filter_cons_of_neg (by simp)]
        rw [List.filter_eq_self.2, List.filter_eq_self.2]
        · intro x hx
          have : x.born ≠ e.born := fun h => hn2.1 (by rw [← h]; exact List.mem_map_of_mem hx)
          simpa using this
        · intro x hx
          have := hn3 x.born (List.mem_map_of_mem hx) e.born (by simp)
          simpa using this
      rw [hl12, List.map_append, List.map_cons] at hL
      have hLs : ∃ L1 L2, L = L1 ++ t :: L2 ∧ l1.map (·.key) = L1.map kv ∧ l2.map (·.key) = L2.map kv := by
        have hlen : l1.length < L.length := by
          have := congrArg List.length hL
          simp at this; omega
        refine ⟨L.take l1.length, L.drop (l1.length + 1), ?_, ?_, ?_⟩
        · have hx : L[l1.length] = t := by
            have h1 : (L.map kv)[l1.length]? = some e.key := by rw [← hL]; simp
            rw [List.getElem?_map, List.getElem?_eq_getElem hlen] at h1
            simp only [Option.map_some, Option.some.injEq] at h1
            exact kv_inj.1 (h1.trans hkt.symm)
          rw [← hx]
          conv => lhs; rw [← List.take_append_drop l1.length L, List.drop_eq_getElem_cons hlen]
        · have := congrArg (List.take l1.length) hL
          rw [List.take_left' (by simp), ← List.map_take] at this
          exact this
        · have := congrArg (List.drop (l1.length + 1)) hL
          rw [← List.map_drop] at this
          rw [← this]
          simp [List.drop_append]
      obtain ⟨L1, L2, rfl, hL1, hL2⟩ := hLs
      refine ⟨t, _, L1.length + L2.length, by simp at hLn; omega, ⟨e.val, fun ty => ?_, ?_⟩, ⟨es, clock, since, seen.push e.born, clock, L1 ++ L2, hb2, hr2, hn, hl, ⟨hsk, hsk⟩, ?_, by simp, ?_⟩, ?_⟩
      · rw [hkt]; exact hrun
      · rw [hkt]; exact run_entry_at _ r b since seen es clock e hr2 hb2 hes hn
      · rw [hflt, List.map_append, List.map_append, hL1, hL2]
      · refine List.Perm.trans ?_ hp
        rw [List.append_assoc]
        exact List.Perm.append_left _ (by simpa using (List.perm_middle (a := t) (l₁ := L1) (l₂ := L2)).symm)
      · have hg : w.grownBy w1 none := by
          rcases hw1 with rfl | rfl
          · exact World.grownBy.refl _ _
          · exact ⟨rfl, rfl, rfl, Nat.le_refl _, fun _ _ _ => rfl⟩
        refine ⟨hg.os, hg.tape, hg.output, by simpa [setBlock] using hg.size, fun k hk hkr => ?_⟩
        have : r ≠ k := fun e => hkr (by rw [e])
        unfold setBlock
        rw [Array.getElem?_setIfInBounds_ne this]
        exact hg.block k hk (by simp)
end Go.Proofs.Ytgjkidclpehnjaa.Pr

namespace Go.Proofs.Ytgjkidclpehnjaa.Pr
open Go.Shelf Go.RowKit Go.Lib Go.Sort Go.Proofs.Ytgjkidclpehnjaa
open Go.Proofs.YtgjkidclpehnjaaW.PrintWords Go.Proofs.YtgjkidclpehnjaaW.PrintLast Go.Proofs.YtgjkidclpehnjaaW.PrintMore
open Go.ChangeMaps (setBlock)

/-! ### the keys, plainly -/
theorem mfind_none {t : T} : ∀ {m : List (T × Int)} {i : Nat}, mfind t m i = none ↔ t ∉ m.map Prod.fst
  | [], i => by simp [mfind]
  | p :: m, i => by
    rw [mfind]
    by_cases h : t = p.1
    · simp [h]
    · rw [if_neg h, mfind_none (m := m), List.map_cons, List.mem_cons]; simp [h]
theorem mput_keys (t : T) (v : Int) (m : List (T × Int)) : (mput t v m).map Prod.fst = putT (m.map Prod.fst) t := by
  unfold mput putT
  cases hq : mfind t m 0 with
  | none => rw [if_neg (mfind_none.1 hq)]; simp
  | some q =>
    obtain ⟨i, v0⟩ := q
    obtain ⟨n, hin, hmn⟩ := mfind_at t m 0 i v0 hq
    obtain rfl : i = n := by omega
    have hmem : t ∈ m.map Prod.fst := List.mem_map.2 ⟨(t, v0), List.mem_of_getElem? hmn, rfl⟩
    rw [if_pos hmem]
    apply List.ext_getElem?
    intro j
    simp only [List.getElem?_map, List.getElem?_set]
    by_cases hj : i = j
    · subst hj
      have h8 := lt_of_get hmn
      have h9 := List.getElem?_eq_getElem h8
      rw [hmn] at h9
      injection h9 with h9
      simp [h8, ← h9]
    · simp [hj]
theorem mdel_keys (t : T) (m : List (T × Int)) (hn : (m.map Prod.fst).Nodup) : (mdel t m).map Prod.fst = (m.map Prod.fst).filter (fun u => decide (u ≠ t)) := by
  unfold mdel
  cases hq : mfind t m 0 with
  | none =>
    have h := mfind_none.1 hq
    rw [List.filter_eq_self.2]
    intro u hu
    have : u ≠ t := fun e => h (by rw [← e]; exact hu)
    simpa using this
  | some q =>
    obtain ⟨i, v0⟩ := q
    obtain ⟨n, hin, hmn⟩ := mfind_at t m 0 i v0 hq
    obtain rfl : i = n := by omega
    have hlt := lt_of_get hmn
    have hk : (m.map Prod.fst)[i]? = some t := by rw [List.getElem?_map, hmn]; rfl
    dsimp only
    rw [ChangeMaps.map_eraseIdx]
    generalize m.map Prod.fst = l at hn hk
    clear hq hmn hlt hin
    induction l generalizing i with
    | nil => simp at hk
    | cons x l ih =>
      rw [List.nodup_cons] at hn
      cases i with
      | zero =>
        obtain rfl : x = t := by simpa using hk
        rw [List.eraseIdx_cons_zero, List.filter_cons_of_neg (by simp), List.filter_eq_self.2]
        intro u hu
        have : u ≠ x := fun e => hn.1 (by rw [← e]; exact hu)
        simpa using this
      | succ i =>
        have hk' : l[i]? = some t := by simpa using hk
        have hx : x ≠ t := fun e => hn.1 (by rw [e]; exact List.mem_of_getElem? hk')
        rw [List.eraseIdx_cons_succ, List.filter_cons_of_pos (by simpa using hx), ih i hn.2 hk']
theorem putT_nodup {l : List T} (h : l.Nodup) (t : T) : (putT l t).Nodup := by
  unfold putT
  split
  · exact h
  · rename_i hq
    rw [List.nodup_append]
    refine ⟨h, by simp, ?_⟩
    intro a ha b hb
    simp only [List.mem_singleton] at hb
    rintro rfl
    exact hq (hb ▸ ha)
theorem putT_filter (l : List T) (t : T) : (putT l t).filter (fun u => decide (u ≠ t)) = l.filter (fun u => decide (u ≠ t)) := by
  unfold putT
  split
  · rfl
  · rw [List.filter_append, List.filter_cons_of_neg (by simp), List.filter_nil, List.append_nil]
theorem putT_len (l : List T) (t : T) : (putT l t).length ≤ l.length + 1 := by
  unfold putT; split <;> simp
theorem playDo_len (l : List T) (c : Ch) : (playDo l c).length ≤ l.length + 1 := by
  unfold playDo; split
  · exact Nat.le_trans (List.length_filter_le _ _) (Nat.le_succ _)
  · exact putT_len _ _
theorem foldl_len {β : Type} (f : List T → β → List T) (hf : ∀ l x, (f l x).length ≤ l.length + 1) : ∀ (xs : List β) (l : List T), (xs.foldl f l).length ≤ l.length + xs.length
  | [], l => by simp
  | x :: xs, l => by
    rw [List.foldl_cons, List.length_cons]
    have := foldl_len f hf xs (f l x)
    have := hf l x
    omega
theorem play_len (ts : List T) (cs : List Ch) : (playL ts cs).length ≤ ts.length + cs.length := by
  unfold playL
  have h1 := foldl_len playDo playDo_len cs (ts.foldl putT [])
  have h2 := foldl_len putT putT_len ts []
  simp at h2; omega
theorem ne_row {w : World} {base : Nat} {v : Value} {n : Nat} {xs : List Value} {e : TypeId} {sz b : Nat} (h : w.ownsRow base e sz v n xs) (hb : ∀ cs q fr, w.heap[b]? ≠ some (.cells cs q fr)) : some b ≠ v.ownBlock := by
  rcases h.2 with ⟨rfl, _⟩ | ⟨g, cap, cur, rfl, _, hg, _⟩
  · simp [Value.ownBlock]
  · intro e
    have : b = g := by simpa [Value.ownBlock] using e
    subst this
    exact hb _ _ _ hg
theorem RngIs.no {w : World} {r b : Nat} {ks acc : List T} {n : Nat} (h : RngIs w r b ks acc n) : (∀ cs q fr, w.heap[r]? ≠ some (.cells cs q fr)) ∧ (∀ cs q fr, w.heap[b]? ≠ some (.cells cs q fr)) := by
  obtain ⟨es, clock, since, seen, c, L, h1, h2, _⟩ := h
  exact ⟨fun _ _ _ e => (by rw [h2] at e; cases e), fun _ _ _ e => (by rw [h1] at e; cases e)⟩
theorem RngIs.alloc {w : World} {r b : Nat} {ks acc : List T} {n : Nat} (h : RngIs w r b ks acc n) (o : Obj) : RngIs (w.alloc o) r b ks acc n := h.kept (Below.heap_alloc _ _ _ h.lt.2) (Below.heap_alloc _ _ _ h.lt.1)
theorem below_map {B : Nat} {w0 w w' : World} (hb : Below B w0 w) (hB : B ≤ w.heap.size) {b : Nat} (hg : w.grownBy w' (some b)) (h : B ≤ b) : Below B w0 w' := hb.grown hg hB (fun k e => by cases e; exact h)

set_option maxHeartbeats 4000000 in
set_option maxRecDepth 100000 in
theorem watch_Play.calls (A0 : Option Addr) (c0 : Nat) (l0 : List T) (A1 : Option Addr) (c1 : Nat) (l1 : List Ch) (r : List T) (w : World) (hr0 : Kd.C k25 w A0 l0.length l0) (hc0 : l0.length ≤ c0) (hr1 : Kd.C k29 w A1 l1.length l1) (hc1 : l1.length ≤ c1) (h : watch_Play.f l0 l1 = some r) :
    Calls Try.prog 10 #[.slice A0 l0.length c0, .slice A1 l1.length c1] w fun e w' => ∃ v0_ : Value, e = .returned (v0_) ∧ Kd.R k25 25 w' w.heap.size (fun _ => True) v0_ r ∧ Below w.heap.size w w' := by
  obtain ⟨ht0, ht1, rfl⟩ : l0.length ≤ 1073741824 ∧ l1.length ≤ 1073741824 ∧ msort ltT (playL l0 l1) = r := by
    unfold watch_Play.f tiny at h
    split at h
    · split at h
      · rename_i h1 h2
        exact ⟨of_decide_eq_true h1, of_decide_eq_true h2, Option.some.inj h⟩
      · cases h
    · cases h
  have HR0 : Aside (Kd.C k25 w A0 l0.length l0) := hr0
  have HR1 : Aside (Kd.C k29 w A1 l1.length l1) := hr1
  clear hr0 hc0 hr1 hc1 h
  have hmm := @run_makeMap Try.prog
  go_enter Try.func10, Try.ntmps10
  go_wp2
  clear hmm
  obtain ⟨B, hB⟩ : ∃ B, B = w.heap.size := ⟨_, rfl⟩
  have S0 : Aside (MapIs (w.alloc (.map #[] 0)) B [] ∧ Below B w (w.alloc (.map #[] 0)) ∧ B < (w.alloc (.map #[] 0)).heap.size) := by
    subst hB; exact ⟨MapIs.made w, (Below.refl _ w).alloc (Nat.le_refl _) _, by simp⟩
  rw [← hB]
  have HBe : Hid (B = w.heap.size) := hB
  clear hB
  go_loopg [15] l0.length (fun gk s15 wr => ∃ (i : Nat) (m : List (T × Int)), s15 = .int .i64 i ∧ i ≤ l0.length ∧ l0.length - i ≤ gk ∧ Hid (m.map Prod.fst = (l0.take i).foldl putT [] ∧ (m.map Prod.fst).Nodup) ∧ Aside (MapIs wr B m ∧ Below B w wr ∧ B < wr.heap.size))
  case atStart => exact ⟨0, [], rfl, Nat.zero_le _, Nat.le_refl _, ⟨rfl, by simp⟩, S0⟩
  case round =>
    clear S0
    obtain ⟨i, m, rfl, hi, hg, HM, S1⟩ := hrel
    by_cases hlt : i < l0.length
    · have hltz : (i : Int) < (l0.length : Int) := by omega
      obtain ⟨ad, x, hA, hx, h0, h1, h2⟩ := el_T HR0.out rfl i hlt
      have HBl : Below w.heap.size w wr := by rw [← HBe.out]; exact S1.out.2.1
      replace h0 := cell_below HBl h0
      replace h1 := cell_below HBl h1
      replace h2 := cell_below HBl h2
      clear HBl
      subst hA
      obtain ⟨w1, hrun, hM1, hg1⟩ := put_T (S1.out.1.alloc (.cells #[.string x.f0, .string x.f1, .string x.f2] 25)) x 1
      have HM1 : Hid ((mput x 1 m).map Prod.fst = (l0.take (i + 1)).foldl putT [] ∧ ((mput x 1 m).map Prod.fst).Nodup) := by
        have h := HM.out
        rw [mput_keys]
        refine ⟨?_, putT_nodup h.2 _⟩
        rw [take_step l0 i x hx, List.foldl_append, h.1]; rfl
      have S2 : Aside (MapIs w1 B (mput x 1 m) ∧ Below B w w1 ∧ B < w1.heap.size) := ⟨hM1, below_map (S1.out.2.1.alloc (by have := S1.out.2.2; omega) _) (by have := S1.out.2.2; simp; omega) hg1 (Nat.le_refl _), by have := S1.out.2.2; have := hg1.size; simp at this; omega⟩
      clear hM1 hg1 HM hx S1
      obtain ⟨t0, t1, t2⟩ := x
      simp only [kv] at hrun
      dsimp only at h0 h1 h2
      go_wp2
      go_roundg (l0.length - (i + 1))
      case measure => omega
      case rel => exact ⟨i + 1, _, by first | rfl | go_num, by omega, Nat.le_refl _, HM1, S2.out⟩
    · have hltz : ¬ (i : Int) < (l0.length : Int) := by omega
      have HM0 : Hid (m.map Prod.fst = l0.foldl putT [] ∧ (m.map Prod.fst).Nodup) := by
        have h := HM.out
        exact ⟨by rw [h.1, List.take_of_length_le (by omega)], h.2⟩
      clear HM
      go_wp2
      go_loopg [24] l1.length (fun gk s24 wr => ∃ (i : Nat) (m : List (T × Int)), s24 = .int .i64 i ∧ i ≤ l1.length ∧ l1.length - i ≤ gk ∧ Hid (m.map Prod.fst = (l1.take i).foldl playDo (l0.foldl putT []) ∧ (m.map Prod.fst).Nodup) ∧ Aside (MapIs wr B m ∧ Below B w wr ∧ B < wr.heap.size))
      case atStart => exact ⟨0, m, rfl, Nat.zero_le _, Nat.le_refl _, HM0, S1⟩
      case round =>
        clear S1 HM0
        obtain ⟨i, m, rfl, hi, hg, HM, S1⟩ := hrel
        by_cases hlt : i < l1.length
        · have hltz : (i : Int) < (l1.length : Int) := by omega
          obtain ⟨ad, x, hA, hx, h0, h1, h2, h3, h4⟩ := el_Ch HR1.out rfl i hlt
          have HBl : Below w.heap.size w wr := by rw [← HBe.out]; exact S1.out.2.1
          replace h0 := cell_below HBl h0
          replace h1 := cell_below HBl h1
          replace h2 := cell_below HBl h2
          replace h3 := cell_below HBl h3
          replace h4 := cell_below HBl h4
          clear HBl
          subst hA
          have hbx := blk_new wr (.cells #[.int .i64 x.f0, .bool x.f1.f0, .string x.f1.f1.f0, .string x.f1.f1.f1, .string x.f1.f1.f2] 29)
          obtain ⟨w1, hrun, hM1, hg1⟩ := put_T (S1.out.1.alloc (.cells #[.int .i64 x.f0, .bool x.f1.f0, .string x.f1.f1.f0, .string x.f1.f1.f1, .string x.f1.f1.f2] 29)) x.f1.f1 1
          have hb1 := blk_grown hbx hg1 (by have := S1.out.2.2; simp; omega)
          have hB1 := below_map (S1.out.2.1.alloc (by have := S1.out.2.2; omega) (.cells #[.int .i64 x.f0, .bool x.f1.f0, .string x.f1.f1.f0, .string x.f1.f1.f1, .string x.f1.f1.f2] 29)) (by have := S1.out.2.2; simp; omega) hg1 (Nat.le_refl _)
          have hs1 : B < w1.heap.size := by have := S1.out.2.2; have := hg1.size; simp at this; omega
          obtain ⟨w2, hrun2, hM2, hg2⟩ := del_T hM1 x.f1.f1
          have hB2 := below_map hB1 (by omega) hg2 (Nat.le_refl _)
          have hs2 : B < w2.heap.size := by have := hg2.size; omega
          have hk1 : ((mput x.f1.f1 1 m).map Prod.fst).Nodup := by rw [mput_keys]; exact putT_nodup HM.out.2 _
          have hstep : (l1.take (i + 1)).foldl playDo (l0.foldl putT []) = playDo (m.map Prod.fst) x := by
            rw [take_step l1 i x hx, List.foldl_append, HM.out.1]; rfl
          obtain ⟨x0, x1, t0, t1, t2⟩ := x
          simp only [kv] at hrun hrun2
          dsimp only at h0 h1 h2 h3 h4 hb1 hk1 hM1 hM2
          by_cases hd : x1 = true
          · subst hd
            have HM1 : Hid ((mdel ⟨t0, t1, t2⟩ (mput ⟨t0, t1, t2⟩ 1 m)).map Prod.fst = (l1.take (i + 1)).foldl playDo (l0.foldl putT []) ∧ ((mdel ⟨t0, t1, t2⟩ (mput ⟨t0, t1, t2⟩ 1 m)).map Prod.fst).Nodup) := by
              rw [mdel_keys _ _ hk1, mput_keys, putT_filter, hstep]
              exact ⟨rfl, HM.out.2.sublist List.filter_sublist⟩
            have S2 : Aside (MapIs w2 B (mdel ⟨t0, t1, t2⟩ (mput ⟨t0, t1, t2⟩ 1 m)) ∧ Below B w w2 ∧ B < w2.heap.size) := ⟨hM2, hB2, hs2⟩
            have e1 : w1.cell? ⟨wr.heap.size, 1, none⟩ = some (.bool true) := (blk_cell hb1 1).trans rfl
            have e2 : w1.cell? ⟨wr.heap.size, 2, none⟩ = some (.string t0) := (blk_cell hb1 2).trans rfl
            have e3 : w1.cell? ⟨wr.heap.size, 3, none⟩ = some (.string t1) := (blk_cell hb1 3).trans rfl
            have e4 : w1.cell? ⟨wr.heap.size, 4, none⟩ = some (.string t2) := (blk_cell hb1 4).trans rfl
            clear hM1 hg1 HM hx S1 hbx hb1 hB1 hs1 hM2 hg2 hB2 hs2 hk1 hstep
            go_wp2
            go_roundg (l1.length - (i + 1))
            case measure => omega
            case rel => exact ⟨i + 1, _, by first | rfl | go_num, by omega, Nat.le_refl _, HM1, S2.out⟩
          · obtain rfl : x1 = false := by simpa using hd
            have HM1 : Hid ((mput ⟨t0, t1, t2⟩ 1 m).map Prod.fst = (l1.take (i + 1)).foldl playDo (l0.foldl putT []) ∧ ((mput ⟨t0, t1, t2⟩ 1 m).map Prod.fst).Nodup) := by
              rw [mput_keys] at hk1 ⊢
              rw [hstep]
              exact ⟨rfl, hk1⟩
            have S2 : Aside (MapIs w1 B (mput ⟨t0, t1, t2⟩ 1 m) ∧ Below B w w1 ∧ B < w1.heap.size) := ⟨hM1, hB1, hs1⟩
            have e1 : w1.cell? ⟨wr.heap.size, 1, none⟩ = some (.bool false) := (blk_cell hb1 1).trans rfl
            clear hM1 hg1 HM hx S1 hbx hb1 hB1 hs1 hM2 hg2 hB2 hs2 hk1 hstep hrun2
            go_wp2
            go_roundg (l1.length - (i + 1))
            case measure => omega
            case rel => exact ⟨i + 1, _, by first | rfl | go_num, by omega, Nat.le_refl _, HM1, S2.out⟩
        · have hltz : ¬ (i : Int) < (l1.length : Int) := by omega
          have HM0 : Hid (m.map Prod.fst = playL l0 l1 ∧ m.length ≤ 2147483648) := by
            have h := HM.out
            have h1 : m.map Prod.fst = playL l0 l1 := by rw [h.1, List.take_of_length_le (by omega)]; rfl
            have h2 := play_len l0 l1
            have h3 := congrArg List.length h1
            simp at h3
            exact ⟨h1, by omega⟩
          clear HM
          obtain ⟨o, hrange, hrng⟩ := rng_start S1.out.1
          obtain ⟨rb, hrb⟩ : ∃ rb, rb = wr.heap.size := ⟨_, rfl⟩
          rw [← hrb] at hrange hrng
          have S2 : Aside (RngIs (wr.alloc o) rb B (m.map Prod.fst) [] m.length ∧ Below B w (wr.alloc o) ∧ B < (wr.alloc o).heap.size ∧ B ≤ rb) := ⟨hrng, S1.out.2.1.alloc (by have := S1.out.2.2; omega) _, by have := S1.out.2.2; simp; omega, by have := S1.out.2.2; omega⟩
          clear hrng S1 hrb
          go_wp2
          go_loopg [10] m.length (fun gk s10 wr => ∃ (acc : List T) (n : Nat), n ≤ gk ∧ acc.length + n = m.length ∧ Aside (RngIs wr rb B (m.map Prod.fst) acc n ∧ Below B w wr ∧ B < wr.heap.size ∧ B ≤ rb) ∧ Aside (Kd.R k25 25 wr B (fun _ => True) s10 acc))
          case atStart => exact ⟨[], m.length, Nat.le_refl _, by simp, S2, Kd.R_nil _ _ _ _ _⟩
          case round =>
            clear S2
            obtain ⟨acc, n, hn, hlen, S3, HO⟩ := hrel
            rcases rng_next S3.out.1 with ⟨h0, hp, hnx⟩ | ⟨t, w1, n', hn', ⟨u, hnx, hen⟩, hr1, hg1⟩
            · have hal : acc.length < 4611686018427387904 := by have := HM0.out.2; omega
              have hs := sort_T B u10 acc wr (fl_T HO.out) hal
              have hms : msort ltT acc = msort ltT (playL l0 l1) := by
                rw [← HM0.out.1]
                exact msort_congr cmp_T.swo hp (fun x _ y _ q1 q2 => by
                  have a := cmp_T.anti x y
                  unfold ltOf at q1 q2
                  rw [decide_eq_false_iff_not] at q1 q2
                  exact cmpT_zero.1 (by omega))
              have HMS : Hid (msort ltT acc = msort ltT (playL l0 l1)) := hms
              have HSo : Hid (type_of% hs) := hs
              have HF : Aside (wr.ownsRow B 25 3 u10 acc.length (acc.flatMap enT)) := fl_T HO.out
              clear hs hal hms hp
              go_wp2_with (go_at_call 29; refine HSo.out.mono ?_; rintro e w1 ⟨rfl, ho1, hg1⟩; have HO1 : Aside _ := ho1; have HG1 : Aside _ := hg1; clear ho1 hg1)
              go_ret
              refine ⟨_, rfl, ?_, ?_⟩
              · rw [← HMS.out, ← HBe.out]; exact R_T HO1.out
              · rw [← HBe.out]; exact below_grown S3.out.2.1 HG1.out (by have := S3.out.2.2.1; omega) HF.out
            · have hal : acc.length < 4294967296 := by have := HM0.out.2; omega
              have hn1 := ne_row (fl_T HO.out) S3.out.1.no.1
              have hn2 := ne_row (fl_T HO.out) S3.out.1.no.2
              have hO1 := Kd.R_grown1 HO.out rfl hg1 hn1
              have hB1 := below_map S3.out.2.1 (by have := S3.out.2.2.1; omega) hg1 S3.out.2.2.2
              have hs1 : B < w1.heap.size := by have := S3.out.2.2.1; have := hg1.size; omega
              have HL : Aside (acc.length < 4294967296 ∧ B < w1.heap.size ∧ B ≤ rb) := ⟨hal, hs1, S3.out.2.2.2⟩
              have HW : Aside (RngIs w1 rb B (m.map Prod.fst) (acc ++ [t]) n' ∧ Kd.R k25 25 w1 B (fun _ => True) u10 acc ∧ Below B w w1 ∧ some rb ≠ u10.ownBlock ∧ some B ≠ u10.ownBlock) := ⟨hr1, hO1, hB1, hn1, hn2⟩
              clear hal hn1 hn2 hO1 hB1 hs1 hr1 hg1 S3 HO
              obtain ⟨t0, t1, t2⟩ := t
              simp only [kv] at hnx hen
              go_wp2_with (at_builtin; refine app_T (w0 := w) B rfl (.tmp 46) (.tmp 48) rfl u10 acc ⟨t0, t1, t2⟩ rfl (by first | (go_simp; done) | (go_simp; rfl)) ?aO ?aB ?aS HL.out.1 ?_; (case aO => exact Kd.R_alloc HW.out.2.1 _); (case aB => exact HW.out.2.2.1.alloc (by have := HL.out.2.1; omega) _); (case aS => have := HL.out.2.1; simp; omega); intro v2 w2 ho hb hg2 hat; have HO2 : Aside _ := ho; have HB2 : Aside _ := hb; have HG2 : Aside _ := hg2; clear ho hb hg2 hat)
              go_roundg n'
              case measure => omega
              case rel =>
                have h1 := HW.out.1.alloc (.cells #[.string t0, .string t1, .string t2] 25)
                refine ⟨_, n', Nat.le_refl _, by simp; omega, ⟨h1.kept (HG2.out.block _ h1.lt.2 HW.out.2.2.2.2) (HG2.out.block _ h1.lt.1 HW.out.2.2.2.1), HB2.out, ?_, HL.out.2.2⟩, HO2.out⟩
                have := HG2.out.size; have := HL.out.2.1; simp at *; omega
end Go.Proofs.Ytgjkidclpehnjaa.Pr

namespace Go.Proofs.Ytgjkidclpehnjaa.Pr
open Go.Shelf Go.RowKit Go.Lib Go.Sort Go.Proofs.Ytgjkidclpehnjaa
open Go.Proofs.YtgjkidclpehnjaaW.PrintWords Go.Proofs.YtgjkidclpehnjaaW.PrintLast Go.Proofs.YtgjkidclpehnjaaW.PrintMore
open Go.ChangeMaps (setBlock)

/-! ### the open rows and the map that names them, plainly -/
def Inv (out : List Ro) (m : List (T × Int)) : Prop := (m.map Prod.fst).Nodup ∧ ∀ t v, (t, v) ∈ m ↔ ∃ (i : Nat) (r : Ro), v = (i : Int) ∧ out[i]? = some r ∧ r.f0 = t ∧ r.f2 = 0
theorem mfind_mem {t : T} {m : List (T × Int)} {p : Nat} {v : Int} (h : mfind t m 0 = some (p, v)) : (t, v) ∈ m := by
  obtain ⟨n, _, hn⟩ := mfind_at t m 0 p v h
  exact List.mem_of_getElem? hn
theorem key_one {m : List (T × Int)} (hn : (m.map Prod.fst).Nodup) {t : T} {u v : Int} (h1 : (t, u) ∈ m) (h2 : (t, v) ∈ m) : u = v := by
  induction m with
  | nil => simp at h1
  | cons p m ih =>
    rw [List.map_cons, List.nodup_cons] at hn
    have key : ∀ {x : Int}, (t, x) ∈ m → t ∈ m.map Prod.fst := fun h => List.mem_map.2 ⟨_, h, rfl⟩
    rcases List.mem_cons.1 h1 with e1 | e1 <;> rcases List.mem_cons.1 h2 with e2 | e2
    · rw [← e1] at e2; injection e2 with _ e; exact e.symm
    · exact absurd (key e2) (by rw [← e1] at hn; exact hn.1)
    · exact absurd (key e1) (by rw [← e2] at hn; exact hn.1)
    · exact ih hn.2 e1 e2
theorem mem_mdel {m : List (T × Int)} (hn : (m.map Prod.fst).Nodup) (t u : T) (v : Int) : (u, v) ∈ mdel t m ↔ (u, v) ∈ m ∧ u ≠ t := by
  have hk := mdel_keys t m hn
  have hsub : (mdel t m).Sublist m := by
    unfold mdel
    split
    · exact List.eraseIdx_sublist _ _
    · exact List.Sublist.refl _
  constructor
  · intro h
    refine ⟨hsub.subset h, ?_⟩
    have : u ∈ (mdel t m).map Prod.fst := List.mem_map.2 ⟨_, h, rfl⟩
    rw [hk] at this
    simpa using (List.mem_filter.1 this).2
  · rintro ⟨h1, h2⟩
    have : u ∈ (mdel t m).map Prod.fst := by
      rw [hk]
      exact List.mem_filter.2 ⟨List.mem_map.2 ⟨_, h1, rfl⟩, by simpa using h2⟩
    obtain ⟨⟨u', v'⟩, h3, rfl⟩ := List.mem_map.1 this
    have := key_one hn h1 (hsub.subset h3)
    subst this
    exact h3
theorem Inv.no {out : List Ro} {m : List (T × Int)} (h : Inv out m) {t : T} (hq : mfind t m 0 = none) : out.any (openAt t) = false := by
  rw [List.any_eq_false]
  intro r hr ho
  obtain ⟨i, hi⟩ := List.getElem?_of_mem hr
  have ho2 := of_decide_eq_true ho
  have := (h.2 t i).2 ⟨i, r, rfl, hi, ho2.1, ho2.2⟩
  exact mfind_none.1 hq (List.mem_map.2 ⟨_, this, rfl⟩)
theorem Inv.yes {out : List Ro} {m : List (T × Int)} (h : Inv out m) {t : T} {p : Nat} {v : Int} (hq : mfind t m 0 = some (p, v)) : ∃ (i : Nat) (r : Ro), v = (i : Int) ∧ out[i]? = some r ∧ r.f0 = t ∧ r.f2 = 0 ∧ out.any (openAt t) = true ∧ (∀ j r', out[j]? = some r' → openAt t r' = true → j = i) := by
  obtain ⟨i, r, hv, hi, h1, h2⟩ := (h.2 t v).1 (mfind_mem hq)
  refine ⟨i, r, hv, hi, h1, h2, List.any_eq_true.2 ⟨r, List.mem_of_getElem? hi, decide_eq_true ⟨h1, h2⟩⟩, ?_⟩
  intro j r' hj ho
  have ho2 := of_decide_eq_true ho
  have h3 := (h.2 t j).2 ⟨j, r', rfl, hj, ho2.1, ho2.2⟩
  have := key_one h.1 h3 (mfind_mem hq)
  omega
theorem Inv.put {out : List Ro} {m : List (T × Int)} (h : Inv out m) {t : T} (hq : mfind t m 0 = none) (x : Int) : Inv (out ++ [⟨t, x, 0⟩]) (mput t (out.length : Nat) m) := by
  refine ⟨by rw [mput_keys]; exact putT_nodup h.1 t, fun u v => ?_⟩
  have hp : mput t (out.length : Nat) m = m ++ [(t, (out.length : Int))] := by unfold mput; rw [hq]
  rw [hp, List.mem_append, List.mem_singleton, h.2 u v]
  constructor
  · rintro (⟨i, r, h1, h2, h3⟩ | h1)
    · exact ⟨i, r, h1, by rw [List.getElem?_append_left (lt_of_get h2)]; exact h2, h3⟩
    · injection h1 with h1 h2
      exact ⟨out.length, ⟨t, x, 0⟩, h2, by simp, h1.symm, rfl⟩
  · rintro ⟨i, r, h1, h2, h3, h4⟩
    rcases Nat.lt_or_ge i out.length with hi | hi
    · left
      rw [List.getElem?_append_left hi] at h2
      exact ⟨i, r, h1, h2, h3, h4⟩
    · right
      have := lt_of_get h2
      simp at this
      obtain rfl : i = out.length := by omega
      simp at h2
      subst h2
      rw [h1, ← h3]
theorem Inv.close {out : List Ro} {m : List (T × Int)} (h : Inv out m) {t : T} {i : Nat} {r : Ro} (hi : out[i]? = some r) (h1 : r.f0 = t) (hu : ∀ j r', out[j]? = some r' → openAt t r' = true → j = i) (x : Int) (hx : x ≠ 0) : Inv (out.set i ⟨r.f0, r.f1, x⟩) (mdel t m) := by
  refine ⟨by rw [mdel_keys t m h.1]; exact h.1.sublist List.filter_sublist, fun u v => ?_⟩
  rw [mem_mdel h.1, h.2 u v]
  constructor
  · rintro ⟨⟨j, r', h2, h3, h4, h5⟩, hne⟩
    refine ⟨j, r', h2, ?_, h4, h5⟩
    have : i ≠ j := by
      rintro rfl
      rw [hi] at h3; injection h3 with h3
      exact hne (by rw [← h4, ← h3, h1])
    rw [List.getElem?_set_ne this]; exact h3
  · rintro ⟨j, r', h2, h3, h4, h5⟩
    by_cases hj : i = j
    · subst hj
      rw [List.getElem?_set_self (lt_of_get hi)] at h3
      injection h3 with h3
      subst h3
      exact absurd h5 hx
    · rw [List.getElem?_set_ne hj] at h3
      refine ⟨⟨j, r', h2, h3, h4, h5⟩, ?_⟩
      rintro rfl
      exact hj (hu j r' h3 (decide_eq_true ⟨h4, h5⟩)).symm
theorem close_map {out : List Ro} {t : T} {i : Nat} {r : Ro} (hi : out[i]? = some r) (h1 : r.f0 = t) (h2 : r.f2 = 0) (hu : ∀ j r', out[j]? = some r' → openAt t r' = true → j = i) (x : Int) :
    out.map (fun r => if openAt t r = true then ⟨r.f0, r.f1, x⟩ else r) = out.set i ⟨r.f0, r.f1, x⟩ := by
  apply List.ext_getElem?
  intro j
  rw [List.getElem?_map]
  by_cases hj : i = j
  · subst hj
    rw [List.getElem?_set_self (lt_of_get hi), hi, Option.map_some, if_pos (show openAt t r = true from decide_eq_true ⟨h1, h2⟩)]
  · rw [List.getElem?_set_ne hj]
    cases hq : out[j]? with
    | none => rfl
    | some r' =>
      rw [Option.map_some, if_neg]
      intro ho
      exact hj (hu j r' hq ho).symm
theorem set_same {out : List Ro} {i : Nat} {r : Ro} (hi : out[i]? = some r) (h2 : r.f2 = 0) : out.set i ⟨r.f0, r.f1, 0⟩ = out := by
  apply List.ext_getElem?
  intro j
  by_cases hj : i = j
  · subst hj
    rw [List.getElem?_set_self (lt_of_get hi), hi]
    obtain ⟨a, b, c⟩ := r
    dsimp only at h2
    rw [h2]
  · rw [List.getElem?_set_ne hj]
theorem rowsDo_len (out : List Ro) (c : Ch) : (rowsDo out c).length ≤ out.length + 1 := by
  unfold rowsDo
  split <;> split <;> simp
theorem rows_len (l : List Ch) : (rowsL l).length ≤ l.length := by
  unfold rowsL
  have : ∀ (l : List Ch) (o : List Ro), (l.foldl rowsDo o).length ≤ o.length + l.length := by
    intro l
    induction l with
    | nil => intro o; simp
    | cons c l ih =>
      intro o
      rw [List.foldl_cons, List.length_cons]
      have := ih (rowsDo o c)
      have := rowsDo_len o c
      omega
  simpa using this l []

/-! ### one cell of a row turned -/
theorem flat_set (x : Int) : ∀ (l : List Ro) (i : Nat) (r : Ro), l[i]? = some r → (l.flatMap enRo).set (i * 5 + 4) (.int .i64 x) = (l.set i ⟨r.f0, r.f1, x⟩).flatMap enRo
  | [], i, r, h => by simp at h
  | y :: l, 0, r, h => by
    obtain rfl : y = r := by simpa using h
    simp [enRo, enT]
  | y :: l, i + 1, r, h => by
    have ih := flat_set x l i r (by simpa using h)
    rw [List.set_cons_succ, List.flatMap_cons, List.flatMap_cons, ← ih]
    have e : (i + 1) * 5 + 4 = (enRo y).length + (i * 5 + 4) := by rw [enRo_len]; omega
    rw [e, List.set_append_right _ _ (Nat.le_add_right _ _), Nat.add_sub_cancel_left]
theorem set_until {w : World} {base g n cap : Nat} {out : List Ro} {i : Nat} {r : Ro} (h : w.ownsRow base 51 5 (.slice (some ⟨g, 0, none⟩) n cap) out.length (out.flatMap enRo)) (hi : out[i]? = some r) (x : Int) :
    w.cell? ⟨g, i * 5 + 4, none⟩ = some (.int .i64 r.f2) ∧ w.frozen? ⟨g, i * 5 + 4, none⟩ = false ∧
      (w.setCell ⟨g, i * 5 + 4, none⟩ (.int .i64 x)).ownsRow base 51 5 (.slice (some ⟨g, 0, none⟩) n cap) (out.set i ⟨r.f0, r.f1, x⟩).length ((out.set i ⟨r.f0, r.f1, x⟩).flatMap enRo) := by
  obtain ⟨h1, h2⟩ := h
  rcases h2 with ⟨h, _⟩ | ⟨g', cap', cur, hv, hb, hg, hn, h3, h4, h5⟩
  · cases h
  · cases hv
    have hlt := lt_of_get hi
    have hidx : i * 5 + 4 < out.length * 5 := by omega
    have hget : cur[i * 5 + 4]? = some (.int .i64 r.f2) := by
      have h6 : (cur.toList.take (out.length * 5))[i * 5 + 4]? = (out.flatMap enRo)[i * 5 + 4]? := by rw [h5]
      rw [List.getElem?_take_of_lt hidx, Array.getElem?_toList] at h6
      rw [h6]
      have h7 := get_flat (enc := enRo) (k := 5) enRo_len out i 4 hlt (by omega)
      have h8 : i * 5 + 4 < (out.flatMap enRo).length := by rw [len_flat enRo_len]; exact hidx
      have h9 : out[i]! = r := by simp [hi]
      rw [h9] at h7
      rw [List.getElem?_eq_getElem h8]
      rw [getElem!_pos (out.flatMap enRo) _ h8] at h7
      rw [h7]; rfl
    refine ⟨(blk_cell hg _).trans hget, blk_frozen hg _, by rw [len_flat enRo_len], .inr ⟨g, cap, cur.setIfInBounds (i * 5 + 4) (.int .i64 x), by simp, hb, ?_, by simpa using hn, h3, by simpa using h4, ?_⟩⟩
    · rw [setCell_eq]
      simp [mapBlock, Array.getElem?_modify, hg, onCells]
    · rw [List.length_set, Array.toList_setIfInBounds, List.take_set, h5, flat_set x out i r hi]

theorem MapIs.no {w : World} {b : Nat} {m : List (T × Int)} (h : MapIs w b m) : ∀ cs q fr, w.heap[b]? ≠ some (.cells cs q fr) := by
  obtain ⟨es, clock, h1, _⟩ := h
  exact fun _ _ _ e => (by rw [h1] at e; cases e)

set_option maxHeartbeats 4000000 in
set_option maxRecDepth 100000 in
theorem watch_Rows.calls (A0 : Option Addr) (c0 : Nat) (l0 : List Ch) (r : List Ro) (w : World) (hr0 : Kd.C k29 w A0 l0.length l0) (hc0 : l0.length ≤ c0) (h : watch_Rows.f l0 = some r) :
    Calls Try.prog 7 #[.slice A0 l0.length c0] w fun e w' => ∃ v0_ : Value, e = .returned (v0_) ∧ Kd.R k51 51 w' w.heap.size (fun _ => True) v0_ r ∧ Below w.heap.size w w' := by
  obtain ⟨ht, rfl⟩ : l0.length ≤ 1073741824 ∧ msort ltRo (rowsL l0) = r := by
    unfold watch_Rows.f tiny at h
    split at h
    · rename_i h1
      exact ⟨of_decide_eq_true h1, Option.some.inj h⟩
    · cases h
  have HR0 : Aside (Kd.C k29 w A0 l0.length l0) := hr0
  clear hr0 hc0 h
  have hmm := @run_makeMap Try.prog
  go_enter Try.func7, Try.ntmps7
  go_wp2
  clear hmm
  obtain ⟨B, hB⟩ : ∃ B, B = w.heap.size := ⟨_, rfl⟩
  have S0 : Aside (MapIs (w.alloc (.map #[] 0)) B [] ∧ Below B w (w.alloc (.map #[] 0)) ∧ B < (w.alloc (.map #[] 0)).heap.size) := by
    subst hB; exact ⟨MapIs.made w, (Below.refl _ w).alloc (Nat.le_refl _) _, by simp⟩
  rw [← hB]
  have HBe : Hid (B = w.heap.size) := hB
  clear hB
  go_loopg [3, 12] l0.length (fun gk s3 s12 wr => ∃ (i : Nat) (m : List (T × Int)) (out : List Ro), s12 = .int .i64 i ∧ i ≤ l0.length ∧ l0.length - i ≤ gk ∧ Hid (out = rowsL (l0.take i) ∧ Inv out m) ∧ Aside (MapIs wr B m ∧ Below B w wr ∧ B < wr.heap.size) ∧ Aside (Kd.R k51 51 wr B (fun _ => True) s3 out))
  case atStart => exact ⟨0, [], [], rfl, Nat.zero_le _, Nat.le_refl _, ⟨rfl, by simp, by simp⟩, S0, Kd.R_nil _ _ _ _ _⟩
  case round =>
    clear S0
    obtain ⟨i, m, out, rfl, hi, hg, HI, S1, HO⟩ := hrel
    have hol : out.length ≤ 1073741824 := by
      rw [HI.out.1]
      have := rows_len (l0.take i)
      have := List.length_take_le i l0
      omega
    by_cases hlt : i < l0.length
    · have hltz : (i : Int) < (l0.length : Int) := by omega
      obtain ⟨ad, x, hA, hx, h0, h1, h2, h3, h4⟩ := el_Ch HR0.out rfl i hlt
      have HBl : Below w.heap.size w wr := by rw [← HBe.out]; exact S1.out.2.1
      replace h0 := cell_below HBl h0
      replace h1 := cell_below HBl h1
      replace h2 := cell_below HBl h2
      replace h3 := cell_below HBl h3
      replace h4 := cell_below HBl h4
      clear HBl
      subst hA
      have hstep : rowsL (l0.take (i + 1)) = rowsDo out x := by
        unfold rowsL
        rw [take_step l0 i x hx, List.foldl_append, HI.out.1]; rfl
      obtain ⟨bx, hbxe⟩ : ∃ o, o = Obj.cells #[.int .i64 x.f0, .bool x.f1.f0, .string x.f1.f1.f0, .string x.f1.f1.f1, .string x.f1.f1.f2] 29 := ⟨_, rfl⟩
      have hM := S1.out.1.alloc bx
      have hBl := S1.out.2.1.alloc (by have := S1.out.2.2; omega) bx
      have hBs : B < (wr.alloc bx).heap.size := by have := S1.out.2.2; simp; omega
      have hO := Kd.R_alloc HO.out bx
      have hlook := look_T hM x.f1.f1
      have hnB := ne_row (fl_Ro hO) hM.no
      cases hq : mfind x.f1.f1 m 0 with
      | none =>
        rw [hq] at hlook
        have hany := HI.out.2.no hq
        by_cases hd : x.f1.f0 = true
        · -- not there, taken away: passed over
          have HI2 : Hid (out = rowsL (l0.take (i + 1)) ∧ Inv out m) := ⟨by rw [hstep, rowsDo, if_neg (by simp [hany]), if_pos hd], HI.out.2⟩
          have S2 : Aside (MapIs (wr.alloc bx) B m ∧ Below B w (wr.alloc bx) ∧ B < (wr.alloc bx).heap.size) := ⟨hM, hBl, hBs⟩
          have HO2 : Aside (Kd.R k51 51 (wr.alloc bx) B (fun _ => True) u3 out) := hO
          subst hbxe
          clear hM hBl hBs hO HI S1 HO hx hstep hq hany hnB
          obtain ⟨x0, x1, t0, t1, t2⟩ := x
          dsimp only at hd h0 h1 h2 h3 h4 hlook HO2 S2
          subst hd
          simp only [kv] at hlook
          go_wp2
          go_roundg (l0.length - (i + 1))
          case measure => omega
          case rel => exact ⟨i + 1, m, out, by first | rfl | go_num, by omega, Nat.le_refl _, HI2, S2.out, HO2.out⟩
        · -- not there, put: a new row
          have hd' : x.f1.f0 = false := by simpa using hd
          have HI2 : Hid (out ++ [⟨x.f1.f1, x.f0, 0⟩] = rowsL (l0.take (i + 1)) ∧ Inv (out ++ [⟨x.f1.f1, x.f0, 0⟩]) (mput x.f1.f1 (out.length : Nat) m)) := ⟨by rw [hstep, rowsDo, if_neg (by simp [hany]), if_neg hd], HI.out.2.put hq x.f0⟩
          obtain ⟨w1, hrun, hM1, hg1⟩ := put_T hM x.f1.f1 ((out.length : Nat) : Int)
          have hb1 := blk_grown (blk_new wr bx) hg1 (by have := S1.out.2.2; simp; omega)
          have hO1 := Kd.R_grown1 hO rfl hg1 hnB
          have hB1 := below_map hBl (by omega) hg1 (Nat.le_refl _)
          have hs1 : B < w1.heap.size := by have := hg1.size; omega
          have HW : Aside (MapIs w1 B (mput x.f1.f1 (out.length : Nat) m) ∧ Below B w w1 ∧ B < w1.heap.size ∧ Kd.R k51 51 w1 B (fun _ => True) u3 out ∧ some B ≠ u3.ownBlock ∧ out.length < 2147483648) := ⟨hM1, hB1, hs1, hO1, hnB, by omega⟩
          obtain ⟨A, c, hu⟩ : ∃ A c, u3 = .slice A out.length c := by
            rcases Go.Joins.ownsRow_forms (fl_Ro hO) with ⟨h, hn⟩ | ⟨g, cap, h⟩
            · exact ⟨none, 0, by rw [h, hn]⟩
            · exact ⟨_, _, h⟩
          subst hbxe
          clear hM hBl hBs hO HI S1 HO hx hstep hq hany hnB hM1 hg1 hO1 hB1 hs1
          obtain ⟨x0, x1, t0, t1, t2⟩ := x
          dsimp only at hd' h0 h1 h2 h3 h4 hlook HW HI2 hrun hb1
          subst hd'
          subst hu
          simp only [kv] at hlook hrun
          have e0 : w1.cell? ⟨wr.heap.size, 0, none⟩ = some (.int .i64 x0) := (blk_cell hb1 0).trans rfl
          have e2 : w1.cell? ⟨wr.heap.size, 2, none⟩ = some (.string t0) := (blk_cell hb1 2).trans rfl
          have e3 : w1.cell? ⟨wr.heap.size, 3, none⟩ = some (.string t1) := (blk_cell hb1 3).trans rfl
          have e4 : w1.cell? ⟨wr.heap.size, 4, none⟩ = some (.string t2) := (blk_cell hb1 4).trans rfl
          clear hb1
          go_wp2_with (at_builtin; refine app_Ro (w0 := w) B rfl (.tmp 59) (.tmp 66) rfl (.slice A out.length c) out ⟨⟨t0, t1, t2⟩, x0, 0⟩ rfl (by first | (go_simp; done) | (go_simp; rfl)) HW.out.2.2.2.1 HW.out.2.1 (by have := HW.out.2.2.1; omega) HW.out.2.2.2.2.2 ?_; intro v2 w2 ho hb hg2 hat; have HO2 : Aside _ := ho; have HB2 : Aside _ := hb; have HG2 : Aside _ := hg2; clear ho hb hg2 hat)
          go_roundg (l0.length - (i + 1))
          case measure => omega
          case rel => exact ⟨i + 1, _, _, by first | rfl | go_num, by omega, Nat.le_refl _, HI2, ⟨HW.out.1.kept (HG2.out.block _ HW.out.2.2.1 HW.out.2.2.2.2.1), HB2.out, by have := HG2.out.size; have := HW.out.2.2.1; omega⟩, HO2.out⟩
      | some q =>
        obtain ⟨p, v⟩ := q
        rw [hq] at hlook
        obtain ⟨i0, r, rfl, hi0, hr1, hr2, hany, hu⟩ := HI.out.2.yes hq
        by_cases hd : x.f1.f0 = true
        · -- there, taken away: its row is closed
          have hlt0 := lt_of_get hi0
          obtain ⟨g, cap, hform⟩ := Go.Joins.ownsRow_form (fl_Ro hO) (by omega)
          have hown := fl_Ro hO
          rw [hform] at hown
          obtain ⟨hc1, hc2, hown2⟩ := set_until hown hi0 x.f0
          have hgB : g ≠ B := by
            rintro rfl
            rw [hform] at hnB
            exact hnB (by simp [Value.ownBlock])
          have hgx : g ≠ wr.heap.size := by
            have h5 := (fl_Ro HO.out).lt g (by rw [hform]; simp [Value.ownBlock])
            omega
          have hgb : B ≤ g := ((fl_Ro HO.out).lt g (by rw [hform]; simp [Value.ownBlock])).1
          have hM1 := hM.kept (Below.heap_setCell (wr.alloc bx) ⟨g, i0 * 5 + 4, none⟩ (.int .i64 x.f0) B (Ne.symm hgB))
          have hB1 := hBl.setCell (p := ⟨g, i0 * 5 + 4, none⟩) hgb (.int .i64 x.f0)
          have hs1 : B < ((wr.alloc bx).setCell ⟨g, i0 * 5 + 4, none⟩ (.int .i64 x.f0)).heap.size := by simpa using hBs
          have hO1 := R_Ro hown2
          have hstep2 : rowsL (l0.take (i + 1)) = out.set i0 ⟨r.f0, r.f1, x.f0⟩ := by
            rw [hstep, rowsDo, if_pos hany, if_pos hd, close_map hi0 hr1 hr2 hu]
          have hi0z : (i0 : Int) < (out.length : Int) := by omega
          have hi0p : (0 : Int) ≤ (i0 : Int) := by omega
          have hx0 : ((wr.alloc bx).setCell ⟨g, i0 * 5 + 4, none⟩ (.int .i64 x.f0)).heap[wr.heap.size]? = some bx := (Below.heap_setCell _ _ _ _ (Ne.symm hgx)).trans (blk_new wr bx)
          by_cases hz : x.f0 = 0
          · have hsame : out.set i0 ⟨r.f0, r.f1, x.f0⟩ = out := by rw [hz]; exact set_same hi0 hr2
            have HI2 : Hid (out = rowsL (l0.take (i + 1)) ∧ Inv out m) := ⟨by rw [hstep2, hsame], HI.out.2⟩
            rw [hsame] at hO1
            have S2 : Aside (MapIs _ B m ∧ Below B w _ ∧ B < _) := ⟨hM1, hB1, hs1⟩
            have HO2 : Aside (Kd.R k51 51 _ B (fun _ => True) (.slice (some ⟨g, 0, none⟩) out.length cap) out) := hO1
            have e0 : ((wr.alloc bx).setCell ⟨g, i0 * 5 + 4, none⟩ (.int .i64 x.f0)).cell? ⟨wr.heap.size, 0, none⟩ = some (.int .i64 x.f0) := by subst hbxe; exact (blk_cell hx0 0).trans rfl
            have hdz : (x.f0 != 0) = false := by simp [hz]
            subst hbxe
            clear hM hBl hBs hO HI S1 HO hx hstep hq hany hnB hM1 hO1 hB1 hs1 hstep2 hown hown2 hu hsame hx0
            obtain ⟨x0, x1, t0, t1, t2⟩ := x
            dsimp only at hd hz hdz h0 h1 h2 h3 h4 hlook HO2 S2 e0 hc1 hc2
            subst hd
            subst hz
            subst hform
            simp only [kv] at hlook
            go_wp2
            go_roundg (l0.length - (i + 1))
            case measure => omega
            case rel => exact ⟨i + 1, m, out, by first | rfl | go_num, by omega, Nat.le_refl _, HI2, S2.out, HO2.out⟩
          · obtain ⟨w2, hrun2, hM2, hg2⟩ := del_T hM1 x.f1.f1
            have HI2 : Hid (out.set i0 ⟨r.f0, r.f1, x.f0⟩ = rowsL (l0.take (i + 1)) ∧ Inv (out.set i0 ⟨r.f0, r.f1, x.f0⟩) (mdel x.f1.f1 m)) := ⟨hstep2.symm, HI.out.2.close hi0 hr1 hu x.f0 hz⟩
            have hnB2 : some B ≠ (Value.slice (some ⟨g, 0, none⟩) out.length cap).ownBlock := by
              intro e; simp [Value.ownBlock] at e; exact hgB e.symm
            have hO2 := Kd.R_grown1 hO1 rfl hg2 hnB2
            have hB2 := below_map hB1 (by omega) hg2 (Nat.le_refl _)
            have S2 : Aside (MapIs w2 B (mdel x.f1.f1 m) ∧ Below B w w2 ∧ B < w2.heap.size) := ⟨hM2, hB2, by have := hg2.size; omega⟩
            have HO2 : Aside (Kd.R k51 51 w2 B (fun _ => True) (.slice (some ⟨g, 0, none⟩) out.length cap) (out.set i0 ⟨r.f0, r.f1, x.f0⟩)) := hO2
            have e0 : ((wr.alloc bx).setCell ⟨g, i0 * 5 + 4, none⟩ (.int .i64 x.f0)).cell? ⟨wr.heap.size, 0, none⟩ = some (.int .i64 x.f0) := by subst hbxe; exact (blk_cell hx0 0).trans rfl
            have e2 : ((wr.alloc bx).setCell ⟨g, i0 * 5 + 4, none⟩ (.int .i64 x.f0)).cell? ⟨wr.heap.size, 2, none⟩ = some (.string x.f1.f1.f0) := by subst hbxe; exact (blk_cell hx0 2).trans rfl
            have e3 : ((wr.alloc bx).setCell ⟨g, i0 * 5 + 4, none⟩ (.int .i64 x.f0)).cell? ⟨wr.heap.size, 3, none⟩ = some (.string x.f1.f1.f1) := by subst hbxe; exact (blk_cell hx0 3).trans rfl
            have e4 : ((wr.alloc bx).setCell ⟨g, i0 * 5 + 4, none⟩ (.int .i64 x.f0)).cell? ⟨wr.heap.size, 4, none⟩ = some (.string x.f1.f1.f2) := by subst hbxe; exact (blk_cell hx0 4).trans rfl
            have hdz : (x.f0 != 0) = true := by simp [hz]
            subst hbxe
            clear hM hBl hBs hO HI S1 HO hx hstep hq hany hnB hM1 hO1 hB1 hs1 hstep2 hown hown2 hu hx0 hM2 hg2 hnB2 hO2 hB2
            obtain ⟨x0, x1, t0, t1, t2⟩ := x
            dsimp only at hd hz hdz h0 h1 h2 h3 h4 hlook hrun2 HO2 S2 HI2 e0 e2 e3 e4 hc1 hc2
            subst hd
            subst hform
            simp only [kv] at hlook hrun2
            go_wp2
            go_roundg (l0.length - (i + 1))
            case measure => omega
            case rel => exact ⟨i + 1, _, _, by first | rfl | go_num, by omega, Nat.le_refl _, HI2, S2.out, HO2.out⟩
        · -- there, put: passed over
          have hd' : x.f1.f0 = false := by simpa using hd
          have HI2 : Hid (out = rowsL (l0.take (i + 1)) ∧ Inv out m) := ⟨by rw [hstep, rowsDo, if_pos hany, if_neg hd], HI.out.2⟩
          have S2 : Aside (MapIs (wr.alloc bx) B m ∧ Below B w (wr.alloc bx) ∧ B < (wr.alloc bx).heap.size) := ⟨hM, hBl, hBs⟩
          have HO2 : Aside (Kd.R k51 51 (wr.alloc bx) B (fun _ => True) u3 out) := hO
          subst hbxe
          clear hM hBl hBs hO HI S1 HO hx hstep hq hany hnB hu
          obtain ⟨x0, x1, t0, t1, t2⟩ := x
          dsimp only at hd' h0 h1 h2 h3 h4 hlook HO2 S2
          subst hd'
          simp only [kv] at hlook
          go_wp2
          go_roundg (l0.length - (i + 1))
          case measure => omega
          case rel => exact ⟨i + 1, m, out, by first | rfl | go_num, by omega, Nat.le_refl _, HI2, S2.out, HO2.out⟩
    · have hltz : ¬ (i : Int) < (l0.length : Int) := by omega
      have HACC : Hid (out = rowsL l0) := by show _ = _; rw [HI.out.1, List.take_of_length_le (by omega)]
      have hs := sort_Ro B u3 out wr (fl_Ro HO.out) (by omega)
      have HSo : Hid (type_of% hs) := hs
      have HF : Aside (wr.ownsRow B 51 5 u3 out.length (out.flatMap enRo)) := fl_Ro HO.out
      clear hs HI HO
      go_wp2_with (go_at_call 21; refine HSo.out.mono ?_; rintro e w1 ⟨rfl, ho1, hg1⟩; have HO1 : Aside _ := ho1; have HG1 : Aside _ := hg1; clear ho1 hg1)
      go_ret
      refine ⟨_, rfl, ?_, ?_⟩
      · rw [← HACC.out, ← HBe.out]; exact R_Ro HO1.out
      · rw [← HBe.out]; exact below_grown S1.out.2.1 HG1.out (by have := S1.out.2.2; omega) HF.out
end Go.Proofs.Ytgjkidclpehnjaa.Pr

namespace Go.Proofs.Ytgjkidclpehnjaa.Pr
open Go.RowKit Go.Proofs.YtgjkidclpehnjaaW.PrintWords Go.Proofs.YtgjkidclpehnjaaW.PrintLast Go.Proofs.YtgjkidclpehnjaaW.PrintMore
attribute [local go_sem] max2_int min2_int max_two min_two max_three min_three max_four min_four   -- for this text's walks alone
set_option linter.unusedVariables false
set_option linter.unusedSimpArgs false

attribute [local go_sem high] eqA25 eqA51
-- told from outside: function 7 (watch_Rows)

-- told from outside: function 8 (watch_Changes)

-- told from outside: function 18 (watch_At)

-- told from outside: function 19 (watch_Back)

/-! ### porterlaw22_viewer: function 20 -/
def porterlaw22_viewer.f (a0 : ByteArray) : Option (ByteArray × ByteArray × ByteArray) := some ((⟨#[100, 111, 99, 58, 97]⟩ : ByteArray), (⟨#[118, 105, 101, 119, 101, 114]⟩ : ByteArray), a0)
set_option maxHeartbeats 8000000 in
set_option maxRecDepth 100000 in
theorem porterlaw22_viewer.calls (a0 : ByteArray) (r1 : ByteArray) (r2 : ByteArray) (r3 : ByteArray) (w : World) (h : porterlaw22_viewer.f a0 = some (r1, r2, r3)) :
    Calls Try.prog 20 #[.string a0] w fun e w' => e = .returned (.agg #[.string r1, .string r2, .string r3]) ∧ Below w.heap.size w w' := by
  have hu25 := Try.underlying25
  have HB := Aside0.mk (Below.refl w.heap.size w)
  have H : (some ((⟨#[100, 111, 99, 58, 97]⟩ : ByteArray), (⟨#[118, 105, 101, 119, 101, 114]⟩ : ByteArray), a0)) = some (r1, r2, r3) := h
  clear h
  simp only [Option.some.injEq, Prod.mk.injEq] at H
  obtain ⟨rfl, rfl, rfl⟩ := H
  go_enter Try.func20, Try.ntmps20
  go_wp2_with (first | ((with_reducible refine gate_dst (N := 2) rfl ?_); refine box_event ?hg (N := 2) ?hd (cs := #[.string (⟨#[]⟩ : ByteArray), .string (⟨#[]⟩ : ByteArray), .string (⟨#[]⟩ : ByteArray)]) (t := 25) ?hr ?_; (case hd => rfl); (case hg => rfl); (case hr => first | (go_simp; done) | (go_simp; rfl)); intro gb101 hg w2 hbox hb; have n0_ := Aside0.mk (below_step (by repeat (first | (with_reducible first | exact HB.out | apply below_alloc | apply pw_below_drewN | apply below_drew1) | exact HB.out)) hb); have n1_ := Aside0.mk (hbox); have n2_ := Aside0.mk ((by rw [hg]; exact (below_size (by repeat (first | (with_reducible first | exact HB.out | apply below_alloc | apply pw_below_drewN | apply below_drew1) | exact HB.out))) : w.heap.size ≤ gb101)); have n3_ := Aside0.mk ((by rw [hg]; exact (below_size (by repeat (first | (with_reducible first | exact HB.out | apply below_alloc | apply pw_below_drewN | apply below_drew1) | exact HB.out))) : w.heap.size ≤ gb101)); clear HB; have HB := n0_; have BK101 := n1_; have GW101 := n2_; have GE101 := n3_; clear n0_ n1_ n2_ n3_; clear hb hbox hg; have hcz3_0 : w2.cell? ⟨gb101, 0, none⟩ = some (.string (⟨#[]⟩ : ByteArray)) := (blk_cell BK101.out 0).trans rfl; have hcz3_1 : w2.cell? ⟨gb101, 1, none⟩ = some (.string (⟨#[]⟩ : ByteArray)) := (blk_cell BK101.out 1).trans rfl; have hcz3_2 : w2.cell? ⟨gb101, 2, none⟩ = some (.string (⟨#[]⟩ : ByteArray)) := (blk_cell BK101.out 2).trans rfl; have hfz3_0 := blk_frozen BK101.out 0; have hfz3_1 := blk_frozen BK101.out 1; have hfz3_2 := blk_frozen BK101.out 2))
  refine bodyPost_ret (results_cell_row rfl _ _ gb101 25 #[.string (⟨#[100, 111, 99, 58, 97]⟩ : ByteArray), .string (⟨#[118, 105, 101, 119, 101, 114]⟩ : ByteArray), .string a0] (0, 0) _ rfl (by (with_reducible repeat (first | refine blk_drewN ?_ _ | refine blk_drew ?_ | refine blk_alloc ?_ _)); refine blk_put (cs := #[.string (⟨#[100, 111, 99, 58, 97]⟩ : ByteArray), .string (⟨#[118, 105, 101, 119, 101, 114]⟩ : ByteArray), .string (⟨#[]⟩ : ByteArray)]) ?_ 2 _ rfl; (with_reducible repeat (first | refine blk_drewN ?_ _ | refine blk_drew ?_ | refine blk_alloc ?_ _)); refine blk_put (cs := #[.string (⟨#[100, 111, 99, 58, 97]⟩ : ByteArray), .string (⟨#[]⟩ : ByteArray), .string (⟨#[]⟩ : ByteArray)]) ?_ 1 _ rfl; (with_reducible repeat (first | refine blk_drewN ?_ _ | refine blk_drew ?_ | refine blk_alloc ?_ _)); refine blk_put (cs := #[.string (⟨#[]⟩ : ByteArray), .string (⟨#[]⟩ : ByteArray), .string (⟨#[]⟩ : ByteArray)]) ?_ 0 _ rfl; (with_reducible repeat (first | refine blk_drewN ?_ _ | refine blk_drew ?_ | refine blk_alloc ?_ _)); exact BK101.out) Try.underlying25 rfl (by kernel_rfl)) rfl ?_
  exact ⟨by first | rfl | (simp [errW_none, errW_some] <;> rfl) | (simp [*, errW_none, errW_some] <;> rfl), by repeat (first | (with_reducible first | exact HB.out | apply below_alloc | apply pw_below_drewN | apply below_drew1 | refine below_set ?_ GE101.out) | exact HB.out)⟩

/-! ### porterlaw22_awake: function 6 -/
def porterlaw22_awake.f  : Option (Bool) := (porterlaw22_viewer.f (⟨#[117, 115, 101, 114, 58, 97, 110, 110]⟩ : ByteArray)).bind fun bt102 => ((some (([(⟨(⟨bt102.1, bt102.2.1, bt102.2.2⟩ : S25), 3, 5⟩ : S51)] : List (S51)) : List (S51))).bind fun y105 => ((watch_Changes.f y105 0 9).bind fun t108 => (if (t108.length : Int) = 2 then (if 0 < (t108.length : Int) then (if ((rd_T29 t108 0).f0) = 3 then (if ((rd_T29 t108 0).f1.f0 = true) then (some false) else (if 1 < (t108.length : Int) then (if ((rd_T29 t108 1).f0) = 5 then (if (rd_T29 t108 1).f1.f0 = true then ((watch_At.f y105 4).bind fun t115 => (if (t115.length : Int) = 1 then ((watch_Rows.f t108).bind fun t118 => (if (t118.length : Int) = 1 then ((watch_Back.f t108).bind fun t121 => (some ((t121.length : Int) == 2))) else (some false))) else (some false))) else (some false)) else (some false)) else (none))) else (some false)) else (none)) else (some false))))
set_option maxHeartbeats 8000000 in
set_option maxRecDepth 100000 in
theorem porterlaw22_awake.calls  (r : Bool) (w : World) (h : porterlaw22_awake.f  = some r) :
    Calls Try.prog 6 #[] w fun e w' => e = .returned (.bool r) ∧ Below w.heap.size w w' := by
  have hu51 := Try.underlying51
  have HB := Aside0.mk (Below.refl w.heap.size w)
  have H : ((porterlaw22_viewer.f (⟨#[117, 115, 101, 114, 58, 97, 110, 110]⟩ : ByteArray)).bind fun bt102 => ((some (([(⟨(⟨bt102.1, bt102.2.1, bt102.2.2⟩ : S25), 3, 5⟩ : S51)] : List (S51)) : List (S51))).bind fun y105 => ((watch_Changes.f y105 0 9).bind fun t108 => (if (t108.length : Int) = 2 then (if 0 < (t108.length : Int) then (if ((rd_T29 t108 0).f0) = 3 then (if ((rd_T29 t108 0).f1.f0 = true) then (some false) else (if 1 < (t108.length : Int) then (if ((rd_T29 t108 1).f0) = 5 then (if (rd_T29 t108 1).f1.f0 = true then ((watch_At.f y105 4).bind fun t115 => (if (t115.length : Int) = 1 then ((watch_Rows.f t108).bind fun t118 => (if (t118.length : Int) = 1 then ((watch_Back.f t108).bind fun t121 => (some ((t121.length : Int) == 2))) else (some false))) else (some false))) else (some false)) else (some false)) else (none))) else (some false)) else (none)) else (some false))))) = some r := h
  clear h
  replace H := Option.bind_eq_some_iff.mp H
  obtain ⟨⟨t102, t103, t104⟩, A10, H⟩ := H
  replace H : ((some (([(⟨(⟨t102, t103, t104⟩ : S25), 3, 5⟩ : S51)] : List (S51)) : List (S51))).bind fun y105 => ((watch_Changes.f y105 0 9).bind fun t108 => (if (t108.length : Int) = 2 then (if 0 < (t108.length : Int) then (if ((rd_T29 t108 0).f0) = 3 then (if ((rd_T29 t108 0).f1.f0 = true) then (some false) else (if 1 < (t108.length : Int) then (if ((rd_T29 t108 1).f0) = 5 then (if (rd_T29 t108 1).f1.f0 = true then ((watch_At.f y105 4).bind fun t115 => (if (t115.length : Int) = 1 then ((watch_Rows.f t108).bind fun t118 => (if (t118.length : Int) = 1 then ((watch_Back.f t108).bind fun t121 => (some ((t121.length : Int) == 2))) else (some false))) else (some false))) else (some false)) else (some false)) else (none))) else (some false)) else (none)) else (some false)))) = some r := H
  have A1 := Aside0.mk A10
  clear A10
  obtain ⟨y105, hy105⟩ : ∃ y_ : List (S51), y_ = (([(⟨(⟨t102, t103, t104⟩ : S25), 3, 5⟩ : S51)] : List (S51))) := ⟨_, rfl⟩
  replace H : ((watch_Changes.f y105 0 9).bind fun t108 => (if (t108.length : Int) = 2 then (if 0 < (t108.length : Int) then (if ((rd_T29 t108 0).f0) = 3 then (if ((rd_T29 t108 0).f1.f0 = true) then (some false) else (if 1 < (t108.length : Int) then (if ((rd_T29 t108 1).f0) = 5 then (if (rd_T29 t108 1).f1.f0 = true then ((watch_At.f y105 4).bind fun t115 => (if (t115.length : Int) = 1 then ((watch_Rows.f t108).bind fun t118 => (if (t118.length : Int) = 1 then ((watch_Back.f t108).bind fun t121 => (some ((t121.length : Int) == 2))) else (some false))) else (some false))) else (some false)) else (some false)) else (none))) else (some false)) else (none)) else (some false))) = some r := by first | (rw [hy105]; with_reducible exact H) | (have H2_ := (Option.bind_some _ _).symm.trans H; rw [hy105]; with_reducible exact H2_) | (have H2_ := (Option.bind_some _ _).symm.trans H; with_reducible exact H2_) | with_reducible exact H | (rw [hy105]; exact H) | exact H
  have Ny105 := Aside0.mk hy105
  clear hy105
  replace H := Option.bind_eq_some_iff.mp H
  obtain ⟨t108, A20, H⟩ := H
  replace H : (if (t108.length : Int) = 2 then (if 0 < (t108.length : Int) then (if ((rd_T29 t108 0).f0) = 3 then (if ((rd_T29 t108 0).f1.f0 = true) then (some false) else (if 1 < (t108.length : Int) then (if ((rd_T29 t108 1).f0) = 5 then (if (rd_T29 t108 1).f1.f0 = true then ((watch_At.f y105 4).bind fun t115 => (if (t115.length : Int) = 1 then ((watch_Rows.f t108).bind fun t118 => (if (t118.length : Int) = 1 then ((watch_Back.f t108).bind fun t121 => (some ((t121.length : Int) == 2))) else (some false))) else (some false))) else (some false)) else (some false)) else (none))) else (some false)) else (none)) else (some false)) = some r := H
  have A2 := Aside0.mk A20
  clear A20
  by_cases c3 : (t108.length : Int) = 2
  · rw [if_pos c3] at H
    have c3b0 : ((t108.length : Int) == 2) = true := beq_iff_eq.mpr c3
    have c3b1 : ((t108.length : Int) != 2) = false := bne_eq_false_iff_eq.mpr c3
    clear c3
    by_cases c4 : 0 < (t108.length : Int)
    · rw [if_pos c4] at H
      have c4b0 : decide (0 < (t108.length : Int)) = true := decide_eq_true c4
      have c4b1 : decide (0 < t108.length) = true := decide_eq_true (by omega)
      clear c4
      by_cases c5 : ((rd_T29 t108 0).f0) = 3
      · rw [if_pos c5] at H
        have c5b0 : (((rd_T29 t108 0).f0) == 3) = true := beq_iff_eq.mpr c5
        have c5b1 : (((rd_T29 t108 0).f0) != 3) = false := bne_eq_false_iff_eq.mpr c5
        clear c5
        obtain ⟨bq6, hbq6⟩ : ∃ b_ : Bool, b_ = ((rd_T29 t108 0).f1.f0) := ⟨_, rfl⟩
        replace H : (if (bq6 = true) then (some false) else (if 1 < (t108.length : Int) then (if ((rd_T29 t108 1).f0) = 5 then (if (rd_T29 t108 1).f1.f0 = true then ((watch_At.f y105 4).bind fun t115 => (if (t115.length : Int) = 1 then ((watch_Rows.f t108).bind fun t118 => (if (t118.length : Int) = 1 then ((watch_Back.f t108).bind fun t121 => (some ((t121.length : Int) == 2))) else (some false))) else (some false))) else (some false)) else (some false)) else (none))) = some r := by rw [← hbq6] at H; exact H
        have Nbq6 := Aside0.mk hbq6
        clear hbq6
        by_cases c7 : (bq6 = true)
        · subst c7
          have H1 : (some false) = some r := by rw [if_pos rfl] at H; exact H
          clear H
          have H := H1
          clear H1
          obtain rfl := Option.some.inj H
          go_enter Try.func6, Try.ntmps6
          go_wp2_with (first | ((with_reducible refine gate_callee (f := 20) rfl ?_); refine goesL_ (some 3) rfl rfl Try.func20 (by kernel_rfl) rfl #[.string (⟨#[117, 115, 101, 114, 58, 97, 110, 110]⟩ : ByteArray)] rfl (by (try simp only [List.map_toArray, List.map_cons, List.map_nil]); first | done | rfl | (simp only [List.length_drop, List.length_take]; rfl)) ?_; (with_reducible refine (porterlaw22_viewer.calls (⟨#[117, 115, 101, 114, 58, 97, 110, 110]⟩ : ByteArray) t102 t103 t104 _ A1.out).mono ?_); rintro e w8 ⟨rfl, hb⟩; refine ⟨_, rfl, ?_⟩; have n0_ := Aside0.mk (below_step (by repeat (first | (with_reducible first | exact HB.out | apply below_alloc | apply pw_below_drewN | apply below_drew1) | exact HB.out)) hb); clear HB; have HB := n0_; clear n0_; (try clear hb); (try clear hb2); (try clear hk); (try clear hi)) | ((with_reducible refine gate_dst (N := 5) rfl ?_); (try (refine gate_guard (by rfl) ?_; dsimp only)); refine Kd.R_lit k51 _ 51 ?hg (N := 5) ?hd (xs := ([(⟨(⟨t102, t103, t104⟩ : S25), 3, 5⟩ : S51)] : List (S51))) (inner := [.string t102, .string t103, .string t104, .int .i64 3, .int .i64 5]) (ok := fun _ => True) (okp := fun _ => True) ?hr ?hp (fun _ hk => hk) trivial (Below.refl _ _) (Nat.le_refl _) (by simp) ?_; (case hd => rfl); (case hg => rfl); (case hr => first | (go_simp; done) | (go_simp; rfl)); (case hp => exact (Reps.c5 (show Kd.M k51 _ _ _ (⟨(⟨t102, t103, t104⟩ : S25), 3, 5⟩ : S51) [.string t102, .string t103, .string t104, .int .i64 3, .int .i64 5] from (k51_mkM _ _ _ (⟨(⟨t102, t103, t104⟩ : S25), 3, 5⟩ : S51) )) (Reps.none _ _))); intro v106 w9 ho10 hb hg_ hnew_; clear hg_ hnew_; (first | rw [← Ny105.out] at ho10 | (simp only [Int.reduceToNat] at ho10; rw [← Ny105.out] at ho10)); have n0_ := Aside0.mk (Kd.R_lower ho10 (below_size (by repeat (first | (with_reducible first | exact HB.out | apply below_alloc | apply pw_below_drewN | apply below_drew1) | exact HB.out)))); have n1_ := Aside0.mk (below_step (by repeat (first | (with_reducible first | exact HB.out | apply below_alloc | apply pw_below_drewN | apply below_drew1) | exact HB.out)) hb); clear HB; have HO107 := n0_; have HB := n1_; clear n0_ n1_; clear hb ho10; obtain ⟨Ao11, co11, eo11⟩ := Kd.R_slice HO107.out; subst eo11) | ((with_reducible refine gate_callee (f := 8) rfl ?_); refine goesL_ (some 7) rfl rfl Try.func8 (by kernel_rfl) rfl #[.slice Ao11 y105.length co11, .int .i64 0, .int .i64 9] rfl (by (try simp only [List.map_toArray, List.map_cons, List.map_nil]); first | done | rfl | (simp only [List.length_drop, List.length_take]; rfl)) ?_; (with_reducible refine (watch_Changes.calls _ _ y105 0 9 t108 _ ?side1 ?side2 A2.out).mono ?_); (case side1 => repeat (first | exact (Kd.R_reads' HO107.out).2.2 | (with_reducible refine Kd.C_alloc ?_ _) | (with_reducible refine Kd.C_drewN ?_ _) | (with_reducible refine Kd.C_drew ?_))); (case side2 => exact (Kd.R_reads' HO107.out).2.1); rintro e w12 ⟨v109, rfl, ho0, hb⟩; refine ⟨_, rfl, ?_⟩; have n0_ := Aside0.mk (Kd.R_below (by (with_reducible repeat (first | apply Kd.R_alloc | apply Kd.R_drewN | apply Kd.R_drew)); exact HO107.out) hb); have n1_ := Aside0.mk (Kd.R_lower ho0 (below_size (by repeat (first | (with_reducible first | exact HB.out | apply below_alloc | apply pw_below_drewN | apply below_drew1) | exact HB.out)))); have n2_ := Aside0.mk (below_step (by repeat (first | (with_reducible first | exact HB.out | apply below_alloc | apply pw_below_drewN | apply below_drew1) | exact HB.out)) hb); clear HO107; clear HB; have HO107 := n0_; have HO110 := n1_; have HB := n2_; clear n0_ n1_ n2_; (try clear hb); (try clear hb2); (try clear hk); (try clear hi); (try clear ho0); obtain ⟨Ao13, co13, eo13⟩ := Kd.R_slice HO110.out; subst eo13; have p111 : 0 ≤ (0 : Int) := (by omega); have q111 : 0 < (t108.length : Int) := of_decide_eq_true (by first | (with_reducible assumption) | assumption); obtain ⟨ad111, e111, hx111_0, hx111_1, hx111_2, hx111_3, hx111_4⟩ := at_T29 (Kd.R_reads' HO110.out).2.2 0 p111 q111; (try rw [← Nbq6.out] at hx111_1); cases e111; have qi111 : (0 < t108.length) = True := eq_true (by omega); (try rw [show ((0 : Int)).toNat = 0 from rfl] at hx111_0); (try rw [show 0 * 5 = 0 from rfl] at hx111_0); (try rw [Addr.add_zero'] at hx111_0); (try rw [show ((0 : Int)).toNat = 0 from rfl] at hx111_1); (try rw [show 0 * 5 = 0 from rfl] at hx111_1); (try rw [Addr.add_zero'] at hx111_1); (try rw [show ((0 : Int)).toNat = 0 from rfl] at hx111_2); (try rw [show 0 * 5 = 0 from rfl] at hx111_2); (try rw [Addr.add_zero'] at hx111_2); (try rw [show ((0 : Int)).toNat = 0 from rfl] at hx111_3); (try rw [show 0 * 5 = 0 from rfl] at hx111_3); (try rw [Addr.add_zero'] at hx111_3); (try rw [show ((0 : Int)).toNat = 0 from rfl] at hx111_4); (try rw [show 0 * 5 = 0 from rfl] at hx111_4); (try rw [Addr.add_zero'] at hx111_4); replace p111 := eq_true p111; replace q111 := eq_true q111; have p112 : 0 ≤ (0 : Int) := (by omega); have q112 : 0 < (t108.length : Int) := of_decide_eq_true (by first | (with_reducible assumption) | assumption); obtain ⟨ad112, e112, hx112_0, hx112_1, hx112_2, hx112_3, hx112_4⟩ := at_T29 (Kd.R_reads' HO110.out).2.2 0 p112 q112; (try rw [← Nbq6.out] at hx112_1); obtain rfl : ad111 = ad112 := (by injection e112); have qi112 : (0 < t108.length) = True := eq_true (by omega); (try rw [show ((0 : Int)).toNat = 0 from rfl] at hx112_0); (try rw [show 0 * 5 = 0 from rfl] at hx112_0); (try rw [Addr.add_zero'] at hx112_0); (try rw [show ((0 : Int)).toNat = 0 from rfl] at hx112_1); (try rw [show 0 * 5 = 0 from rfl] at hx112_1); (try rw [Addr.add_zero'] at hx112_1); (try rw [show ((0 : Int)).toNat = 0 from rfl] at hx112_2); (try rw [show 0 * 5 = 0 from rfl] at hx112_2); (try rw [Addr.add_zero'] at hx112_2); (try rw [show ((0 : Int)).toNat = 0 from rfl] at hx112_3); (try rw [show 0 * 5 = 0 from rfl] at hx112_3); (try rw [Addr.add_zero'] at hx112_3); (try rw [show ((0 : Int)).toNat = 0 from rfl] at hx112_4); (try rw [show 0 * 5 = 0 from rfl] at hx112_4); (try rw [Addr.add_zero'] at hx112_4); replace p112 := eq_true p112; replace q112 := eq_true q112))
          go_ret
          exact ⟨by first | rfl | (simp [errW_none, errW_some] <;> rfl) | (simp [*, errW_none, errW_some] <;> rfl), by repeat (first | (with_reducible first | exact HB.out | apply below_alloc | apply pw_below_drewN | apply below_drew1) | exact HB.out)⟩
        · replace c7 := Bool.eq_false_iff.mpr c7
          subst c7
          have H1 : (if 1 < (t108.length : Int) then (if ((rd_T29 t108 1).f0) = 5 then (if (rd_T29 t108 1).f1.f0 = true then ((watch_At.f y105 4).bind fun t115 => (if (t115.length : Int) = 1 then ((watch_Rows.f t108).bind fun t118 => (if (t118.length : Int) = 1 then ((watch_Back.f t108).bind fun t121 => (some ((t121.length : Int) == 2))) else (some false))) else (some false))) else (some false)) else (some false)) else (none)) = some r := by rw [if_neg (show ¬ (false = true) by decide)] at H; exact H
          clear H
          have H := H1
          clear H1
          by_cases c14 : 1 < (t108.length : Int)
          · rw [if_pos c14] at H
            have c14b0 : decide (1 < (t108.length : Int)) = true := decide_eq_true c14
            have c14b1 : decide (1 < t108.length) = true := decide_eq_true (by omega)
            clear c14
            by_cases c15 : ((rd_T29 t108 1).f0) = 5
            · rw [if_pos c15] at H
              have c15b0 : (((rd_T29 t108 1).f0) == 5) = true := beq_iff_eq.mpr c15
              have c15b1 : (((rd_T29 t108 1).f0) != 5) = false := bne_eq_false_iff_eq.mpr c15
              clear c15
              obtain ⟨bq16, hbq16⟩ : ∃ b_ : Bool, b_ = ((rd_T29 t108 1).f1.f0) := ⟨_, rfl⟩
              replace H : (if bq16 = true then ((watch_At.f y105 4).bind fun t115 => (if (t115.length : Int) = 1 then ((watch_Rows.f t108).bind fun t118 => (if (t118.length : Int) = 1 then ((watch_Back.f t108).bind fun t121 => (some ((t121.length : Int) == 2))) else (some false))) else (some false))) else (some false)) = some r := by rw [← hbq16] at H; exact H
              have Nbq16 := Aside0.mk hbq16
              clear hbq16
              by_cases c17 : bq16 = true
              · subst c17
                have H1 : ((watch_At.f y105 4).bind fun t115 => (if (t115.length : Int) = 1 then ((watch_Rows.f t108).bind fun t118 => (if (t118.length : Int) = 1 then ((watch_Back.f t108).bind fun t121 => (some ((t121.length : Int) == 2))) else (some false))) else (some false))) = some r := by rw [if_pos rfl] at H; exact H
                clear H
                have H := H1
                clear H1
                replace H := Option.bind_eq_some_iff.mp H
                obtain ⟨t115, A180, H⟩ := H
                replace H : (if (t115.length : Int) = 1 then ((watch_Rows.f t108).bind fun t118 => (if (t118.length : Int) = 1 then ((watch_Back.f t108).bind fun t121 => (some ((t121.length : Int) == 2))) else (some false))) else (some false)) = some r := H
                have A18 := Aside0.mk A180
                clear A180
                by_cases c19 : (t115.length : Int) = 1
                · rw [if_pos c19] at H
                  have c19b0 : ((t115.length : Int) == 1) = true := beq_iff_eq.mpr c19
                  have c19b1 : ((t115.length : Int) != 1) = false := bne_eq_false_iff_eq.mpr c19
                  clear c19
                  replace H := Option.bind_eq_some_iff.mp H
                  obtain ⟨t118, A200, H⟩ := H
                  replace H : (if (t118.length : Int) = 1 then ((watch_Back.f t108).bind fun t121 => (some ((t121.length : Int) == 2))) else (some false)) = some r := H
                  have A20 := Aside0.mk A200
                  clear A200
                  by_cases c21 : (t118.length : Int) = 1
                  · rw [if_pos c21] at H
                    have c21b0 : ((t118.length : Int) == 1) = true := beq_iff_eq.mpr c21
                    have c21b1 : ((t118.length : Int) != 1) = false := bne_eq_false_iff_eq.mpr c21
                    clear c21
                    replace H := Option.bind_eq_some_iff.mp H
                    obtain ⟨t121, A220, H⟩ := H
                    replace H : (some ((t121.length : Int) == 2)) = some r := H
                    have A22 := Aside0.mk A220
                    clear A220
                    obtain rfl := Option.some.inj H
                    go_enter Try.func6, Try.ntmps6
                    go_wp2_with (first | ((with_reducible refine gate_callee (f := 20) rfl ?_); refine goesL_ (some 3) rfl rfl Try.func20 (by kernel_rfl) rfl #[.string (⟨#[117, 115, 101, 114, 58, 97, 110, 110]⟩ : ByteArray)] rfl (by (try simp only [List.map_toArray, List.map_cons, List.map_nil]); first | done | rfl | (simp only [List.length_drop, List.length_take]; rfl)) ?_; (with_reducible refine (porterlaw22_viewer.calls (⟨#[117, 115, 101, 114, 58, 97, 110, 110]⟩ : ByteArray) t102 t103 t104 _ A1.out).mono ?_); rintro e w23 ⟨rfl, hb⟩; refine ⟨_, rfl, ?_⟩; have n0_ := Aside0.mk (below_step (by repeat (first | (with_reducible first | exact HB.out | apply below_alloc | apply pw_below_drewN | apply below_drew1) | exact HB.out)) hb); clear HB; have HB := n0_; clear n0_; (try clear hb); (try clear hb2); (try clear hk); (try clear hi)) | ((with_reducible refine gate_dst (N := 5) rfl ?_); (try (refine gate_guard (by rfl) ?_; dsimp only)); refine Kd.R_lit k51 _ 51 ?hg (N := 5) ?hd (xs := ([(⟨(⟨t102, t103, t104⟩ : S25), 3, 5⟩ : S51)] : List (S51))) (inner := [.string t102, .string t103, .string t104, .int .i64 3, .int .i64 5]) (ok := fun _ => True) (okp := fun _ => True) ?hr ?hp (fun _ hk => hk) trivial (Below.refl _ _) (Nat.le_refl _) (by simp) ?_; (case hd => rfl); (case hg => rfl); (case hr => first | (go_simp; done) | (go_simp; rfl)); (case hp => exact (Reps.c5 (show Kd.M k51 _ _ _ (⟨(⟨t102, t103, t104⟩ : S25), 3, 5⟩ : S51) [.string t102, .string t103, .string t104, .int .i64 3, .int .i64 5] from (k51_mkM _ _ _ (⟨(⟨t102, t103, t104⟩ : S25), 3, 5⟩ : S51) )) (Reps.none _ _))); intro v106 w24 ho25 hb hg_ hnew_; clear hg_ hnew_; (first | rw [← Ny105.out] at ho25 | (simp only [Int.reduceToNat] at ho25; rw [← Ny105.out] at ho25)); have n0_ := Aside0.mk (Kd.R_lower ho25 (below_size (by repeat (first | (with_reducible first | exact HB.out | apply below_alloc | apply pw_below_drewN | apply below_drew1) | exact HB.out)))); have n1_ := Aside0.mk (below_step (by repeat (first | (with_reducible first | exact HB.out | apply below_alloc | apply pw_below_drewN | apply below_drew1) | exact HB.out)) hb); clear HB; have HO107 := n0_; have HB := n1_; clear n0_ n1_; clear hb ho25; obtain ⟨Ao26, co26, eo26⟩ := Kd.R_slice HO107.out; subst eo26) | ((with_reducible refine gate_callee (f := 8) rfl ?_); refine goesL_ (some 7) rfl rfl Try.func8 (by kernel_rfl) rfl #[.slice Ao26 y105.length co26, .int .i64 0, .int .i64 9] rfl (by (try simp only [List.map_toArray, List.map_cons, List.map_nil]); first | done | rfl | (simp only [List.length_drop, List.length_take]; rfl)) ?_; (with_reducible refine (watch_Changes.calls _ _ y105 0 9 t108 _ ?side1 ?side2 A2.out).mono ?_); (case side1 => repeat (first | exact (Kd.R_reads' HO107.out).2.2 | (with_reducible refine Kd.C_alloc ?_ _) | (with_reducible refine Kd.C_drewN ?_ _) | (with_reducible refine Kd.C_drew ?_))); (case side2 => exact (Kd.R_reads' HO107.out).2.1); rintro e w27 ⟨v109, rfl, ho0, hb⟩; refine ⟨_, rfl, ?_⟩; have n0_ := Aside0.mk (Kd.R_below (by (with_reducible repeat (first | apply Kd.R_alloc | apply Kd.R_drewN | apply Kd.R_drew)); exact HO107.out) hb); have n1_ := Aside0.mk (Kd.R_lower ho0 (below_size (by repeat (first | (with_reducible first | exact HB.out | apply below_alloc | apply pw_below_drewN | apply below_drew1) | exact HB.out)))); have n2_ := Aside0.mk (below_step (by repeat (first | (with_reducible first | exact HB.out | apply below_alloc | apply pw_below_drewN | apply below_drew1) | exact HB.out)) hb); clear HO107; clear HB; have HO107 := n0_; have HO110 := n1_; have HB := n2_; clear n0_ n1_ n2_; (try clear hb); (try clear hb2); (try clear hk); (try clear hi); (try clear ho0); obtain ⟨Ao28, co28, eo28⟩ := Kd.R_slice HO110.out; subst eo28; have p111 : 0 ≤ (0 : Int) := (by omega); have q111 : 0 < (t108.length : Int) := of_decide_eq_true (by first | (with_reducible assumption) | assumption); obtain ⟨ad111, e111, hx111_0, hx111_1, hx111_2, hx111_3, hx111_4⟩ := at_T29 (Kd.R_reads' HO110.out).2.2 0 p111 q111; (try rw [← Nbq6.out] at hx111_1); (try rw [← Nbq16.out] at hx111_1); cases e111; have qi111 : (0 < t108.length) = True := eq_true (by omega); (try rw [show ((0 : Int)).toNat = 0 from rfl] at hx111_0); (try rw [show 0 * 5 = 0 from rfl] at hx111_0); (try rw [Addr.add_zero'] at hx111_0); (try rw [show ((0 : Int)).toNat = 0 from rfl] at hx111_1); (try rw [show 0 * 5 = 0 from rfl] at hx111_1); (try rw [Addr.add_zero'] at hx111_1); (try rw [show ((0 : Int)).toNat = 0 from rfl] at hx111_2); (try rw [show 0 * 5 = 0 from rfl] at hx111_2); (try rw [Addr.add_zero'] at hx111_2); (try rw [show ((0 : Int)).toNat = 0 from rfl] at hx111_3); (try rw [show 0 * 5 = 0 from rfl] at hx111_3); (try rw [Addr.add_zero'] at hx111_3); (try rw [show ((0 : Int)).toNat = 0 from rfl] at hx111_4); (try rw [show 0 * 5 = 0 from rfl] at hx111_4); (try rw [Addr.add_zero'] at hx111_4); replace p111 := eq_true p111; replace q111 := eq_true q111; have p112 : 0 ≤ (0 : Int) := (by omega); have q112 : 0 < (t108.length : Int) := of_decide_eq_true (by first | (with_reducible assumption) | assumption); obtain ⟨ad112, e112, hx112_0, hx112_1, hx112_2, hx112_3, hx112_4⟩ := at_T29 (Kd.R_reads' HO110.out).2.2 0 p112 q112; (try rw [← Nbq6.out] at hx112_1); (try rw [← Nbq16.out] at hx112_1); obtain rfl : ad111 = ad112 := (by injection e112); have qi112 : (0 < t108.length) = True := eq_true (by omega); (try rw [show ((0 : Int)).toNat = 0 from rfl] at hx112_0); (try rw [show 0 * 5 = 0 from rfl] at hx112_0); (try rw [Addr.add_zero'] at hx112_0); (try rw [show ((0 : Int)).toNat = 0 from rfl] at hx112_1); (try rw [show 0 * 5 = 0 from rfl] at hx112_1); (try rw [Addr.add_zero'] at hx112_1); (try rw [show ((0 : Int)).toNat = 0 from rfl] at hx112_2); (try rw [show 0 * 5 = 0 from rfl] at hx112_2); (try rw [Addr.add_zero'] at hx112_2); (try rw [show ((0 : Int)).toNat = 0 from rfl] at hx112_3); (try rw [show 0 * 5 = 0 from rfl] at hx112_3); (try rw [Addr.add_zero'] at hx112_3); (try rw [show ((0 : Int)).toNat = 0 from rfl] at hx112_4); (try rw [show 0 * 5 = 0 from rfl] at hx112_4); (try rw [Addr.add_zero'] at hx112_4); replace p112 := eq_true p112; replace q112 := eq_true q112; have p113 : 0 ≤ (1 : Int) := (by omega); have q113 : 1 < (t108.length : Int) := of_decide_eq_true (by first | (with_reducible assumption) | assumption); obtain ⟨ad113, e113, hx113_0, hx113_1, hx113_2, hx113_3, hx113_4⟩ := at_T29 (Kd.R_reads' HO110.out).2.2 1 p113 q113; (try rw [← Nbq6.out] at hx113_1); (try rw [← Nbq16.out] at hx113_1); obtain rfl : ad111 = ad113 := (by injection e113); (try simp only [show (1 : Int).toNat = 1 from rfl, Nat.reduceMul, Nat.reduceEqDiff, Go.Addr.add, ↓reduceIte] at hx113_0); (try simp only [show (1 : Int).toNat = 1 from rfl, Nat.reduceMul, Nat.reduceEqDiff, Go.Addr.add, ↓reduceIte] at hx113_1); (try simp only [show (1 : Int).toNat = 1 from rfl, Nat.reduceMul, Nat.reduceEqDiff, Go.Addr.add, ↓reduceIte] at hx113_2); (try simp only [show (1 : Int).toNat = 1 from rfl, Nat.reduceMul, Nat.reduceEqDiff, Go.Addr.add, ↓reduceIte] at hx113_3); (try simp only [show (1 : Int).toNat = 1 from rfl, Nat.reduceMul, Nat.reduceEqDiff, Go.Addr.add, ↓reduceIte] at hx113_4); have qi113 : (1 < t108.length) = True := eq_true (by omega); (try rw [show ((1 : Int)).toNat = 1 from rfl] at hx113_0); (try rw [show 1 * 5 = 5 from rfl] at hx113_0); (try rw [show ((1 : Int)).toNat = 1 from rfl] at hx113_1); (try rw [show 1 * 5 = 5 from rfl] at hx113_1); (try rw [show ((1 : Int)).toNat = 1 from rfl] at hx113_2); (try rw [show 1 * 5 = 5 from rfl] at hx113_2); (try rw [show ((1 : Int)).toNat = 1 from rfl] at hx113_3); (try rw [show 1 * 5 = 5 from rfl] at hx113_3); (try rw [show ((1 : Int)).toNat = 1 from rfl] at hx113_4); (try rw [show 1 * 5 = 5 from rfl] at hx113_4); replace p113 := eq_true p113; replace q113 := eq_true q113; have p114 : 0 ≤ (1 : Int) := (by omega); have q114 : 1 < (t108.length : Int) := of_decide_eq_true (by first | (with_reducible assumption) | assumption); obtain ⟨ad114, e114, hx114_0, hx114_1, hx114_2, hx114_3, hx114_4⟩ := at_T29 (Kd.R_reads' HO110.out).2.2 1 p114 q114; (try rw [← Nbq6.out] at hx114_1); (try rw [← Nbq16.out] at hx114_1); obtain rfl : ad111 = ad114 := (by injection e114); (try simp only [show (1 : Int).toNat = 1 from rfl, Nat.reduceMul, Nat.reduceEqDiff, Go.Addr.add, ↓reduceIte] at hx114_0); (try simp only [show (1 : Int).toNat = 1 from rfl, Nat.reduceMul, Nat.reduceEqDiff, Go.Addr.add, ↓reduceIte] at hx114_1); (try simp only [show (1 : Int).toNat = 1 from rfl, Nat.reduceMul, Nat.reduceEqDiff, Go.Addr.add, ↓reduceIte] at hx114_2); (try simp only [show (1 : Int).toNat = 1 from rfl, Nat.reduceMul, Nat.reduceEqDiff, Go.Addr.add, ↓reduceIte] at hx114_3); (try simp only [show (1 : Int).toNat = 1 from rfl, Nat.reduceMul, Nat.reduceEqDiff, Go.Addr.add, ↓reduceIte] at hx114_4); have qi114 : (1 < t108.length) = True := eq_true (by omega); (try rw [show ((1 : Int)).toNat = 1 from rfl] at hx114_0); (try rw [show 1 * 5 = 5 from rfl] at hx114_0); (try rw [show ((1 : Int)).toNat = 1 from rfl] at hx114_1); (try rw [show 1 * 5 = 5 from rfl] at hx114_1); (try rw [show ((1 : Int)).toNat = 1 from rfl] at hx114_2); (try rw [show 1 * 5 = 5 from rfl] at hx114_2); (try rw [show ((1 : Int)).toNat = 1 from rfl] at hx114_3); (try rw [show 1 * 5 = 5 from rfl] at hx114_3); (try rw [show ((1 : Int)).toNat = 1 from rfl] at hx114_4); (try rw [show 1 * 5 = 5 from rfl] at hx114_4); replace p114 := eq_true p114; replace q114 := eq_true q114) | (go_at_call 18; (with_reducible refine (watch_At.calls _ _ y105 4 t115 _ ?side1 ?side2 A18.out).mono ?_); (case side1 => repeat (first | exact (Kd.R_reads' HO107.out).2.2 | (with_reducible refine Kd.C_alloc ?_ _) | (with_reducible refine Kd.C_drewN ?_ _) | (with_reducible refine Kd.C_drew ?_))); (case side2 => exact (Kd.R_reads' HO107.out).2.1); rintro e w29 ⟨v116, rfl, ho0, hb⟩; have n0_ := Aside0.mk (Kd.R_below (by (with_reducible repeat (first | apply Kd.R_alloc | apply Kd.R_drewN | apply Kd.R_drew)); exact HO107.out) hb); have n1_ := Aside0.mk (Kd.R_below (by (with_reducible repeat (first | apply Kd.R_alloc | apply Kd.R_drewN | apply Kd.R_drew)); exact HO110.out) hb); have n2_ := Aside0.mk (Kd.R_lower ho0 (below_size (by repeat (first | (with_reducible first | exact HB.out | apply below_alloc | apply pw_below_drewN | apply below_drew1) | exact HB.out)))); have n3_ := Aside0.mk (below_step (by repeat (first | (with_reducible first | exact HB.out | apply below_alloc | apply pw_below_drewN | apply below_drew1) | exact HB.out)) hb); clear HO107; clear HO110; clear HB; have HO107 := n0_; have HO110 := n1_; have HO117 := n2_; have HB := n3_; clear n0_ n1_ n2_ n3_; (try clear hb); (try clear hb2); (try clear hk); (try clear hi); (try clear ho0); obtain ⟨Ao30, co30, eo30⟩ := Kd.R_slice HO117.out; subst eo30) | (go_at_call 7; (with_reducible refine (watch_Rows.calls _ _ t108 t118 _ ?side1 ?side2 A20.out).mono ?_); (case side1 => repeat (first | exact (Kd.R_reads' HO110.out).2.2 | (with_reducible refine Kd.C_alloc ?_ _) | (with_reducible refine Kd.C_drewN ?_ _) | (with_reducible refine Kd.C_drew ?_))); (case side2 => exact (Kd.R_reads' HO110.out).2.1); rintro e w31 ⟨v119, rfl, ho0, hb⟩; have n0_ := Aside0.mk (Kd.R_elder' (by (with_reducible repeat (first | apply Kd.R_alloc | apply Kd.R_drewN | apply Kd.R_drew)); exact HO107.out) (Kd.R_base ho0) hb); have n1_ := Aside0.mk (Kd.R_below (by (with_reducible repeat (first | apply Kd.R_alloc | apply Kd.R_drewN | apply Kd.R_drew)); exact HO110.out) hb); have n2_ := Aside0.mk (Kd.R_below (by (with_reducible repeat (first | apply Kd.R_alloc | apply Kd.R_drewN | apply Kd.R_drew)); exact HO117.out) hb); have n3_ := Aside0.mk (Kd.R_lower (Kd.R_new' ho0 (Kd.R_lt (by (with_reducible repeat (first | apply Kd.R_alloc | apply Kd.R_drewN | apply Kd.R_drew)); exact HO107.out))) (below_size (by repeat (first | (with_reducible first | exact HB.out | apply below_alloc | apply pw_below_drewN | apply below_drew1) | exact HB.out)))); have n4_ := Aside0.mk (below_step (by repeat (first | (with_reducible first | exact HB.out | apply below_alloc | apply pw_below_drewN | apply below_drew1) | exact HB.out)) hb); clear HO107; clear HO110; clear HO117; clear HB; have HO107 := n0_; have HO110 := n1_; have HO117 := n2_; have HO120 := n3_; have HB := n4_; clear n0_ n1_ n2_ n3_ n4_; (try clear hb); (try clear hb2); (try clear hk); (try clear hi); (try clear ho0); obtain ⟨Ao32, co32, eo32⟩ := Kd.R_slice HO120.out; subst eo32) | (go_at_call 19; (with_reducible refine (watch_Back.calls _ _ t108 t121 _ ?side1 ?side2 A22.out).mono ?_); (case side1 => repeat (first | exact (Kd.R_reads' HO110.out).2.2 | (with_reducible refine Kd.C_alloc ?_ _) | (with_reducible refine Kd.C_drewN ?_ _) | (with_reducible refine Kd.C_drew ?_))); (case side2 => exact (Kd.R_reads' HO110.out).2.1); rintro e w33 ⟨v122, rfl, ho0, hb⟩; have n0_ := Aside0.mk (Kd.R_below (by (with_reducible repeat (first | apply Kd.R_alloc | apply Kd.R_drewN | apply Kd.R_drew)); exact HO107.out) hb); have n1_ := Aside0.mk (Kd.R_elder' (by (with_reducible repeat (first | apply Kd.R_alloc | apply Kd.R_drewN | apply Kd.R_drew)); exact HO110.out) (Kd.R_base ho0) hb); have n2_ := Aside0.mk (Kd.R_below (by (with_reducible repeat (first | apply Kd.R_alloc | apply Kd.R_drewN | apply Kd.R_drew)); exact HO117.out) hb); have n3_ := Aside0.mk (Kd.R_below (by (with_reducible repeat (first | apply Kd.R_alloc | apply Kd.R_drewN | apply Kd.R_drew)); exact HO120.out) hb); have n4_ := Aside0.mk (Kd.R_lower (Kd.R_new' ho0 (Kd.R_lt (by (with_reducible repeat (first | apply Kd.R_alloc | apply Kd.R_drewN | apply Kd.R_drew)); exact HO110.out))) (below_size (by repeat (first | (with_reducible first | exact HB.out | apply below_alloc | apply pw_below_drewN | apply below_drew1) | exact HB.out)))); have n5_ := Aside0.mk (below_step (by repeat (first | (with_reducible first | exact HB.out | apply below_alloc | apply pw_below_drewN | apply below_drew1) | exact HB.out)) hb); clear HO107; clear HO110; clear HO117; clear HO120; clear HB; have HO107 := n0_; have HO110 := n1_; have HO117 := n2_; have HO120 := n3_; have HO123 := n4_; have HB := n5_; clear n0_ n1_ n2_ n3_ n4_ n5_; (try clear hb); (try clear hb2); (try clear hk); (try clear hi); (try clear ho0); obtain ⟨Ao34, co34, eo34⟩ := Kd.R_slice HO123.out; subst eo34))
                    go_ret
                    exact ⟨by first | rfl | (simp [errW_none, errW_some] <;> rfl) | (simp [*, errW_none, errW_some] <;> rfl), by repeat (first | (with_reducible first | exact HB.out | apply below_alloc | apply pw_below_drewN | apply below_drew1) | exact HB.out)⟩
                  · rw [if_neg c21] at H
                    have c21b0 : ((t118.length : Int) == 1) = false := beq_eq_false_iff_ne.mpr c21
                    have c21b1 : ((t118.length : Int) != 1) = true := bne_iff_ne.mpr c21
                    obtain rfl := Option.some.inj H
                    go_enter Try.func6, Try.ntmps6
                    go_wp2_with (first | ((with_reducible refine gate_callee (f := 20) rfl ?_); refine goesL_ (some 3) rfl rfl Try.func20 (by kernel_rfl) rfl #[.string (⟨#[117, 115, 101, 114, 58, 97, 110, 110]⟩ : ByteArray)] rfl (by (try simp only [List.map_toArray, List.map_cons, List.map_nil]); first | done | rfl | (simp only [List.length_drop, List.length_take]; rfl)) ?_; (with_reducible refine (porterlaw22_viewer.calls (⟨#[117, 115, 101, 114, 58, 97, 110, 110]⟩ : ByteArray) t102 t103 t104 _ A1.out).mono ?_); rintro e w35 ⟨rfl, hb⟩; refine ⟨_, rfl, ?_⟩; have n0_ := Aside0.mk (below_step (by repeat (first | (with_reducible first | exact HB.out | apply below_alloc | apply pw_below_drewN | apply below_drew1) | exact HB.out)) hb); clear HB; have HB := n0_; clear n0_; (try clear hb); (try clear hb2); (try clear hk); (try clear hi)) | ((with_reducible refine gate_dst (N := 5) rfl ?_); (try (refine gate_guard (by rfl) ?_; dsimp only)); refine Kd.R_lit k51 _ 51 ?hg (N := 5) ?hd (xs := ([(⟨(⟨t102, t103, t104⟩ : S25), 3, 5⟩ : S51)] : List (S51))) (inner := [.string t102, .string t103, .string t104, .int .i64 3, .int .i64 5]) (ok := fun _ => True) (okp := fun _ => True) ?hr ?hp (fun _ hk => hk) trivial (Below.refl _ _) (Nat.le_refl _) (by simp) ?_; (case hd => rfl); (case hg => rfl); (case hr => first | (go_simp; done) | (go_simp; rfl)); (case hp => exact (Reps.c5 (show Kd.M k51 _ _ _ (⟨(⟨t102, t103, t104⟩ : S25), 3, 5⟩ : S51) [.string t102, .string t103, .string t104, .int .i64 3, .int .i64 5] from (k51_mkM _ _ _ (⟨(⟨t102, t103, t104⟩ : S25), 3, 5⟩ : S51) )) (Reps.none _ _))); intro v106 w36 ho37 hb hg_ hnew_; clear hg_ hnew_; (first | rw [← Ny105.out] at ho37 | (simp only [Int.reduceToNat] at ho37; rw [← Ny105.out] at ho37)); have n0_ := Aside0.mk (Kd.R_lower ho37 (below_size (by repeat (first | (with_reducible first | exact HB.out | apply below_alloc | apply pw_below_drewN | apply below_drew1) | exact HB.out)))); have n1_ := Aside0.mk (below_step (by repeat (first | (with_reducible first | exact HB.out | apply below_alloc | apply pw_below_drewN | apply below_drew1) | exact HB.out)) hb); clear HB; have HO107 := n0_; have HB := n1_; clear n0_ n1_; clear hb ho37; obtain ⟨Ao38, co38, eo38⟩ := Kd.R_slice HO107.out; subst eo38) | ((with_reducible refine gate_callee (f := 8) rfl ?_); refine goesL_ (some 7) rfl rfl Try.func8 (by kernel_rfl) rfl #[.slice Ao38 y105.length co38, .int .i64 0, .int .i64 9] rfl (by (try simp only [List.map_toArray, List.map_cons, List.map_nil]); first | done | rfl | (simp only [List.length_drop, List.length_take]; rfl)) ?_; (with_reducible refine (watch_Changes.calls _ _ y105 0 9 t108 _ ?side1 ?side2 A2.out).mono ?_); (case side1 => repeat (first | exact (Kd.R_reads' HO107.out).2.2 | (with_reducible refine Kd.C_alloc ?_ _) | (with_reducible refine Kd.C_drewN ?_ _) | (with_reducible refine Kd.C_drew ?_))); (case side2 => exact (Kd.R_reads' HO107.out).2.1); rintro e w39 ⟨v109, rfl, ho0, hb⟩; refine ⟨_, rfl, ?_⟩; have n0_ := Aside0.mk (Kd.R_below (by (with_reducible repeat (first | apply Kd.R_alloc | apply Kd.R_drewN | apply Kd.R_drew)); exact HO107.out) hb); have n1_ := Aside0.mk (Kd.R_lower ho0 (below_size (by repeat (first | (with_reducible first | exact HB.out | apply below_alloc | apply pw_below_drewN | apply below_drew1) | exact HB.out)))); have n2_ := Aside0.mk (below_step (by repeat (first | (with_reducible first | exact HB.out | apply below_alloc | apply pw_below_drewN | apply below_drew1) | exact HB.out)) hb); clear HO107; clear HB; have HO107 := n0_; have HO110 := n1_; have HB := n2_; clear n0_ n1_ n2_; (try clear hb); (try clear hb2); (try clear hk); (try clear hi); (try clear ho0); obtain ⟨Ao40, co40, eo40⟩ := Kd.R_slice HO110.out; subst eo40; have p111 : 0 ≤ (0 : Int) := (by omega); have q111 : 0 < (t108.length : Int) := of_decide_eq_true (by first | (with_reducible assumption) | assumption); obtain ⟨ad111, e111, hx111_0, hx111_1, hx111_2, hx111_3, hx111_4⟩ := at_T29 (Kd.R_reads' HO110.out).2.2 0 p111 q111; (try rw [← Nbq6.out] at hx111_1); (try rw [← Nbq16.out] at hx111_1); cases e111; have qi111 : (0 < t108.length) = True := eq_true (by omega); (try rw [show ((0 : Int)).toNat = 0 from rfl] at hx111_0); (try rw [show 0 * 5 = 0 from rfl] at hx111_0); (try rw [Addr.add_zero'] at hx111_0); (try rw [show ((0 : Int)).toNat = 0 from rfl] at hx111_1); (try rw [show 0 * 5 = 0 from rfl] at hx111_1); (try rw [Addr.add_zero'] at hx111_1); (try rw [show ((0 : Int)).toNat = 0 from rfl] at hx111_2); (try rw [show 0 * 5 = 0 from rfl] at hx111_2); (try rw [Addr.add_zero'] at hx111_2); (try rw [show ((0 : Int)).toNat = 0 from rfl] at hx111_3); (try rw [show 0 * 5 = 0 from rfl] at hx111_3); (try rw [Addr.add_zero'] at hx111_3); (try rw [show ((0 : Int)).toNat = 0 from rfl] at hx111_4); (try rw [show 0 * 5 = 0 from rfl] at hx111_4); (try rw [Addr.add_zero'] at hx111_4); replace p111 := eq_true p111; replace q111 := eq_true q111; have p112 : 0 ≤ (0 : Int) := (by omega); have q112 : 0 < (t108.length : Int) := of_decide_eq_true (by first | (with_reducible assumption) | assumption); obtain ⟨ad112, e112, hx112_0, hx112_1, hx112_2, hx112_3, hx112_4⟩ := at_T29 (Kd.R_reads' HO110.out).2.2 0 p112 q112; (try rw [← Nbq6.out] at hx112_1); (try rw [← Nbq16.out] at hx112_1); obtain rfl : ad111 = ad112 := (by injection e112); have qi112 : (0 < t108.length) = True := eq_true (by omega); (try rw [show ((0 : Int)).toNat = 0 from rfl] at hx112_0); (try rw [show 0 * 5 = 0 from rfl] at hx112_0); (try rw [Addr.add_zero'] at hx112_0); (try rw [show ((0 : Int)).toNat = 0 from rfl] at hx112_1); (try rw [show 0 * 5 = 0 from rfl] at hx112_1); (try rw [Addr.add_zero'] at hx112_1); (try rw [show ((0 : Int)).toNat = 0 from rfl] at hx112_2); (try rw [show 0 * 5 = 0 from rfl] at hx112_2); (try rw [Addr.add_zero'] at hx112_2); (try rw [show ((0 : Int)).toNat = 0 from rfl] at hx112_3); (try rw [show 0 * 5 = 0 from rfl] at hx112_3); (try rw [Addr.add_zero'] at hx112_3); (try rw [show ((0 : Int)).toNat = 0 from rfl] at hx112_4); (try rw [show 0 * 5 = 0 from rfl] at hx112_4); (try rw [Addr.add_zero'] at hx112_4); replace p112 := eq_true p112; replace q112 := eq_true q112; have p113 : 0 ≤ (1 : Int) := (by omega); have q113 : 1 < (t108.length : Int) := of_decide_eq_true (by first | (with_reducible assumption) | assumption); obtain ⟨ad113, e113, hx113_0, hx113_1, hx113_2, hx113_3, hx113_4⟩ := at_T29 (Kd.R_reads' HO110.out).2.2 1 p113 q113; (try rw [← Nbq6.out] at hx113_1); (try rw [← Nbq16.out] at hx113_1); obtain rfl : ad111 = ad113 := (by injection e113); (try simp only [show (1 : Int).toNat = 1 from rfl, Nat.reduceMul, Nat.reduceEqDiff, Go.Addr.add, ↓reduceIte] at hx113_0); (try simp only [show (1 : Int).toNat = 1 from rfl, Nat.reduceMul, Nat.reduceEqDiff, Go.Addr.add, ↓reduceIte] at hx113_1); (try simp only [show (1 : Int).toNat = 1 from rfl, Nat.reduceMul, Nat.reduceEqDiff, Go.Addr.add, ↓reduceIte] at hx113_2); (try simp only [show (1 : Int).toNat = 1 from rfl, Nat.reduceMul, Nat.reduceEqDiff, Go.Addr.add, ↓reduceIte] at hx113_3); (try simp only [show (1 : Int).toNat = 1 from rfl, Nat.reduceMul, Nat.reduceEqDiff, Go.Addr.add, ↓reduceIte] at hx113_4); have qi113 : (1 < t108.length) = True := eq_true (by omega); (try rw [show ((1 : Int)).toNat = 1 from rfl] at hx113_0); (try rw [show 1 * 5 = 5 from rfl] at hx113_0); (try rw [show ((1 : Int)).toNat = 1 from rfl] at hx113_1); (try rw [show 1 * 5 = 5 from rfl] at hx113_1); (try rw [show ((1 : Int)).toNat = 1 from rfl] at hx113_2); (try rw [show 1 * 5 = 5 from rfl] at hx113_2); (try rw [show ((1 : Int)).toNat = 1 from rfl] at hx113_3); (try rw [show 1 * 5 = 5 from rfl] at hx113_3); (try rw [show ((1 : Int)).toNat = 1 from rfl] at hx113_4); (try rw [show 1 * 5 = 5 from rfl] at hx113_4); replace p113 := eq_true p113; replace q113 := eq_true q113; have p114 : 0 ≤ (1 : Int) := (by omega); have q114 : 1 < (t108.length : Int) := of_decide_eq_true (by first | (with_reducible assumption) | assumption); obtain ⟨ad114, e114, hx114_0, hx114_1, hx114_2, hx114_3, hx114_4⟩ := at_T29 (Kd.R_reads' HO110.out).2.2 1 p114 q114; (try rw [← Nbq6.out] at hx114_1); (try rw [← Nbq16.out] at hx114_1); obtain rfl : ad111 = ad114 := (by injection e114); (try simp only [show (1 : Int).toNat = 1 from rfl, Nat.reduceMul, Nat.reduceEqDiff, Go.Addr.add, ↓reduceIte] at hx114_0); (try simp only [show (1 : Int).toNat = 1 from rfl, Nat.reduceMul, Nat.reduceEqDiff, Go.Addr.add, ↓reduceIte] at hx114_1); (try simp only [show (1 : Int).toNat = 1 from rfl, Nat.reduceMul, Nat.reduceEqDiff, Go.Addr.add, ↓reduceIte] at hx114_2); (try simp only [show (1 : Int).toNat = 1 from rfl, Nat.reduceMul, Nat.reduceEqDiff, Go.Addr.add, ↓reduceIte] at hx114_3); (try simp only [show (1 : Int).toNat = 1 from rfl, Nat.reduceMul, Nat.reduceEqDiff, Go.Addr.add, ↓reduceIte] at hx114_4); have qi114 : (1 < t108.length) = True := eq_true (by omega); (try rw [show ((1 : Int)).toNat = 1 from rfl] at hx114_0); (try rw [show 1 * 5 = 5 from rfl] at hx114_0); (try rw [show ((1 : Int)).toNat = 1 from rfl] at hx114_1); (try rw [show 1 * 5 = 5 from rfl] at hx114_1); (try rw [show ((1 : Int)).toNat = 1 from rfl] at hx114_2); (try rw [show 1 * 5 = 5 from rfl] at hx114_2); (try rw [show ((1 : Int)).toNat = 1 from rfl] at hx114_3); (try rw [show 1 * 5 = 5 from rfl] at hx114_3); (try rw [show ((1 : Int)).toNat = 1 from rfl] at hx114_4); (try rw [show 1 * 5 = 5 from rfl] at hx114_4); replace p114 := eq_true p114; replace q114 := eq_true q114) | (go_at_call 18; (with_reducible refine (watch_At.calls _ _ y105 4 t115 _ ?side1 ?side2 A18.out).mono ?_); (case side1 => repeat (first | exact (Kd.R_reads' HO107.out).2.2 | (with_reducible refine Kd.C_alloc ?_ _) | (with_reducible refine Kd.C_drewN ?_ _) | (with_reducible refine Kd.C_drew ?_))); (case side2 => exact (Kd.R_reads' HO107.out).2.1); rintro e w41 ⟨v116, rfl, ho0, hb⟩; have n0_ := Aside0.mk (Kd.R_below (by (with_reducible repeat (first | apply Kd.R_alloc | apply Kd.R_drewN | apply Kd.R_drew)); exact HO107.out) hb); have n1_ := Aside0.mk (Kd.R_below (by (with_reducible repeat (first | apply Kd.R_alloc | apply Kd.R_drewN | apply Kd.R_drew)); exact HO110.out) hb); have n2_ := Aside0.mk (Kd.R_lower ho0 (below_size (by repeat (first | (with_reducible first | exact HB.out | apply below_alloc | apply pw_below_drewN | apply below_drew1) | exact HB.out)))); have n3_ := Aside0.mk (below_step (by repeat (first | (with_reducible first | exact HB.out | apply below_alloc | apply pw_below_drewN | apply below_drew1) | exact HB.out)) hb); clear HO107; clear HO110; clear HB; have HO107 := n0_; have HO110 := n1_; have HO117 := n2_; have HB := n3_; clear n0_ n1_ n2_ n3_; (try clear hb); (try clear hb2); (try clear hk); (try clear hi); (try clear ho0); obtain ⟨Ao42, co42, eo42⟩ := Kd.R_slice HO117.out; subst eo42) | (go_at_call 7; (with_reducible refine (watch_Rows.calls _ _ t108 t118 _ ?side1 ?side2 A20.out).mono ?_); (case side1 => repeat (first | exact (Kd.R_reads' HO110.out).2.2 | (with_reducible refine Kd.C_alloc ?_ _) | (with_reducible refine Kd.C_drewN ?_ _) | (with_reducible refine Kd.C_drew ?_))); (case side2 => exact (Kd.R_reads' HO110.out).2.1); rintro e w43 ⟨v119, rfl, ho0, hb⟩; have n0_ := Aside0.mk (Kd.R_elder' (by (with_reducible repeat (first | apply Kd.R_alloc | apply Kd.R_drewN | apply Kd.R_drew)); exact HO107.out) (Kd.R_base ho0) hb); have n1_ := Aside0.mk (Kd.R_below (by (with_reducible repeat (first | apply Kd.R_alloc | apply Kd.R_drewN | apply Kd.R_drew)); exact HO110.out) hb); have n2_ := Aside0.mk (Kd.R_below (by (with_reducible repeat (first | apply Kd.R_alloc | apply Kd.R_drewN | apply Kd.R_drew)); exact HO117.out) hb); have n3_ := Aside0.mk (Kd.R_lower (Kd.R_new' ho0 (Kd.R_lt (by (with_reducible repeat (first | apply Kd.R_alloc | apply Kd.R_drewN | apply Kd.R_drew)); exact HO107.out))) (below_size (by repeat (first | (with_reducible first | exact HB.out | apply below_alloc | apply pw_below_drewN | apply below_drew1) | exact HB.out)))); have n4_ := Aside0.mk (below_step (by repeat (first | (with_reducible first | exact HB.out | apply below_alloc | apply pw_below_drewN | apply below_drew1) | exact HB.out)) hb); clear HO107; clear HO110; clear HO117; clear HB; have HO107 := n0_; have HO110 := n1_; have HO117 := n2_; have HO120 := n3_; have HB := n4_; clear n0_ n1_ n2_ n3_ n4_; (try clear hb); (try clear hb2); (try clear hk); (try clear hi); (try clear ho0); obtain ⟨Ao44, co44, eo44⟩ := Kd.R_slice HO120.out; subst eo44))
                    go_ret
                    exact ⟨by first | rfl | (simp [errW_none, errW_some] <;> rfl) | (simp [*, errW_none, errW_some] <;> rfl), by repeat (first | (with_reducible first | exact HB.out | apply below_alloc | apply pw_below_drewN | apply below_drew1) | exact HB.out)⟩
                · rw [if_neg c19] at H
                  have c19b0 : ((t115.length : Int) == 1) = false := beq_eq_false_iff_ne.mpr c19
                  have c19b1 : ((t115.length : Int) != 1) = true := bne_iff_ne.mpr c19
                  obtain rfl := Option.some.inj H
                  go_enter Try.func6, Try.ntmps6
                  go_wp2_with (first | ((with_reducible refine gate_callee (f := 20) rfl ?_); refine goesL_ (some 3) rfl rfl Try.func20 (by kernel_rfl) rfl #[.string (⟨#[117, 115, 101, 114, 58, 97, 110, 110]⟩ : ByteArray)] rfl (by (try simp only [List.map_toArray, List.map_cons, List.map_nil]); first | done | rfl | (simp only [List.length_drop, List.length_take]; rfl)) ?_; (with_reducible refine (porterlaw22_viewer.calls (⟨#[117, 115, 101, 114, 58, 97, 110, 110]⟩ : ByteArray) t102 t103 t104 _ A1.out).mono ?_); rintro e w45 ⟨rfl, hb⟩; refine ⟨_, rfl, ?_⟩; have n0_ := Aside0.mk (below_step (by repeat (first | (with_reducible first | exact HB.out | apply below_alloc | apply pw_below_drewN | apply below_drew1) | exact HB.out)) hb); clear HB; have HB := n0_; clear n0_; (try clear hb); (try clear hb2); (try clear hk); (try clear hi)) | ((with_reducible refine gate_dst (N := 5) rfl ?_); (try (refine gate_guard (by rfl) ?_; dsimp only)); refine Kd.R_lit k51 _ 51 ?hg (N := 5) ?hd (xs := ([(⟨(⟨t102, t103, t104⟩ : S25), 3, 5⟩ : S51)] : List (S51))) (inner := [.string t102, .string t103, .string t104, .int .i64 3, .int .i64 5]) (ok := fun _ => True) (okp := fun _ => True) ?hr ?hp (fun _ hk => hk) trivial (Below.refl _ _) (Nat.le_refl _) (by simp) ?_; (case hd => rfl); (case hg => rfl); (case hr => first | (go_simp; done) | (go_simp; rfl)); (case hp => exact (Reps.c5 (show Kd.M k51 _ _ _ (⟨(⟨t102, t103, t104⟩ : S25), 3, 5⟩ : S51) [.string t102, .string t103, .string t104, .int .i64 3, .int .i64 5] from (k51_mkM _ _ _ (⟨(⟨t102, t103, t104⟩ : S25), 3, 5⟩ : S51) )) (Reps.none _ _))); intro v106 w46 ho47 hb hg_ hnew_; clear hg_ hnew_; (first | rw [← Ny105.out] at ho47 | (simp only [Int.reduceToNat] at ho47; rw [← Ny105.out] at ho47)); have n0_ := Aside0.mk (Kd.R_lower ho47 (below_size (by repeat (first | (with_reducible first | exact HB.out | apply below_alloc | apply pw_below_drewN | apply below_drew1) | exact HB.out)))); have n1_ := Aside0.mk (below_step (by repeat (first | (with_reducible first | exact HB.out | apply below_alloc | apply pw_below_drewN | apply below_drew1) | exact HB.out)) hb); clear HB; have HO107 := n0_; have HB := n1_; clear n0_ n1_; clear hb ho47; obtain ⟨Ao48, co48, eo48⟩ := Kd.R_slice HO107.out; subst eo48) | ((with_reducible refine gate_callee (f := 8) rfl ?_); refine goesL_ (some 7) rfl rfl Try.func8 (by kernel_rfl) rfl #[.slice Ao48 y105.length co48, .int .i64 0, .int .i64 9] rfl (by (try simp only [List.map_toArray, List.map_cons, List.map_nil]); first | done | rfl | (simp only [List.length_drop, List.length_take]; rfl)) ?_; (with_reducible refine (watch_Changes.calls _ _ y105 0 9 t108 _ ?side1 ?side2 A2.out).mono ?_); (case side1 => repeat (first | exact (Kd.R_reads' HO107.out).2.2 | (with_reducible refine Kd.C_alloc ?_ _) | (with_reducible refine Kd.C_drewN ?_ _) | (with_reducible refine Kd.C_drew ?_))); (case side2 => exact (Kd.R_reads' HO107.out).2.1); rintro e w49 ⟨v109, rfl, ho0, hb⟩; refine ⟨_, rfl, ?_⟩; have n0_ := Aside0.mk (Kd.R_below (by (with_reducible repeat (first | apply Kd.R_alloc | apply Kd.R_drewN | apply Kd.R_drew)); exact HO107.out) hb); have n1_ := Aside0.mk (Kd.R_lower ho0 (below_size (by repeat (first | (with_reducible first | exact HB.out | apply below_alloc | apply pw_below_drewN | apply below_drew1) | exact HB.out)))); have n2_ := Aside0.mk (below_step (by repeat (first | (with_reducible first | exact HB.out | apply below_alloc | apply pw_below_drewN | apply below_drew1) | exact HB.out)) hb); clear HO107; clear HB; have HO107 := n0_; have HO110 := n1_; have HB := n2_; clear n0_ n1_ n2_; (try clear hb); (try clear hb2); (try clear hk); (try clear hi); (try clear ho0); obtain ⟨Ao50, co50, eo50⟩ := Kd.R_slice HO110.out; subst eo50; have p111 : 0 ≤ (0 : Int) := (by omega); have q111 : 0 < (t108.length : Int) := of_decide_eq_true (by first | (with_reducible assumption) | assumption); obtain ⟨ad111, e111, hx111_0, hx111_1, hx111_2, hx111_3, hx111_4⟩ := at_T29 (Kd.R_reads' HO110.out).2.2 0 p111 q111; (try rw [← Nbq6.out] at hx111_1); (try rw [← Nbq16.out] at hx111_1); cases e111; have qi111 : (0 < t108.length) = True := eq_true (by omega); (try rw [show ((0 : Int)).toNat = 0 from rfl] at hx111_0); (try rw [show 0 * 5 = 0 from rfl] at hx111_0); (try rw [Addr.add_zero'] at hx111_0); (try rw [show ((0 : Int)).toNat = 0 from rfl] at hx111_1); (try rw [show 0 * 5 = 0 from rfl] at hx111_1); (try rw [Addr.add_zero'] at hx111_1); (try rw [show ((0 : Int)).toNat = 0 from rfl] at hx111_2); (try rw [show 0 * 5 = 0 from rfl] at hx111_2); (try rw [Addr.add_zero'] at hx111_2); (try rw [show ((0 : Int)).toNat = 0 from rfl] at hx111_3); (try rw [show 0 * 5 = 0 from rfl] at hx111_3); (try rw [Addr.add_zero'] at hx111_3); (try rw [show ((0 : Int)).toNat = 0 from rfl] at hx111_4); (try rw [show 0 * 5 = 0 from rfl] at hx111_4); (try rw [Addr.add_zero'] at hx111_4); replace p111 := eq_true p111; replace q111 := eq_true q111; have p112 : 0 ≤ (0 : Int) := (by omega); have q112 : 0 < (t108.length : Int) := of_decide_eq_true (by first | (with_reducible assumption) | assumption); obtain ⟨ad112, e112, hx112_0, hx112_1, hx112_2, hx112_3, hx112_4⟩ := at_T29 (Kd.R_reads' HO110.out).2.2 0 p112 q112; (try rw [← Nbq6.out] at hx112_1); (try rw [← Nbq16.out] at hx112_1); obtain rfl : ad111 = ad112 := (by injection e112); have qi112 : (0 < t108.length) = True := eq_true (by omega); (try rw [show ((0 : Int)).toNat = 0 from rfl] at hx112_0); (try rw [show 0 * 5 = 0 from rfl] at hx112_0); (try rw [Addr.add_zero'] at hx112_0); (try rw [show ((0 : Int)).toNat = 0 from rfl] at hx112_1); (try rw [show 0 * 5 = 0 from rfl] at hx112_1); (try rw [Addr.add_zero'] at hx112_1); (try rw [show ((0 : Int)).toNat = 0 from rfl] at hx112_2); (try rw [show 0 * 5 = 0 from rfl] at hx112_2); (try rw [Addr.add_zero'] at hx112_2); (try rw [show ((0 : Int)).toNat = 0 from rfl] at hx112_3); (try rw [show 0 * 5 = 0 from rfl] at hx112_3); (try rw [Addr.add_zero'] at hx112_3); (try rw [show ((0 : Int)).toNat = 0 from rfl] at hx112_4); (try rw [show 0 * 5 = 0 from rfl] at hx112_4); (try rw [Addr.add_zero'] at hx112_4); replace p112 := eq_true p112; replace q112 := eq_true q112; have p113 : 0 ≤ (1 : Int) := (by omega); have q113 : 1 < (t108.length : Int) := of_decide_eq_true (by first | (with_reducible assumption) | assumption); obtain ⟨ad113, e113, hx113_0, hx113_1, hx113_2, hx113_3, hx113_4⟩ := at_T29 (Kd.R_reads' HO110.out).2.2 1 p113 q113; (try rw [← Nbq6.out] at hx113_1); (try rw [← Nbq16.out] at hx113_1); obtain rfl : ad111 = ad113 := (by injection e113); (try simp only [show (1 : Int).toNat = 1 from rfl, Nat.reduceMul, Nat.reduceEqDiff, Go.Addr.add, ↓reduceIte] at hx113_0); (try simp only [show (1 : Int).toNat = 1 from rfl, Nat.reduceMul, Nat.reduceEqDiff, Go.Addr.add, ↓reduceIte] at hx113_1); (try simp only [show (1 : Int).toNat = 1 from rfl, Nat.reduceMul, Nat.reduceEqDiff, Go.Addr.add, ↓reduceIte] at hx113_2); (try simp only [show (1 : Int).toNat = 1 from rfl, Nat.reduceMul, Nat.reduceEqDiff, Go.Addr.add, ↓reduceIte] at hx113_3); (try simp only [show (1 : Int).toNat = 1 from rfl, Nat.reduceMul, Nat.reduceEqDiff, Go.Addr.add, ↓reduceIte] at hx113_4); have qi113 : (1 < t108.length) = True := eq_true (by omega); (try rw [show ((1 : Int)).toNat = 1 from rfl] at hx113_0); (try rw [show 1 * 5 = 5 from rfl] at hx113_0); (try rw [show ((1 : Int)).toNat = 1 from rfl] at hx113_1); (try rw [show 1 * 5 = 5 from rfl] at hx113_1); (try rw [show ((1 : Int)).toNat = 1 from rfl] at hx113_2); (try rw [show 1 * 5 = 5 from rfl] at hx113_2); (try rw [show ((1 : Int)).toNat = 1 from rfl] at hx113_3); (try rw [show 1 * 5 = 5 from rfl] at hx113_3); (try rw [show ((1 : Int)).toNat = 1 from rfl] at hx113_4); (try rw [show 1 * 5 = 5 from rfl] at hx113_4); replace p113 := eq_true p113; replace q113 := eq_true q113; have p114 : 0 ≤ (1 : Int) := (by omega); have q114 : 1 < (t108.length : Int) := of_decide_eq_true (by first | (with_reducible assumption) | assumption); obtain ⟨ad114, e114, hx114_0, hx114_1, hx114_2, hx114_3, hx114_4⟩ := at_T29 (Kd.R_reads' HO110.out).2.2 1 p114 q114; (try rw [← Nbq6.out] at hx114_1); (try rw [← Nbq16.out] at hx114_1); obtain rfl : ad111 = ad114 := (by injection e114); (try simp only [show (1 : Int).toNat = 1 from rfl, Nat.reduceMul, Nat.reduceEqDiff, Go.Addr.add, ↓reduceIte] at hx114_0); (try simp only [show (1 : Int).toNat = 1 from rfl, Nat.reduceMul, Nat.reduceEqDiff, Go.Addr.add, ↓reduceIte] at hx114_1); (try simp only [show (1 : Int).toNat = 1 from rfl, Nat.reduceMul, Nat.reduceEqDiff, Go.Addr.add, ↓reduceIte] at hx114_2); (try simp only [show (1 : Int).toNat = 1 from rfl, Nat.reduceMul, Nat.reduceEqDiff, Go.Addr.add, ↓reduceIte] at hx114_3); (try simp only [show (1 : Int).toNat = 1 from rfl, Nat.reduceMul, Nat.reduceEqDiff, Go.Addr.add, ↓reduceIte] at hx114_4); have qi114 : (1 < t108.length) = True := eq_true (by omega); (try rw [show ((1 : Int)).toNat = 1 from rfl] at hx114_0); (try rw [show 1 * 5 = 5 from rfl] at hx114_0); (try rw [show ((1 : Int)).toNat = 1 from rfl] at hx114_1); (try rw [show 1 * 5 = 5 from rfl] at hx114_1); (try rw [show ((1 : Int)).toNat = 1 from rfl] at hx114_2); (try rw [show 1 * 5 = 5 from rfl] at hx114_2); (try rw [show ((1 : Int)).toNat = 1 from rfl] at hx114_3); (try rw [show 1 * 5 = 5 from rfl] at hx114_3); (try rw [show ((1 : Int)).toNat = 1 from rfl] at hx114_4); (try rw [show 1 * 5 = 5 from rfl] at hx114_4); replace p114 := eq_true p114; replace q114 := eq_true q114) | (go_at_call 18; (with_reducible refine (watch_At.calls _ _ y105 4 t115 _ ?side1 ?side2 A18.out).mono ?_); (case side1 => repeat (first | exact (Kd.R_reads' HO107.out).2.2 | (with_reducible refine Kd.C_alloc ?_ _) | (with_reducible refine Kd.C_drewN ?_ _) | (with_reducible refine Kd.C_drew ?_))); (case side2 => exact (Kd.R_reads' HO107.out).2.1); rintro e w51 ⟨v116, rfl, ho0, hb⟩; have n0_ := Aside0.mk (Kd.R_below (by (with_reducible repeat (first | apply Kd.R_alloc | apply Kd.R_drewN | apply Kd.R_drew)); exact HO107.out) hb); have n1_ := Aside0.mk (Kd.R_below (by (with_reducible repeat (first | apply Kd.R_alloc | apply Kd.R_drewN | apply Kd.R_drew)); exact HO110.out) hb); have n2_ := Aside0.mk (Kd.R_lower ho0 (below_size (by repeat (first | (with_reducible first | exact HB.out | apply below_alloc | apply pw_below_drewN | apply below_drew1) | exact HB.out)))); have n3_ := Aside0.mk (below_step (by repeat (first | (with_reducible first | exact HB.out | apply below_alloc | apply pw_below_drewN | apply below_drew1) | exact HB.out)) hb); clear HO107; clear HO110; clear HB; have HO107 := n0_; have HO110 := n1_; have HO117 := n2_; have HB := n3_; clear n0_ n1_ n2_ n3_; (try clear hb); (try clear hb2); (try clear hk); (try clear hi); (try clear ho0); obtain ⟨Ao52, co52, eo52⟩ := Kd.R_slice HO117.out; subst eo52))
                  go_ret
                  exact ⟨by first | rfl | (simp [errW_none, errW_some] <;> rfl) | (simp [*, errW_none, errW_some] <;> rfl), by repeat (first | (with_reducible first | exact HB.out | apply below_alloc | apply pw_below_drewN | apply below_drew1) | exact HB.out)⟩
              · replace c17 := Bool.eq_false_iff.mpr c17
                subst c17
                have H1 : (some false) = some r := by rw [if_neg (show ¬ (false = true) by decide)] at H; exact H
                clear H
                have H := H1
                clear H1
                obtain rfl := Option.some.inj H
                go_enter Try.func6, Try.ntmps6
                go_wp2_with (first | ((with_reducible refine gate_callee (f := 20) rfl ?_); refine goesL_ (some 3) rfl rfl Try.func20 (by kernel_rfl) rfl #[.string (⟨#[117, 115, 101, 114, 58, 97, 110, 110]⟩ : ByteArray)] rfl (by (try simp only [List.map_toArray, List.map_cons, List.map_nil]); first | done | rfl | (simp only [List.length_drop, List.length_take]; rfl)) ?_; (with_reducible refine (porterlaw22_viewer.calls (⟨#[117, 115, 101, 114, 58, 97, 110, 110]⟩ : ByteArray) t102 t103 t104 _ A1.out).mono ?_); rintro e w53 ⟨rfl, hb⟩; refine ⟨_, rfl, ?_⟩; have n0_ := Aside0.mk (below_step (by repeat (first | (with_reducible first | exact HB.out | apply below_alloc | apply pw_below_drewN | apply below_drew1) | exact HB.out)) hb); clear HB; have HB := n0_; clear n0_; (try clear hb); (try clear hb2); (try clear hk); (try clear hi)) | ((with_reducible refine gate_dst (N := 5) rfl ?_); (try (refine gate_guard (by rfl) ?_; dsimp only)); refine Kd.R_lit k51 _ 51 ?hg (N := 5) ?hd (xs := ([(⟨(⟨t102, t103, t104⟩ : S25), 3, 5⟩ : S51)] : List (S51))) (inner := [.string t102, .string t103, .string t104, .int .i64 3, .int .i64 5]) (ok := fun _ => True) (okp := fun _ => True) ?hr ?hp (fun _ hk => hk) trivial (Below.refl _ _) (Nat.le_refl _) (by simp) ?_; (case hd => rfl); (case hg => rfl); (case hr => first | (go_simp; done) | (go_simp; rfl)); (case hp => exact (Reps.c5 (show Kd.M k51 _ _ _ (⟨(⟨t102, t103, t104⟩ : S25), 3, 5⟩ : S51) [.string t102, .string t103, .string t104, .int .i64 3, .int .i64 5] from (k51_mkM _ _ _ (⟨(⟨t102, t103, t104⟩ : S25), 3, 5⟩ : S51) )) (Reps.none _ _))); intro v106 w54 ho55 hb hg_ hnew_; clear hg_ hnew_; (first | rw [← Ny105.out] at ho55 | (simp only [Int.reduceToNat] at ho55; rw [← Ny105.out] at ho55)); have n0_ := Aside0.mk (Kd.R_lower ho55 (below_size (by repeat (first | (with_reducible first | exact HB.out | apply below_alloc | apply pw_below_drewN | apply below_drew1) | exact HB.out)))); have n1_ := Aside0.mk (below_step (by repeat (first | (with_reducible first | exact HB.out | apply below_alloc | apply pw_below_drewN | apply below_drew1) | exact HB.out)) hb); clear HB; have HO107 := n0_; have HB := n1_; clear n0_ n1_; clear hb ho55; obtain ⟨Ao56, co56, eo56⟩ := Kd.R_slice HO107.out; subst eo56) | ((with_reducible refine gate_callee (f := 8) rfl ?_); refine goesL_ (some 7) rfl rfl Try.func8 (by kernel_rfl) rfl #[.slice Ao56 y105.length co56, .int .i64 0, .int .i64 9] rfl (by (try simp only [List.map_toArray, List.map_cons, List.map_nil]); first | done | rfl | (simp only [List.length_drop, List.length_take]; rfl)) ?_; (with_reducible refine (watch_Changes.calls _ _ y105 0 9 t108 _ ?side1 ?side2 A2.out).mono ?_); (case side1 => repeat (first | exact (Kd.R_reads' HO107.out).2.2 | (with_reducible refine Kd.C_alloc ?_ _) | (with_reducible refine Kd.C_drewN ?_ _) | (with_reducible refine Kd.C_drew ?_))); (case side2 => exact (Kd.R_reads' HO107.out).2.1); rintro e w57 ⟨v109, rfl, ho0, hb⟩; refine ⟨_, rfl, ?_⟩; have n0_ := Aside0.mk (Kd.R_below (by (with_reducible repeat (first | apply Kd.R_alloc | apply Kd.R_drewN | apply Kd.R_drew)); exact HO107.out) hb); have n1_ := Aside0.mk (Kd.R_lower ho0 (below_size (by repeat (first | (with_reducible first | exact HB.out | apply below_alloc | apply pw_below_drewN | apply below_drew1) | exact HB.out)))); have n2_ := Aside0.mk (below_step (by repeat (first | (with_reducible first | exact HB.out | apply below_alloc | apply pw_below_drewN | apply below_drew1) | exact HB.out)) hb); clear HO107; clear HB; have HO107 := n0_; have HO110 := n1_; have HB := n2_; clear n0_ n1_ n2_; (try clear hb); (try clear hb2); (try clear hk); (try clear hi); (try clear ho0); obtain ⟨Ao58, co58, eo58⟩ := Kd.R_slice HO110.out; subst eo58; have p111 : 0 ≤ (0 : Int) := (by omega); have q111 : 0 < (t108.length : Int) := of_decide_eq_true (by first | (with_reducible assumption) | assumption); obtain ⟨ad111, e111, hx111_0, hx111_1, hx111_2, hx111_3, hx111_4⟩ := at_T29 (Kd.R_reads' HO110.out).2.2 0 p111 q111; (try rw [← Nbq6.out] at hx111_1); (try rw [← Nbq16.out] at hx111_1); cases e111; have qi111 : (0 < t108.length) = True := eq_true (by omega); (try rw [show ((0 : Int)).toNat = 0 from rfl] at hx111_0); (try rw [show 0 * 5 = 0 from rfl] at hx111_0); (try rw [Addr.add_zero'] at hx111_0); (try rw [show ((0 : Int)).toNat = 0 from rfl] at hx111_1); (try rw [show 0 * 5 = 0 from rfl] at hx111_1); (try rw [Addr.add_zero'] at hx111_1); (try rw [show ((0 : Int)).toNat = 0 from rfl] at hx111_2); (try rw [show 0 * 5 = 0 from rfl] at hx111_2); (try rw [Addr.add_zero'] at hx111_2); (try rw [show ((0 : Int)).toNat = 0 from rfl] at hx111_3); (try rw [show 0 * 5 = 0 from rfl] at hx111_3); (try rw [Addr.add_zero'] at hx111_3); (try rw [show ((0 : Int)).toNat = 0 from rfl] at hx111_4); (try rw [show 0 * 5 = 0 from rfl] at hx111_4); (try rw [Addr.add_zero'] at hx111_4); replace p111 := eq_true p111; replace q111 := eq_true q111; have p112 : 0 ≤ (0 : Int) := (by omega); have q112 : 0 < (t108.length : Int) := of_decide_eq_true (by first | (with_reducible assumption) | assumption); obtain ⟨ad112, e112, hx112_0, hx112_1, hx112_2, hx112_3, hx112_4⟩ := at_T29 (Kd.R_reads' HO110.out).2.2 0 p112 q112; (try rw [← Nbq6.out] at hx112_1); (try rw [← Nbq16.out] at hx112_1); obtain rfl : ad111 = ad112 := (by injection e112); have qi112 : (0 < t108.length) = True := eq_true (by omega); (try rw [show ((0 : Int)).toNat = 0 from rfl] at hx112_0); (try rw [show 0 * 5 = 0 from rfl] at hx112_0); (try rw [Addr.add_zero'] at hx112_0); (try rw [show ((0 : Int)).toNat = 0 from rfl] at hx112_1); (try rw [show 0 * 5 = 0 from rfl] at hx112_1); (try rw [Addr.add_zero'] at hx112_1); (try rw [show ((0 : Int)).toNat = 0 from rfl] at hx112_2); (try rw [show 0 * 5 = 0 from rfl] at hx112_2); (try rw [Addr.add_zero'] at hx112_2); (try rw [show ((0 : Int)).toNat = 0 from rfl] at hx112_3); (try rw [show 0 * 5 = 0 from rfl] at hx112_3); (try rw [Addr.add_zero'] at hx112_3); (try rw [show ((0 : Int)).toNat = 0 from rfl] at hx112_4); (try rw [show 0 * 5 = 0 from rfl] at hx112_4); (try rw [Addr.add_zero'] at hx112_4); replace p112 := eq_true p112; replace q112 := eq_true q112; have p113 : 0 ≤ (1 : Int) := (by omega); have q113 : 1 < (t108.length : Int) := of_decide_eq_true (by first | (with_reducible assumption) | assumption); obtain ⟨ad113, e113, hx113_0, hx113_1, hx113_2, hx113_3, hx113_4⟩ := at_T29 (Kd.R_reads' HO110.out).2.2 1 p113 q113; (try rw [← Nbq6.out] at hx113_1); (try rw [← Nbq16.out] at hx113_1); obtain rfl : ad111 = ad113 := (by injection e113); (try simp only [show (1 : Int).toNat = 1 from rfl, Nat.reduceMul, Nat.reduceEqDiff, Go.Addr.add, ↓reduceIte] at hx113_0); (try simp only [show (1 : Int).toNat = 1 from rfl, Nat.reduceMul, Nat.reduceEqDiff, Go.Addr.add, ↓reduceIte] at hx113_1); (try simp only [show (1 : Int).toNat = 1 from rfl, Nat.reduceMul, Nat.reduceEqDiff, Go.Addr.add, ↓reduceIte] at hx113_2); (try simp only [show (1 : Int).toNat = 1 from rfl, Nat.reduceMul, Nat.reduceEqDiff, Go.Addr.add, ↓reduceIte] at hx113_3); (try simp only [show (1 : Int).toNat = 1 from rfl, Nat.reduceMul, Nat.reduceEqDiff, Go.Addr.add, ↓reduceIte] at hx113_4); have qi113 : (1 < t108.length) = True := eq_true (by omega); (try rw [show ((1 : Int)).toNat = 1 from rfl] at hx113_0); (try rw [show 1 * 5 = 5 from rfl] at hx113_0); (try rw [show ((1 : Int)).toNat = 1 from rfl] at hx113_1); (try rw [show 1 * 5 = 5 from rfl] at hx113_1); (try rw [show ((1 : Int)).toNat = 1 from rfl] at hx113_2); (try rw [show 1 * 5 = 5 from rfl] at hx113_2); (try rw [show ((1 : Int)).toNat = 1 from rfl] at hx113_3); (try rw [show 1 * 5 = 5 from rfl] at hx113_3); (try rw [show ((1 : Int)).toNat = 1 from rfl] at hx113_4); (try rw [show 1 * 5 = 5 from rfl] at hx113_4); replace p113 := eq_true p113; replace q113 := eq_true q113; have p114 : 0 ≤ (1 : Int) := (by omega); have q114 : 1 < (t108.length : Int) := of_decide_eq_true (by first | (with_reducible assumption) | assumption); obtain ⟨ad114, e114, hx114_0, hx114_1, hx114_2, hx114_3, hx114_4⟩ := at_T29 (Kd.R_reads' HO110.out).2.2 1 p114 q114; (try rw [← Nbq6.out] at hx114_1); (try rw [← Nbq16.out] at hx114_1); obtain rfl : ad111 = ad114 := (by injection e114); (try simp only [show (1 : Int).toNat = 1 from rfl, Nat.reduceMul, Nat.reduceEqDiff, Go.Addr.add, ↓reduceIte] at hx114_0); (try simp only [show (1 : Int).toNat = 1 from rfl, Nat.reduceMul, Nat.reduceEqDiff, Go.Addr.add, ↓reduceIte] at hx114_1); (try simp only [show (1 : Int).toNat = 1 from rfl, Nat.reduceMul, Nat.reduceEqDiff, Go.Addr.add, ↓reduceIte] at hx114_2); (try simp only [show (1 : Int).toNat = 1 from rfl, Nat.reduceMul, Nat.reduceEqDiff, Go.Addr.add, ↓reduceIte] at hx114_3); (try simp only [show (1 : Int).toNat = 1 from rfl, Nat.reduceMul, Nat.reduceEqDiff, Go.Addr.add, ↓reduceIte] at hx114_4); have qi114 : (1 < t108.length) = True := eq_true (by omega); (try rw [show ((1 : Int)).toNat = 1 from rfl] at hx114_0); (try rw [show 1 * 5 = 5 from rfl] at hx114_0); (try rw [show ((1 : Int)).toNat = 1 from rfl] at hx114_1); (try rw [show 1 * 5 = 5 from rfl] at hx114_1); (try rw [show ((1 : Int)).toNat = 1 from rfl] at hx114_2); (try rw [show 1 * 5 = 5 from rfl] at hx114_2); (try rw [show ((1 : Int)).toNat = 1 from rfl] at hx114_3); (try rw [show 1 * 5 = 5 from rfl] at hx114_3); (try rw [show ((1 : Int)).toNat = 1 from rfl] at hx114_4); (try rw [show 1 * 5 = 5 from rfl] at hx114_4); replace p114 := eq_true p114; replace q114 := eq_true q114))
                go_ret
                exact ⟨by first | rfl | (simp [errW_none, errW_some] <;> rfl) | (simp [*, errW_none, errW_some] <;> rfl), by repeat (first | (with_reducible first | exact HB.out | apply below_alloc | apply pw_below_drewN | apply below_drew1) | exact HB.out)⟩
            · rw [if_neg c15] at H
              have c15b0 : (((rd_T29 t108 1).f0) == 5) = false := beq_eq_false_iff_ne.mpr c15
              have c15b1 : (((rd_T29 t108 1).f0) != 5) = true := bne_iff_ne.mpr c15
              obtain rfl := Option.some.inj H
              go_enter Try.func6, Try.ntmps6
              go_wp2_with (first | ((with_reducible refine gate_callee (f := 20) rfl ?_); refine goesL_ (some 3) rfl rfl Try.func20 (by kernel_rfl) rfl #[.string (⟨#[117, 115, 101, 114, 58, 97, 110, 110]⟩ : ByteArray)] rfl (by (try simp only [List.map_toArray, List.map_cons, List.map_nil]); first | done | rfl | (simp only [List.length_drop, List.length_take]; rfl)) ?_; (with_reducible refine (porterlaw22_viewer.calls (⟨#[117, 115, 101, 114, 58, 97, 110, 110]⟩ : ByteArray) t102 t103 t104 _ A1.out).mono ?_); rintro e w59 ⟨rfl, hb⟩; refine ⟨_, rfl, ?_⟩; have n0_ := Aside0.mk (below_step (by repeat (first | (with_reducible first | exact HB.out | apply below_alloc | apply pw_below_drewN | apply below_drew1) | exact HB.out)) hb); clear HB; have HB := n0_; clear n0_; (try clear hb); (try clear hb2); (try clear hk); (try clear hi)) | ((with_reducible refine gate_dst (N := 5) rfl ?_); (try (refine gate_guard (by rfl) ?_; dsimp only)); refine Kd.R_lit k51 _ 51 ?hg (N := 5) ?hd (xs := ([(⟨(⟨t102, t103, t104⟩ : S25), 3, 5⟩ : S51)] : List (S51))) (inner := [.string t102, .string t103, .string t104, .int .i64 3, .int .i64 5]) (ok := fun _ => True) (okp := fun _ => True) ?hr ?hp (fun _ hk => hk) trivial (Below.refl _ _) (Nat.le_refl _) (by simp) ?_; (case hd => rfl); (case hg => rfl); (case hr => first | (go_simp; done) | (go_simp; rfl)); (case hp => exact (Reps.c5 (show Kd.M k51 _ _ _ (⟨(⟨t102, t103, t104⟩ : S25), 3, 5⟩ : S51) [.string t102, .string t103, .string t104, .int .i64 3, .int .i64 5] from (k51_mkM _ _ _ (⟨(⟨t102, t103, t104⟩ : S25), 3, 5⟩ : S51) )) (Reps.none _ _))); intro v106 w60 ho61 hb hg_ hnew_; clear hg_ hnew_; (first | rw [← Ny105.out] at ho61 | (simp only [Int.reduceToNat] at ho61; rw [← Ny105.out] at ho61)); have n0_ := Aside0.mk (Kd.R_lower ho61 (below_size (by repeat (first | (with_reducible first | exact HB.out | apply below_alloc | apply pw_below_drewN | apply below_drew1) | exact HB.out)))); have n1_ := Aside0.mk (below_step (by repeat (first | (with_reducible first | exact HB.out | apply below_alloc | apply pw_below_drewN | apply below_drew1) | exact HB.out)) hb); clear HB; have HO107 := n0_; have HB := n1_; clear n0_ n1_; clear hb ho61; obtain ⟨Ao62, co62, eo62⟩ := Kd.R_slice HO107.out; subst eo62) | ((with_reducible refine gate_callee (f := 8) rfl ?_); refine goesL_ (some 7) rfl rfl Try.func8 (by kernel_rfl) rfl #[.slice Ao62 y105.length co62, .int .i64 0, .int .i64 9] rfl (by (try simp only [List.map_toArray, List.map_cons, List.map_nil]); first | done | rfl | (simp only [List.length_drop, List.length_take]; rfl)) ?_; (with_reducible refine (watch_Changes.calls _ _ y105 0 9 t108 _ ?side1 ?side2 A2.out).mono ?_); (case side1 => repeat (first | exact (Kd.R_reads' HO107.out).2.2 | (with_reducible refine Kd.C_alloc ?_ _) | (with_reducible refine Kd.C_drewN ?_ _) | (with_reducible refine Kd.C_drew ?_))); (case side2 => exact (Kd.R_reads' HO107.out).2.1); rintro e w63 ⟨v109, rfl, ho0, hb⟩; refine ⟨_, rfl, ?_⟩; have n0_ := Aside0.mk (Kd.R_below (by (with_reducible repeat (first | apply Kd.R_alloc | apply Kd.R_drewN | apply Kd.R_drew)); exact HO107.out) hb); have n1_ := Aside0.mk (Kd.R_lower ho0 (below_size (by repeat (first | (with_reducible first | exact HB.out | apply below_alloc | apply pw_below_drewN | apply below_drew1) | exact HB.out)))); have n2_ := Aside0.mk (below_step (by repeat (first | (with_reducible first | exact HB.out | apply below_alloc | apply pw_below_drewN | apply below_drew1) | exact HB.out)) hb); clear HO107; clear HB; have HO107 := n0_; have HO110 := n1_; have HB := n2_; clear n0_ n1_ n2_; (try clear hb); (try clear hb2); (try clear hk); (try clear hi); (try clear ho0); obtain ⟨Ao64, co64, eo64⟩ := Kd.R_slice HO110.out; subst eo64; have p111 : 0 ≤ (0 : Int) := (by omega); have q111 : 0 < (t108.length : Int) := of_decide_eq_true (by first | (with_reducible assumption) | assumption); obtain ⟨ad111, e111, hx111_0, hx111_1, hx111_2, hx111_3, hx111_4⟩ := at_T29 (Kd.R_reads' HO110.out).2.2 0 p111 q111; (try rw [← Nbq6.out] at hx111_1); cases e111; have qi111 : (0 < t108.length) = True := eq_true (by omega); (try rw [show ((0 : Int)).toNat = 0 from rfl] at hx111_0); (try rw [show 0 * 5 = 0 from rfl] at hx111_0); (try rw [Addr.add_zero'] at hx111_0); (try rw [show ((0 : Int)).toNat = 0 from rfl] at hx111_1); (try rw [show 0 * 5 = 0 from rfl] at hx111_1); (try rw [Addr.add_zero'] at hx111_1); (try rw [show ((0 : Int)).toNat = 0 from rfl] at hx111_2); (try rw [show 0 * 5 = 0 from rfl] at hx111_2); (try rw [Addr.add_zero'] at hx111_2); (try rw [show ((0 : Int)).toNat = 0 from rfl] at hx111_3); (try rw [show 0 * 5 = 0 from rfl] at hx111_3); (try rw [Addr.add_zero'] at hx111_3); (try rw [show ((0 : Int)).toNat = 0 from rfl] at hx111_4); (try rw [show 0 * 5 = 0 from rfl] at hx111_4); (try rw [Addr.add_zero'] at hx111_4); replace p111 := eq_true p111; replace q111 := eq_true q111; have p112 : 0 ≤ (0 : Int) := (by omega); have q112 : 0 < (t108.length : Int) := of_decide_eq_true (by first | (with_reducible assumption) | assumption); obtain ⟨ad112, e112, hx112_0, hx112_1, hx112_2, hx112_3, hx112_4⟩ := at_T29 (Kd.R_reads' HO110.out).2.2 0 p112 q112; (try rw [← Nbq6.out] at hx112_1); obtain rfl : ad111 = ad112 := (by injection e112); have qi112 : (0 < t108.length) = True := eq_true (by omega); (try rw [show ((0 : Int)).toNat = 0 from rfl] at hx112_0); (try rw [show 0 * 5 = 0 from rfl] at hx112_0); (try rw [Addr.add_zero'] at hx112_0); (try rw [show ((0 : Int)).toNat = 0 from rfl] at hx112_1); (try rw [show 0 * 5 = 0 from rfl] at hx112_1); (try rw [Addr.add_zero'] at hx112_1); (try rw [show ((0 : Int)).toNat = 0 from rfl] at hx112_2); (try rw [show 0 * 5 = 0 from rfl] at hx112_2); (try rw [Addr.add_zero'] at hx112_2); (try rw [show ((0 : Int)).toNat = 0 from rfl] at hx112_3); (try rw [show 0 * 5 = 0 from rfl] at hx112_3); (try rw [Addr.add_zero'] at hx112_3); (try rw [show ((0 : Int)).toNat = 0 from rfl] at hx112_4); (try rw [show 0 * 5 = 0 from rfl] at hx112_4); (try rw [Addr.add_zero'] at hx112_4); replace p112 := eq_true p112; replace q112 := eq_true q112; have p113 : 0 ≤ (1 : Int) := (by omega); have q113 : 1 < (t108.length : Int) := of_decide_eq_true (by first | (with_reducible assumption) | assumption); obtain ⟨ad113, e113, hx113_0, hx113_1, hx113_2, hx113_3, hx113_4⟩ := at_T29 (Kd.R_reads' HO110.out).2.2 1 p113 q113; (try rw [← Nbq6.out] at hx113_1); obtain rfl : ad111 = ad113 := (by injection e113); (try simp only [show (1 : Int).toNat = 1 from rfl, Nat.reduceMul, Nat.reduceEqDiff, Go.Addr.add, ↓reduceIte] at hx113_0); (try simp only [show (1 : Int).toNat = 1 from rfl, Nat.reduceMul, Nat.reduceEqDiff, Go.Addr.add, ↓reduceIte] at hx113_1); (try simp only [show (1 : Int).toNat = 1 from rfl, Nat.reduceMul, Nat.reduceEqDiff, Go.Addr.add, ↓reduceIte] at hx113_2); (try simp only [show (1 : Int).toNat = 1 from rfl, Nat.reduceMul, Nat.reduceEqDiff, Go.Addr.add, ↓reduceIte] at hx113_3); (try simp only [show (1 : Int).toNat = 1 from rfl, Nat.reduceMul, Nat.reduceEqDiff, Go.Addr.add, ↓reduceIte] at hx113_4); have qi113 : (1 < t108.length) = True := eq_true (by omega); (try rw [show ((1 : Int)).toNat = 1 from rfl] at hx113_0); (try rw [show 1 * 5 = 5 from rfl] at hx113_0); (try rw [show ((1 : Int)).toNat = 1 from rfl] at hx113_1); (try rw [show 1 * 5 = 5 from rfl] at hx113_1); (try rw [show ((1 : Int)).toNat = 1 from rfl] at hx113_2); (try rw [show 1 * 5 = 5 from rfl] at hx113_2); (try rw [show ((1 : Int)).toNat = 1 from rfl] at hx113_3); (try rw [show 1 * 5 = 5 from rfl] at hx113_3); (try rw [show ((1 : Int)).toNat = 1 from rfl] at hx113_4); (try rw [show 1 * 5 = 5 from rfl] at hx113_4); replace p113 := eq_true p113; replace q113 := eq_true q113))
              go_ret
              exact ⟨by first | rfl | (simp [errW_none, errW_some] <;> rfl) | (simp [*, errW_none, errW_some] <;> rfl), by repeat (first | (with_reducible first | exact HB.out | apply below_alloc | apply pw_below_drewN | apply below_drew1) | exact HB.out)⟩
          · rw [if_neg c14] at H
            exact absurd H (by simp)
      · rw [if_neg c5] at H
        have c5b0 : (((rd_T29 t108 0).f0) == 3) = false := beq_eq_false_iff_ne.mpr c5
        have c5b1 : (((rd_T29 t108 0).f0) != 3) = true := bne_iff_ne.mpr c5
        obtain rfl := Option.some.inj H
        go_enter Try.func6, Try.ntmps6
        go_wp2_with (first | ((with_reducible refine gate_callee (f := 20) rfl ?_); refine goesL_ (some 3) rfl rfl Try.func20 (by kernel_rfl) rfl #[.string (⟨#[117, 115, 101, 114, 58, 97, 110, 110]⟩ : ByteArray)] rfl (by (try simp only [List.map_toArray, List.map_cons, List.map_nil]); first | done | rfl | (simp only [List.length_drop, List.length_take]; rfl)) ?_; (with_reducible refine (porterlaw22_viewer.calls (⟨#[117, 115, 101, 114, 58, 97, 110, 110]⟩ : ByteArray) t102 t103 t104 _ A1.out).mono ?_); rintro e w65 ⟨rfl, hb⟩; refine ⟨_, rfl, ?_⟩; have n0_ := Aside0.mk (below_step (by repeat (first | (with_reducible first | exact HB.out | apply below_alloc | apply pw_below_drewN | apply below_drew1) | exact HB.out)) hb); clear HB; have HB := n0_; clear n0_; (try clear hb); (try clear hb2); (try clear hk); (try clear hi)) | ((with_reducible refine gate_dst (N := 5) rfl ?_); (try (refine gate_guard (by rfl) ?_; dsimp only)); refine Kd.R_lit k51 _ 51 ?hg (N := 5) ?hd (xs := ([(⟨(⟨t102, t103, t104⟩ : S25), 3, 5⟩ : S51)] : List (S51))) (inner := [.string t102, .string t103, .string t104, .int .i64 3, .int .i64 5]) (ok := fun _ => True) (okp := fun _ => True) ?hr ?hp (fun _ hk => hk) trivial (Below.refl _ _) (Nat.le_refl _) (by simp) ?_; (case hd => rfl); (case hg => rfl); (case hr => first | (go_simp; done) | (go_simp; rfl)); (case hp => exact (Reps.c5 (show Kd.M k51 _ _ _ (⟨(⟨t102, t103, t104⟩ : S25), 3, 5⟩ : S51) [.string t102, .string t103, .string t104, .int .i64 3, .int .i64 5] from (k51_mkM _ _ _ (⟨(⟨t102, t103, t104⟩ : S25), 3, 5⟩ : S51) )) (Reps.none _ _))); intro v106 w66 ho67 hb hg_ hnew_; clear hg_ hnew_; (first | rw [← Ny105.out] at ho67 | (simp only [Int.reduceToNat] at ho67; rw [← Ny105.out] at ho67)); have n0_ := Aside0.mk (Kd.R_lower ho67 (below_size (by repeat (first | (with_reducible first | exact HB.out | apply below_alloc | apply pw_below_drewN | apply below_drew1) | exact HB.out)))); have n1_ := Aside0.mk (below_step (by repeat (first | (with_reducible first | exact HB.out | apply below_alloc | apply pw_below_drewN | apply below_drew1) | exact HB.out)) hb); clear HB; have HO107 := n0_; have HB := n1_; clear n0_ n1_; clear hb ho67; obtain ⟨Ao68, co68, eo68⟩ := Kd.R_slice HO107.out; subst eo68) | ((with_reducible refine gate_callee (f := 8) rfl ?_); refine goesL_ (some 7) rfl rfl Try.func8 (by kernel_rfl) rfl #[.slice Ao68 y105.length co68, .int .i64 0, .int .i64 9] rfl (by (try simp only [List.map_toArray, List.map_cons, List.map_nil]); first | done | rfl | (simp only [List.length_drop, List.length_take]; rfl)) ?_; (with_reducible refine (watch_Changes.calls _ _ y105 0 9 t108 _ ?side1 ?side2 A2.out).mono ?_); (case side1 => repeat (first | exact (Kd.R_reads' HO107.out).2.2 | (with_reducible refine Kd.C_alloc ?_ _) | (with_reducible refine Kd.C_drewN ?_ _) | (with_reducible refine Kd.C_drew ?_))); (case side2 => exact (Kd.R_reads' HO107.out).2.1); rintro e w69 ⟨v109, rfl, ho0, hb⟩; refine ⟨_, rfl, ?_⟩; have n0_ := Aside0.mk (Kd.R_below (by (with_reducible repeat (first | apply Kd.R_alloc | apply Kd.R_drewN | apply Kd.R_drew)); exact HO107.out) hb); have n1_ := Aside0.mk (Kd.R_lower ho0 (below_size (by repeat (first | (with_reducible first | exact HB.out | apply below_alloc | apply pw_below_drewN | apply below_drew1) | exact HB.out)))); have n2_ := Aside0.mk (below_step (by repeat (first | (with_reducible first | exact HB.out | apply below_alloc | apply pw_below_drewN | apply below_drew1) | exact HB.out)) hb); clear HO107; clear HB; have HO107 := n0_; have HO110 := n1_; have HB := n2_; clear n0_ n1_ n2_; (try clear hb); (try clear hb2); (try clear hk); (try clear hi); (try clear ho0); obtain ⟨Ao70, co70, eo70⟩ := Kd.R_slice HO110.out; subst eo70; have p111 : 0 ≤ (0 : Int) := (by omega); have q111 : 0 < (t108.length : Int) := of_decide_eq_true (by first | (with_reducible assumption) | assumption); obtain ⟨ad111, e111, hx111_0, hx111_1, hx111_2, hx111_3, hx111_4⟩ := at_T29 (Kd.R_reads' HO110.out).2.2 0 p111 q111; cases e111; have qi111 : (0 < t108.length) = True := eq_true (by omega); (try rw [show ((0 : Int)).toNat = 0 from rfl] at hx111_0); (try rw [show 0 * 5 = 0 from rfl] at hx111_0); (try rw [Addr.add_zero'] at hx111_0); (try rw [show ((0 : Int)).toNat = 0 from rfl] at hx111_1); (try rw [show 0 * 5 = 0 from rfl] at hx111_1); (try rw [Addr.add_zero'] at hx111_1); (try rw [show ((0 : Int)).toNat = 0 from rfl] at hx111_2); (try rw [show 0 * 5 = 0 from rfl] at hx111_2); (try rw [Addr.add_zero'] at hx111_2); (try rw [show ((0 : Int)).toNat = 0 from rfl] at hx111_3); (try rw [show 0 * 5 = 0 from rfl] at hx111_3); (try rw [Addr.add_zero'] at hx111_3); (try rw [show ((0 : Int)).toNat = 0 from rfl] at hx111_4); (try rw [show 0 * 5 = 0 from rfl] at hx111_4); (try rw [Addr.add_zero'] at hx111_4); replace p111 := eq_true p111; replace q111 := eq_true q111))
        go_ret
        exact ⟨by first | rfl | (simp [errW_none, errW_some] <;> rfl) | (simp [*, errW_none, errW_some] <;> rfl), by repeat (first | (with_reducible first | exact HB.out | apply below_alloc | apply pw_below_drewN | apply below_drew1) | exact HB.out)⟩
    · rw [if_neg c4] at H
      exact absurd H (by simp)
  · rw [if_neg c3] at H
    have c3b0 : ((t108.length : Int) == 2) = false := beq_eq_false_iff_ne.mpr c3
    have c3b1 : ((t108.length : Int) != 2) = true := bne_iff_ne.mpr c3
    obtain rfl := Option.some.inj H
    go_enter Try.func6, Try.ntmps6
    go_wp2_with (first | ((with_reducible refine gate_callee (f := 20) rfl ?_); refine goesL_ (some 3) rfl rfl Try.func20 (by kernel_rfl) rfl #[.string (⟨#[117, 115, 101, 114, 58, 97, 110, 110]⟩ : ByteArray)] rfl (by (try simp only [List.map_toArray, List.map_cons, List.map_nil]); first | done | rfl | (simp only [List.length_drop, List.length_take]; rfl)) ?_; (with_reducible refine (porterlaw22_viewer.calls (⟨#[117, 115, 101, 114, 58, 97, 110, 110]⟩ : ByteArray) t102 t103 t104 _ A1.out).mono ?_); rintro e w71 ⟨rfl, hb⟩; refine ⟨_, rfl, ?_⟩; have n0_ := Aside0.mk (below_step (by repeat (first | (with_reducible first | exact HB.out | apply below_alloc | apply pw_below_drewN | apply below_drew1) | exact HB.out)) hb); clear HB; have HB := n0_; clear n0_; (try clear hb); (try clear hb2); (try clear hk); (try clear hi)) | ((with_reducible refine gate_dst (N := 5) rfl ?_); (try (refine gate_guard (by rfl) ?_; dsimp only)); refine Kd.R_lit k51 _ 51 ?hg (N := 5) ?hd (xs := ([(⟨(⟨t102, t103, t104⟩ : S25), 3, 5⟩ : S51)] : List (S51))) (inner := [.string t102, .string t103, .string t104, .int .i64 3, .int .i64 5]) (ok := fun _ => True) (okp := fun _ => True) ?hr ?hp (fun _ hk => hk) trivial (Below.refl _ _) (Nat.le_refl _) (by simp) ?_; (case hd => rfl); (case hg => rfl); (case hr => first | (go_simp; done) | (go_simp; rfl)); (case hp => exact (Reps.c5 (show Kd.M k51 _ _ _ (⟨(⟨t102, t103, t104⟩ : S25), 3, 5⟩ : S51) [.string t102, .string t103, .string t104, .int .i64 3, .int .i64 5] from (k51_mkM _ _ _ (⟨(⟨t102, t103, t104⟩ : S25), 3, 5⟩ : S51) )) (Reps.none _ _))); intro v106 w72 ho73 hb hg_ hnew_; clear hg_ hnew_; (first | rw [← Ny105.out] at ho73 | (simp only [Int.reduceToNat] at ho73; rw [← Ny105.out] at ho73)); have n0_ := Aside0.mk (Kd.R_lower ho73 (below_size (by repeat (first | (with_reducible first | exact HB.out | apply below_alloc | apply pw_below_drewN | apply below_drew1) | exact HB.out)))); have n1_ := Aside0.mk (below_step (by repeat (first | (with_reducible first | exact HB.out | apply below_alloc | apply pw_below_drewN | apply below_drew1) | exact HB.out)) hb); clear HB; have HO107 := n0_; have HB := n1_; clear n0_ n1_; clear hb ho73; obtain ⟨Ao74, co74, eo74⟩ := Kd.R_slice HO107.out; subst eo74) | ((with_reducible refine gate_callee (f := 8) rfl ?_); refine goesL_ (some 7) rfl rfl Try.func8 (by kernel_rfl) rfl #[.slice Ao74 y105.length co74, .int .i64 0, .int .i64 9] rfl (by (try simp only [List.map_toArray, List.map_cons, List.map_nil]); first | done | rfl | (simp only [List.length_drop, List.length_take]; rfl)) ?_; (with_reducible refine (watch_Changes.calls _ _ y105 0 9 t108 _ ?side1 ?side2 A2.out).mono ?_); (case side1 => repeat (first | exact (Kd.R_reads' HO107.out).2.2 | (with_reducible refine Kd.C_alloc ?_ _) | (with_reducible refine Kd.C_drewN ?_ _) | (with_reducible refine Kd.C_drew ?_))); (case side2 => exact (Kd.R_reads' HO107.out).2.1); rintro e w75 ⟨v109, rfl, ho0, hb⟩; refine ⟨_, rfl, ?_⟩; have n0_ := Aside0.mk (Kd.R_below (by (with_reducible repeat (first | apply Kd.R_alloc | apply Kd.R_drewN | apply Kd.R_drew)); exact HO107.out) hb); have n1_ := Aside0.mk (Kd.R_lower ho0 (below_size (by repeat (first | (with_reducible first | exact HB.out | apply below_alloc | apply pw_below_drewN | apply below_drew1) | exact HB.out)))); have n2_ := Aside0.mk (below_step (by repeat (first | (with_reducible first | exact HB.out | apply below_alloc | apply pw_below_drewN | apply below_drew1) | exact HB.out)) hb); clear HO107; clear HB; have HO107 := n0_; have HO110 := n1_; have HB := n2_; clear n0_ n1_ n2_; (try clear hb); (try clear hb2); (try clear hk); (try clear hi); (try clear ho0); obtain ⟨Ao76, co76, eo76⟩ := Kd.R_slice HO110.out; subst eo76))
    go_ret
    exact ⟨by first | rfl | (simp [errW_none, errW_some] <;> rfl) | (simp [*, errW_none, errW_some] <;> rfl), by repeat (first | (with_reducible first | exact HB.out | apply below_alloc | apply pw_below_drewN | apply below_drew1) | exact HB.out)⟩

/-! ### porterlaw22_tuples: function 9 -/
def porterlaw22_tuples.l0 : Nat → List (S25) → List (S25) → Int → Int → Option (Bool)
  | 0, _, _, _, _ => none
  | k + 1, x0, x1, x12, x13 => if x13 < x12 then (if 0 ≤ x13 then (if x13 < (x0.length : Int) then (if x13 < (x1.length : Int) then (if (!((((rd_T25 x0 x13).f0).toList) == (((rd_T25 x1 x13).f0).toList)) || (!((((rd_T25 x0 x13).f1).toList) == (((rd_T25 x1 x13).f1).toList)) || (!((((rd_T25 x0 x13).f2).toList) == (((rd_T25 x1 x13).f2).toList))))) = true then (some false) else (porterlaw22_tuples.l0 k x0 x1 x12 (wrap64 (x13 + 1)))) else (none)) else (none)) else (none)) else (some true)
def porterlaw22_tuples.f (k : Nat) (l0 : List (S25)) (l1 : List (S25)) : Option (Bool) := if (l0.length : Int) = (l1.length : Int) then (porterlaw22_tuples.l0 k l0 l1 (l0.length : Int) 0) else (some false)
theorem porterlaw22_tuples.mono_l : ∀ k, (∀ y0 y1 y2 y3, LeO (porterlaw22_tuples.l0 k y0 y1 y2 y3) (porterlaw22_tuples.l0 (k + 1) y0 y1 y2 y3))
  | 0 => fun _ _ _ _ r h => by simp [porterlaw22_tuples.l0] at h
  | k + 1 => by
    have ih0 := porterlaw22_tuples.mono_l k
    · intro y0 y1 y2 y3
      unfold porterlaw22_tuples.l0
      repeat' first
      | (with_reducible exact ih0 _ _ _ _)
      | (with_reducible exact LeO.refl _)
      | (with_reducible exact LeO.none _)
      | (with_reducible refine LeO.ite ?_ ?_)
      | (with_reducible refine LeO.bind ?_ (fun _ => ?_))
      | exact ih0 _ _ _ _
      | exact LeO.none _
      | refine LeO.ite ?_ ?_
      | refine LeO.bind ?_ (fun _ => ?_)
theorem porterlaw22_tuples.mono : ∀ a0 a1 k, LeO (porterlaw22_tuples.f k a0 a1) (porterlaw22_tuples.f (k + 1) a0 a1) := by
  intro a0 a1 k
  have ih0 := porterlaw22_tuples.mono_l k
  unfold porterlaw22_tuples.f
  repeat' first
      | (with_reducible exact ih0 _ _ _ _)
      | (with_reducible exact LeO.refl _)
      | (with_reducible exact LeO.none _)
      | (with_reducible refine LeO.ite ?_ ?_)
      | (with_reducible refine LeO.bind ?_ (fun _ => ?_))
      | exact ih0 _ _ _ _
      | exact LeO.none _
      | refine LeO.ite ?_ ?_
      | refine LeO.bind ?_ (fun _ => ?_)
set_option maxHeartbeats 8000000 in
set_option maxRecDepth 100000 in
theorem porterlaw22_tuples.calls (k : Nat) (A0 : Option Addr) (c0 : Nat) (l0 : List (S25)) (A1 : Option Addr) (c1 : Nat) (l1 : List (S25)) (r : Bool) (w : World) (hr0 : Kd.C k25 w A0 l0.length l0) (hc0 : l0.length ≤ c0) (hr1 : Kd.C k25 w A1 l1.length l1) (hc1 : l1.length ≤ c1) (h : porterlaw22_tuples.f k l0 l1 = some r) :
    Calls Try.prog 9 #[.slice A0 l0.length c0, .slice A1 l1.length c1] w fun e w' => e = .returned (.bool r) ∧ Drawn0 w w' := by
  have hu25 := Try.underlying25
  have HR0 := Aside0.mk hr0
  have HC0 := Aside0.mk hc0
  clear hr0 hc0
  have HR1 := Aside0.mk hr1
  have HC1 := Aside0.mk hc1
  clear hr1 hc1
  have H : (if (l0.length : Int) = (l1.length : Int) then (porterlaw22_tuples.l0 k l0 l1 (l0.length : Int) 0) else (some false)) = some r := h
  clear h
  by_cases c3 : (l0.length : Int) = (l1.length : Int)
  · rw [if_pos c3] at H
    have c3b0 : ((l0.length : Int) == (l1.length : Int)) = true := beq_iff_eq.mpr c3
    have c3b1 : ((l0.length : Int) != (l1.length : Int)) = false := bne_eq_false_iff_eq.mpr c3
    have c3b2 : (l0.length == l1.length) = true := by first | simpa using c3 | (simp at c3 ⊢; omega)
    clear c3
    have H' := Aside0.mk H
    clear H
    go_enter Try.func9, Try.ntmps9
    go_wp2
    repeat (go_quiet (fail); try go_wp2)
    go_loopg [13] k (fun kq v13 w' => ∃ (x13_1 : Int), v13 = .int .i64 x13_1 ∧ Aside0 (porterlaw22_tuples.l0 kq l0 l1 (l0.length : Int) x13_1 = some r) ∧ Aside0 (kq ≤ k) ∧ Drawn0 w w')
    case atStart => exact ⟨(0), (by first | rfl | (simp; done) | (simp [*]; done)), H', ⟨Nat.le_refl _⟩, by repeat (first | exact Drawn0.refl _ | apply Drawn0.step)⟩
    case round =>
      clear H'
      try clear c1
      try clear p2
      try clear c3
      try clear c3b0
      try clear c3b1
      try clear c3b2
      obtain ⟨x13_1, rfl, HA, HK1, ⟨m1, rfl⟩⟩ := hrel
      cases gk with
      | zero => exact absurd HA.out (by simp [porterlaw22_tuples.l0])
      | succ k1 =>
        have H := HA.out
        clear HA
        simp only [porterlaw22_tuples.l0] at H
        by_cases c4 : x13_1 < (l0.length : Int)
        · rw [if_pos c4] at H
          have c4b0 : decide (x13_1 < (l0.length : Int)) = true := decide_eq_true c4
          clear c4
          by_cases c5 : 0 ≤ x13_1
          · rw [if_pos c5] at H
            have c5b0 : decide (0 ≤ x13_1) = true := decide_eq_true c5
            clear c5
            by_cases c6 : x13_1 < (l0.length : Int)
            · rw [if_pos c6] at H
              have c6b0 : decide (x13_1 < (l0.length : Int)) = true := decide_eq_true c6
              clear c6
              by_cases c7 : x13_1 < (l1.length : Int)
              · rw [if_pos c7] at H
                have c7b0 : decide (x13_1 < (l1.length : Int)) = true := decide_eq_true c7
                clear c7
                by_cases c8 : (!((((rd_T25 l0 x13_1).f0).toList) == (((rd_T25 l1 x13_1).f0).toList)) || (!((((rd_T25 l0 x13_1).f1).toList) == (((rd_T25 l1 x13_1).f1).toList)) || (!((((rd_T25 l0 x13_1).f2).toList) == (((rd_T25 l1 x13_1).f2).toList))))) = true
                · rw [if_pos c8] at H
                  have c8b0 : (!((((rd_T25 l0 x13_1).f0).toList) == (((rd_T25 l1 x13_1).f0).toList)) || (!((((rd_T25 l0 x13_1).f1).toList) == (((rd_T25 l1 x13_1).f1).toList)) || (!((((rd_T25 l0 x13_1).f2).toList) == (((rd_T25 l1 x13_1).f2).toList))))) = true := c8
                  clear c8
                  obtain rfl := Option.some.inj H
                  have p124 : 0 ≤ (x13_1 : Int) := of_decide_eq_true (by first | (with_reducible assumption) | assumption)
                  have q124 : x13_1 < (l0.length : Int) := of_decide_eq_true (by first | (with_reducible assumption) | assumption)
                  obtain ⟨ad124, e124, hx124_0, hx124_1, hx124_2⟩ := at_T25 HR0.out x13_1 p124 q124
                  cases e124
                  replace p124 := eq_true p124
                  replace q124 := eq_true q124
                  have p125 : 0 ≤ (x13_1 : Int) := of_decide_eq_true (by first | (with_reducible assumption) | assumption)
                  have q125 : x13_1 < (l1.length : Int) := of_decide_eq_true (by first | (with_reducible assumption) | assumption)
                  obtain ⟨ad125, e125, hx125_0, hx125_1, hx125_2⟩ := at_T25 HR1.out x13_1 p125 q125
                  cases e125
                  replace p125 := eq_true p125
                  replace q125 := eq_true q125
                  go_wp2
                  repeat (go_quiet (fail); try go_wp2)
                  go_ret
                  exact ⟨by first | rfl | (simp; done) | (simp [*]; done), by repeat (first | exact Drawn0.refl _ | apply Drawn0.step)⟩
                · rw [if_neg c8] at H
                  have c8b0 : (!((((rd_T25 l0 x13_1).f0).toList) == (((rd_T25 l1 x13_1).f0).toList)) || (!((((rd_T25 l0 x13_1).f1).toList) == (((rd_T25 l1 x13_1).f1).toList)) || (!((((rd_T25 l0 x13_1).f2).toList) == (((rd_T25 l1 x13_1).f2).toList))))) = false := by simpa using c8
                  clear c8
                  have H' := Aside0.mk H
                  clear H
                  have p124 : 0 ≤ (x13_1 : Int) := of_decide_eq_true (by first | (with_reducible assumption) | assumption)
                  have q124 : x13_1 < (l0.length : Int) := of_decide_eq_true (by first | (with_reducible assumption) | assumption)
                  obtain ⟨ad124, e124, hx124_0, hx124_1, hx124_2⟩ := at_T25 HR0.out x13_1 p124 q124
                  cases e124
                  replace p124 := eq_true p124
                  replace q124 := eq_true q124
                  have p125 : 0 ≤ (x13_1 : Int) := of_decide_eq_true (by first | (with_reducible assumption) | assumption)
                  have q125 : x13_1 < (l1.length : Int) := of_decide_eq_true (by first | (with_reducible assumption) | assumption)
                  obtain ⟨ad125, e125, hx125_0, hx125_1, hx125_2⟩ := at_T25 HR1.out x13_1 p125 q125
                  cases e125
                  replace p125 := eq_true p125
                  replace q125 := eq_true q125
                  go_wp2
                  repeat (go_quiet (fail); try go_wp2)
                  go_roundg k1
                  case measure => have := HK1.out; omega
                  case rel => exact ⟨(wrap64 (x13_1 + 1)), (by first | rfl | (simp; done) | (simp [*]; done)), H', ⟨by have := HK1.out; omega⟩, by repeat (first | exact Drawn0.refl _ | apply Drawn0.step)⟩
              · rw [if_neg c7] at H
                exact absurd H (by simp)
            · rw [if_neg c6] at H
              exact absurd H (by simp)
          · rw [if_neg c5] at H
            exact absurd H (by simp)
        · rw [if_neg c4] at H
          have c4b0 : decide (x13_1 < (l0.length : Int)) = false := decide_eq_false c4
          clear c4
          obtain rfl := Option.some.inj H
          go_wp2
          repeat (go_quiet (fail); try go_wp2)
          go_ret
          exact ⟨by first | rfl | (simp; done) | (simp [*]; done), by repeat (first | exact Drawn0.refl _ | apply Drawn0.step)⟩
  · rw [if_neg c3] at H
    have c3b0 : ((l0.length : Int) == (l1.length : Int)) = false := beq_eq_false_iff_ne.mpr c3
    have c3b1 : ((l0.length : Int) != (l1.length : Int)) = true := bne_iff_ne.mpr c3
    have c3b2 : (l0.length == l1.length) = false := by first | simpa using c3 | (simp at c3 ⊢; omega)
    obtain rfl := Option.some.inj H
    go_enter Try.func9, Try.ntmps9
    go_wp2
    repeat (go_quiet (fail); try go_wp2)
    go_ret
    exact ⟨by first | rfl | (simp; done) | (simp [*]; done), by repeat (first | exact Drawn0.refl _ | apply Drawn0.step)⟩

-- told from outside: function 10 (watch_Play)

-- told from outside: function 16 (watch_Net)

/-! ### porterlaw22_WatchEmpty: function 5 -/
def porterlaw22_WatchEmpty.j0 : Nat → List (S51) → Int → Bool → Option (Bool)
  | 0, _, _, _ => none
  | k + 1, x0, x1, x28 => if x28 = true then (some false) else ((watch_At.f x0 x1).bind fun t133 => ((watch_Play.f t133 ([] : List (S29))).bind fun t136 => ((porterlaw22_tuples.f k t136 t133).bind fun t139 => (if t139 = true then ((watch_Net.f t133 t133).bind fun t140 => (if (t140.length : Int) = 0 then ((watch_Back.f ([] : List (S29))).bind fun t143 => (if (t143.length : Int) = 0 then ((watch_Rows.f ([] : List (S29))).bind fun t146 => (some ((t146.length : Int) == 0))) else (some false))) else (some false))) else (some false)))))
def porterlaw22_WatchEmpty.f (k : Nat) (l0 : List (S51)) (a1 : Int) (a2 : Int) : Option (Bool) := (porterlaw22_awake.f).bind fun t126 => (if t126 = true then ((watch_Changes.f l0 a1 a1).bind fun t127 => (if (t127.length : Int) = 0 then (if a1 ≥ a2 then ((watch_Changes.f l0 a1 a2).bind fun t130 => (porterlaw22_WatchEmpty.j0 k l0 a1 ((t130.length : Int) != 0))) else (porterlaw22_WatchEmpty.j0 k l0 a1 false)) else (porterlaw22_WatchEmpty.j0 k l0 a1 true))) else (some false))
theorem porterlaw22_WatchEmpty.mono_l : ∀ k, (∀ y0 y1 y2, LeO (porterlaw22_WatchEmpty.j0 k y0 y1 y2) (porterlaw22_WatchEmpty.j0 (k + 1) y0 y1 y2))
  | 0 => fun _ _ _ r h => by simp [porterlaw22_WatchEmpty.j0] at h
  | k + 1 => by
    have ih0 := porterlaw22_WatchEmpty.mono_l k
    · intro y0 y1 y2
      unfold porterlaw22_WatchEmpty.j0
      repeat' first
      | (with_reducible exact ih0 _ _ _)
      | (with_reducible exact porterlaw22_tuples.mono _ _ _)
      | (with_reducible exact LeO.refl _)
      | (with_reducible exact LeO.none _)
      | (with_reducible refine LeO.ite ?_ ?_)
      | (with_reducible refine LeO.bind ?_ (fun _ => ?_))
      | exact ih0 _ _ _
      | exact porterlaw22_tuples.mono _ _ _
      | exact LeO.none _
      | refine LeO.ite ?_ ?_
      | refine LeO.bind ?_ (fun _ => ?_)
theorem porterlaw22_WatchEmpty.mono : ∀ a0 a1 a2 k, LeO (porterlaw22_WatchEmpty.f k a0 a1 a2) (porterlaw22_WatchEmpty.f (k + 1) a0 a1 a2) := by
  intro a0 a1 a2 k
  have ih0 := porterlaw22_WatchEmpty.mono_l k
  unfold porterlaw22_WatchEmpty.f
  repeat' first
      | (with_reducible exact ih0 _ _ _)
      | (with_reducible exact porterlaw22_tuples.mono _ _ _)
      | (with_reducible exact LeO.refl _)
      | (with_reducible exact LeO.none _)
      | (with_reducible refine LeO.ite ?_ ?_)
      | (with_reducible refine LeO.bind ?_ (fun _ => ?_))
      | exact ih0 _ _ _
      | exact porterlaw22_tuples.mono _ _ _
      | exact LeO.none _
      | refine LeO.ite ?_ ?_
      | refine LeO.bind ?_ (fun _ => ?_)
set_option maxHeartbeats 8000000 in
set_option maxRecDepth 100000 in
theorem porterlaw22_WatchEmpty.calls (k : Nat) (A0 : Option Addr) (c0 : Nat) (l0 : List (S51)) (a1 : Int) (a2 : Int) (r : Bool) (w : World) (hr0 : Kd.C k51 w A0 l0.length l0) (hc0 : l0.length ≤ c0) (h : porterlaw22_WatchEmpty.f k l0 a1 a2 = some r) :
    Calls Try.prog 5 #[.slice A0 l0.length c0, .int .i64 a1, .int .i64 a2] w fun e w' => e = .returned (.bool r) ∧ Below w.heap.size w w' := by
  have HR0 := Aside0.mk hr0
  have HC0 := Aside0.mk hc0
  clear hr0 hc0
  have HB := Aside0.mk (Below.refl w.heap.size w)
  have H : ((porterlaw22_awake.f).bind fun t126 => (if t126 = true then ((watch_Changes.f l0 a1 a1).bind fun t127 => (if (t127.length : Int) = 0 then (if a1 ≥ a2 then ((watch_Changes.f l0 a1 a2).bind fun t130 => (porterlaw22_WatchEmpty.j0 k l0 a1 ((t130.length : Int) != 0))) else (porterlaw22_WatchEmpty.j0 k l0 a1 false)) else (porterlaw22_WatchEmpty.j0 k l0 a1 true))) else (some false))) = some r := h
  clear h
  replace H := Option.bind_eq_some_iff.mp H
  obtain ⟨t126, A40, H⟩ := H
  replace H : (if t126 = true then ((watch_Changes.f l0 a1 a1).bind fun t127 => (if (t127.length : Int) = 0 then (if a1 ≥ a2 then ((watch_Changes.f l0 a1 a2).bind fun t130 => (porterlaw22_WatchEmpty.j0 k l0 a1 ((t130.length : Int) != 0))) else (porterlaw22_WatchEmpty.j0 k l0 a1 false)) else (porterlaw22_WatchEmpty.j0 k l0 a1 true))) else (some false)) = some r := H
  have A4 := Aside0.mk A40
  clear A40
  by_cases c5 : t126 = true
  · subst c5
    have H1 : ((watch_Changes.f l0 a1 a1).bind fun t127 => (if (t127.length : Int) = 0 then (if a1 ≥ a2 then ((watch_Changes.f l0 a1 a2).bind fun t130 => (porterlaw22_WatchEmpty.j0 k l0 a1 ((t130.length : Int) != 0))) else (porterlaw22_WatchEmpty.j0 k l0 a1 false)) else (porterlaw22_WatchEmpty.j0 k l0 a1 true))) = some r := by rw [if_pos rfl] at H; exact H
    clear H
    have H := H1
    clear H1
    have HC6 := Aside0.mk H
    clear H
    go_enter Try.func5, Try.ntmps5
    go_upto_region 3 with (first | ((with_reducible refine gate_callee (f := 6) rfl ?_); refine goesL_ (some 8) rfl rfl Try.func6 (by kernel_rfl) rfl #[] rfl (by (try simp only [List.map_toArray, List.map_cons, List.map_nil]); first | done | rfl | (simp only [List.length_drop, List.length_take]; rfl)) ?_; (with_reducible refine (porterlaw22_awake.calls  true _ A4.out).mono ?_); rintro e w7 ⟨rfl, hb⟩; refine ⟨_, rfl, ?_⟩; have n0_ := Aside0.mk (below_step (by repeat (first | (with_reducible first | exact HB.out | apply below_alloc | apply pw_below_drewN | apply below_drew1) | exact HB.out)) hb); clear HB; have HB := n0_; clear n0_; (try clear hb); (try clear hb2); (try clear hk); (try clear hi)))
    (try simp only [Act.put, List.setIfInBounds_toArray, List.set_cons_zero, List.set_cons_succ])
    go_cut [28] (fun v28 wc => ∃ (kq : Nat) (x28_5 : Bool), v28 = .bool x28_5 ∧ Aside0 (porterlaw22_WatchEmpty.j0 kq l0 a1 x28_5 = some r) ∧ Aside0 (kq ≤ k) ∧ Aside0 (Below w.heap.size w wc))
    case first =>
      have H := HC6.out
      clear HC6
      replace H := Option.bind_eq_some_iff.mp H
      obtain ⟨t127, A80, H⟩ := H
      replace H : (if (t127.length : Int) = 0 then (if a1 ≥ a2 then ((watch_Changes.f l0 a1 a2).bind fun t130 => (porterlaw22_WatchEmpty.j0 k l0 a1 ((t130.length : Int) != 0))) else (porterlaw22_WatchEmpty.j0 k l0 a1 false)) else (porterlaw22_WatchEmpty.j0 k l0 a1 true)) = some r := H
      have A8 := Aside0.mk A80
      clear A80
      by_cases c9 : (t127.length : Int) = 0
      · rw [if_pos c9] at H
        have c9b0 : ((t127.length : Int) == 0) = true := beq_iff_eq.mpr c9
        have c9b1 : ((t127.length : Int) != 0) = false := bne_eq_false_iff_eq.mpr c9
        clear c9
        (first | rw [c9b0] | (simp only [i64_w, i32_w]; rw [c9b0]) | skip)
        by_cases c10 : a1 ≥ a2
        · rw [if_pos c10] at H
          have c10b0 : decide (a2 ≤ a1) = true := decide_eq_true c10
          clear c10
          replace H := Option.bind_eq_some_iff.mp H
          obtain ⟨t130, A110, H⟩ := H
          replace H : (porterlaw22_WatchEmpty.j0 k l0 a1 ((t130.length : Int) != 0)) = some r := H
          have A11 := Aside0.mk A110
          clear A110
          have H' := Aside0.mk H
          clear H
          go_wp2_with (first | ((with_reducible refine gate_callee (f := 8) rfl ?_); refine goesL_ (some 13) rfl rfl Try.func8 (by kernel_rfl) rfl #[.slice A0 l0.length c0, .int .i64 a1, .int .i64 a1] rfl (by (try simp only [List.map_toArray, List.map_cons, List.map_nil]); first | done | rfl | (simp only [List.length_drop, List.length_take]; rfl)) ?_; (with_reducible refine (watch_Changes.calls _ _ l0 a1 a1 t127 _ ?side1 ?side2 A8.out).mono ?_); (case side1 => repeat (first | exact (Kd.C_below HR0.out HB.out) | (with_reducible refine Kd.C_alloc ?_ _) | (with_reducible refine Kd.C_drewN ?_ _) | (with_reducible refine Kd.C_drew ?_))); (case side2 => exact HC0.out); rintro e w12 ⟨v128, rfl, ho0, hb⟩; refine ⟨_, rfl, ?_⟩; have n0_ := Aside0.mk (Kd.R_lower ho0 (below_size (by repeat (first | (with_reducible first | exact HB.out | apply below_alloc | apply pw_below_drewN | apply below_drew1) | exact HB.out)))); have n1_ := Aside0.mk (below_step (by repeat (first | (with_reducible first | exact HB.out | apply below_alloc | apply pw_below_drewN | apply below_drew1) | exact HB.out)) hb); clear HB; have HO129 := n0_; have HB := n1_; clear n0_ n1_; (try clear hb); (try clear hb2); (try clear hk); (try clear hi); (try clear ho0); obtain ⟨Ao13, co13, eo13⟩ := Kd.R_slice HO129.out; subst eo13) | (go_at_call 8; (with_reducible refine (watch_Changes.calls _ _ l0 a1 a2 t130 _ ?side1 ?side2 A11.out).mono ?_); (case side1 => repeat (first | exact (Kd.C_below HR0.out HB.out) | (with_reducible refine Kd.C_alloc ?_ _) | (with_reducible refine Kd.C_drewN ?_ _) | (with_reducible refine Kd.C_drew ?_))); (case side2 => exact HC0.out); rintro e w14 ⟨v131, rfl, ho0, hb⟩; have n0_ := Aside0.mk (Kd.R_elder' (by (with_reducible repeat (first | apply Kd.R_alloc | apply Kd.R_drewN | apply Kd.R_drew)); exact HO129.out) (Kd.R_base ho0) hb); have n1_ := Aside0.mk (Kd.R_lower (Kd.R_new' ho0 (Kd.R_lt (by (with_reducible repeat (first | apply Kd.R_alloc | apply Kd.R_drewN | apply Kd.R_drew)); exact HO129.out))) (below_size (by repeat (first | (with_reducible first | exact HB.out | apply below_alloc | apply pw_below_drewN | apply below_drew1) | exact HB.out)))); have n2_ := Aside0.mk (below_step (by repeat (first | (with_reducible first | exact HB.out | apply below_alloc | apply pw_below_drewN | apply below_drew1) | exact HB.out)) hb); clear HO129; clear HB; have HO129 := n0_; have HO132 := n1_; have HB := n2_; clear n0_ n1_ n2_; (try clear hb); (try clear hb2); (try clear hk); (try clear hi); (try clear ho0); obtain ⟨Ao15, co15, eo15⟩ := Kd.R_slice HO132.out; subst eo15))
          go_meet
          case rel => exact ⟨_, (((t130.length : Int) != 0)), (by first | rfl | (simp; done) | (simp [*]; done)), H', ⟨by first | omega | exact Nat.le_refl _⟩, ⟨by repeat (first | (with_reducible first | exact HB.out | apply below_alloc | apply pw_below_drewN | apply below_drew1) | exact HB.out)⟩⟩
        · rw [if_neg c10] at H
          have c10b0 : decide (a2 ≤ a1) = false := decide_eq_false c10
          clear c10
          have H' := Aside0.mk H
          clear H
          go_wp2_with (first | ((with_reducible refine gate_callee (f := 8) rfl ?_); refine goesL_ (some 13) rfl rfl Try.func8 (by kernel_rfl) rfl #[.slice A0 l0.length c0, .int .i64 a1, .int .i64 a1] rfl (by (try simp only [List.map_toArray, List.map_cons, List.map_nil]); first | done | rfl | (simp only [List.length_drop, List.length_take]; rfl)) ?_; (with_reducible refine (watch_Changes.calls _ _ l0 a1 a1 t127 _ ?side1 ?side2 A8.out).mono ?_); (case side1 => repeat (first | exact (Kd.C_below HR0.out HB.out) | (with_reducible refine Kd.C_alloc ?_ _) | (with_reducible refine Kd.C_drewN ?_ _) | (with_reducible refine Kd.C_drew ?_))); (case side2 => exact HC0.out); rintro e w16 ⟨v128, rfl, ho0, hb⟩; refine ⟨_, rfl, ?_⟩; have n0_ := Aside0.mk (Kd.R_lower ho0 (below_size (by repeat (first | (with_reducible first | exact HB.out | apply below_alloc | apply pw_below_drewN | apply below_drew1) | exact HB.out)))); have n1_ := Aside0.mk (below_step (by repeat (first | (with_reducible first | exact HB.out | apply below_alloc | apply pw_below_drewN | apply below_drew1) | exact HB.out)) hb); clear HB; have HO129 := n0_; have HB := n1_; clear n0_ n1_; (try clear hb); (try clear hb2); (try clear hk); (try clear hi); (try clear ho0); obtain ⟨Ao17, co17, eo17⟩ := Kd.R_slice HO129.out; subst eo17))
          go_meet
          case rel => exact ⟨_, (false), (by first | rfl | (simp; done) | (simp [*]; done)), H', ⟨by first | omega | exact Nat.le_refl _⟩, ⟨by repeat (first | (with_reducible first | exact HB.out | apply below_alloc | apply pw_below_drewN | apply below_drew1) | exact HB.out)⟩⟩
      · rw [if_neg c9] at H
        have c9b0 : ((t127.length : Int) == 0) = false := beq_eq_false_iff_ne.mpr c9
        have c9b1 : ((t127.length : Int) != 0) = true := bne_iff_ne.mpr c9
        have c9b2 : ¬ (t127 = []) := fun h_ => c9 (by rw [h_]; rfl)
        (first | rw [c9b0] | (simp only [i64_w, i32_w]; rw [c9b0]) | skip)
        have H' := Aside0.mk H
        clear H
        go_wp2_with (first | ((with_reducible refine gate_callee (f := 8) rfl ?_); refine goesL_ (some 13) rfl rfl Try.func8 (by kernel_rfl) rfl #[.slice A0 l0.length c0, .int .i64 a1, .int .i64 a1] rfl (by (try simp only [List.map_toArray, List.map_cons, List.map_nil]); first | done | rfl | (simp only [List.length_drop, List.length_take]; rfl)) ?_; (with_reducible refine (watch_Changes.calls _ _ l0 a1 a1 t127 _ ?side1 ?side2 A8.out).mono ?_); (case side1 => repeat (first | exact (Kd.C_below HR0.out HB.out) | (with_reducible refine Kd.C_alloc ?_ _) | (with_reducible refine Kd.C_drewN ?_ _) | (with_reducible refine Kd.C_drew ?_))); (case side2 => exact HC0.out); rintro e w18 ⟨v128, rfl, ho0, hb⟩; refine ⟨_, rfl, ?_⟩; have n0_ := Aside0.mk (Kd.R_lower ho0 (below_size (by repeat (first | (with_reducible first | exact HB.out | apply below_alloc | apply pw_below_drewN | apply below_drew1) | exact HB.out)))); have n1_ := Aside0.mk (below_step (by repeat (first | (with_reducible first | exact HB.out | apply below_alloc | apply pw_below_drewN | apply below_drew1) | exact HB.out)) hb); clear HB; have HO129 := n0_; have HB := n1_; clear n0_ n1_; (try clear hb); (try clear hb2); (try clear hk); (try clear hi); (try clear ho0); obtain ⟨Ao19, co19, eo19⟩ := Kd.R_slice HO129.out; subst eo19))
        go_meet
        case rel => exact ⟨_, (true), (by first | rfl | (simp; done) | (simp [*]; done)), H', ⟨by first | omega | exact Nat.le_refl _⟩, ⟨by repeat (first | (with_reducible first | exact HB.out | apply below_alloc | apply pw_below_drewN | apply below_drew1) | exact HB.out)⟩⟩
    case rest =>
      clear HC6
      try clear c1
      try clear p2
      try clear c5
      try clear c6
      try clear c8
      try clear c9
      try clear c9b0
      try clear c9b1
      try clear c9b2
      try clear c10
      try clear c10b0
      obtain ⟨kq, x28_5, rfl, HA, HJ5, HB⟩ := hcut
      cases kq with
      | zero => exact absurd HA.out (by simp [porterlaw22_WatchEmpty.j0])
      | succ kj5 =>
        have H := HA.out
        clear HA
        simp only [porterlaw22_WatchEmpty.j0] at H
        by_cases c20 : x28_5 = true
        · subst c20
          have H1 : (some false) = some r := by rw [if_pos rfl] at H; exact H
          clear H
          have H := H1
          clear H1
          obtain rfl := Option.some.inj H
          go_wp2
          go_ret
          exact ⟨by first | rfl | (simp [errW_none, errW_some] <;> rfl) | (simp [*, errW_none, errW_some] <;> rfl), by repeat (first | (with_reducible first | exact HB.out | apply below_alloc | apply pw_below_drewN | apply below_drew1) | exact HB.out)⟩
        · replace c20 := Bool.eq_false_iff.mpr c20
          subst c20
          have H1 : ((watch_At.f l0 a1).bind fun t133 => ((watch_Play.f t133 ([] : List (S29))).bind fun t136 => ((porterlaw22_tuples.f kj5 t136 t133).bind fun t139 => (if t139 = true then ((watch_Net.f t133 t133).bind fun t140 => (if (t140.length : Int) = 0 then ((watch_Back.f ([] : List (S29))).bind fun t143 => (if (t143.length : Int) = 0 then ((watch_Rows.f ([] : List (S29))).bind fun t146 => (some ((t146.length : Int) == 0))) else (some false))) else (some false))) else (some false))))) = some r := by rw [if_neg (show ¬ (false = true) by decide)] at H; exact H
          clear H
          have H := H1
          clear H1
          replace H := Option.bind_eq_some_iff.mp H
          obtain ⟨t133, A210, H⟩ := H
          replace H : ((watch_Play.f t133 ([] : List (S29))).bind fun t136 => ((porterlaw22_tuples.f kj5 t136 t133).bind fun t139 => (if t139 = true then ((watch_Net.f t133 t133).bind fun t140 => (if (t140.length : Int) = 0 then ((watch_Back.f ([] : List (S29))).bind fun t143 => (if (t143.length : Int) = 0 then ((watch_Rows.f ([] : List (S29))).bind fun t146 => (some ((t146.length : Int) == 0))) else (some false))) else (some false))) else (some false)))) = some r := H
          have A21 := Aside0.mk A210
          clear A210
          replace H := Option.bind_eq_some_iff.mp H
          obtain ⟨t136, A220, H⟩ := H
          replace H : ((porterlaw22_tuples.f kj5 t136 t133).bind fun t139 => (if t139 = true then ((watch_Net.f t133 t133).bind fun t140 => (if (t140.length : Int) = 0 then ((watch_Back.f ([] : List (S29))).bind fun t143 => (if (t143.length : Int) = 0 then ((watch_Rows.f ([] : List (S29))).bind fun t146 => (some ((t146.length : Int) == 0))) else (some false))) else (some false))) else (some false))) = some r := H
          have A22 := Aside0.mk A220
          clear A220
          replace H := Option.bind_eq_some_iff.mp H
          obtain ⟨t139, A230, H⟩ := H
          replace H : (if t139 = true then ((watch_Net.f t133 t133).bind fun t140 => (if (t140.length : Int) = 0 then ((watch_Back.f ([] : List (S29))).bind fun t143 => (if (t143.length : Int) = 0 then ((watch_Rows.f ([] : List (S29))).bind fun t146 => (some ((t146.length : Int) == 0))) else (some false))) else (some false))) else (some false)) = some r := H
          have A23 := Aside0.mk A230
          clear A230
          by_cases c24 : t139 = true
          · subst c24
            have H1 : ((watch_Net.f t133 t133).bind fun t140 => (if (t140.length : Int) = 0 then ((watch_Back.f ([] : List (S29))).bind fun t143 => (if (t143.length : Int) = 0 then ((watch_Rows.f ([] : List (S29))).bind fun t146 => (some ((t146.length : Int) == 0))) else (some false))) else (some false))) = some r := by rw [if_pos rfl] at H; exact H
            clear H
            have H := H1
            clear H1
            replace H := Option.bind_eq_some_iff.mp H
            obtain ⟨t140, A250, H⟩ := H
            replace H : (if (t140.length : Int) = 0 then ((watch_Back.f ([] : List (S29))).bind fun t143 => (if (t143.length : Int) = 0 then ((watch_Rows.f ([] : List (S29))).bind fun t146 => (some ((t146.length : Int) == 0))) else (some false))) else (some false)) = some r := H
            have A25 := Aside0.mk A250
            clear A250
            by_cases c26 : (t140.length : Int) = 0
            · rw [if_pos c26] at H
              have c26b0 : ((t140.length : Int) == 0) = true := beq_iff_eq.mpr c26
              have c26b1 : ((t140.length : Int) != 0) = false := bne_eq_false_iff_eq.mpr c26
              clear c26
              replace H := Option.bind_eq_some_iff.mp H
              obtain ⟨t143, A270, H⟩ := H
              replace H : (if (t143.length : Int) = 0 then ((watch_Rows.f ([] : List (S29))).bind fun t146 => (some ((t146.length : Int) == 0))) else (some false)) = some r := H
              have A27 := Aside0.mk A270
              clear A270
              by_cases c28 : (t143.length : Int) = 0
              · rw [if_pos c28] at H
                have c28b0 : ((t143.length : Int) == 0) = true := beq_iff_eq.mpr c28
                have c28b1 : ((t143.length : Int) != 0) = false := bne_eq_false_iff_eq.mpr c28
                clear c28
                replace H := Option.bind_eq_some_iff.mp H
                obtain ⟨t146, A290, H⟩ := H
                replace H : (some ((t146.length : Int) == 0)) = some r := H
                have A29 := Aside0.mk A290
                clear A290
                obtain rfl := Option.some.inj H
                go_wp2_with (first | ((with_reducible refine gate_callee (f := 18) rfl ?_); refine goesL_ (some 31) rfl rfl Try.func18 (by kernel_rfl) rfl #[.slice A0 l0.length c0, .int .i64 a1] rfl (by (try simp only [List.map_toArray, List.map_cons, List.map_nil]); first | done | rfl | (simp only [List.length_drop, List.length_take]; rfl)) ?_; (with_reducible refine (watch_At.calls _ _ l0 a1 t133 _ ?side1 ?side2 A21.out).mono ?_); (case side1 => repeat (first | exact (Kd.C_below HR0.out HB.out) | (with_reducible refine Kd.C_alloc ?_ _) | (with_reducible refine Kd.C_drewN ?_ _) | (with_reducible refine Kd.C_drew ?_))); (case side2 => exact HC0.out); rintro e w30 ⟨v134, rfl, ho0, hb⟩; refine ⟨_, rfl, ?_⟩; have n0_ := Aside0.mk (Kd.R_lower ho0 (below_size (by repeat (first | (with_reducible first | exact HB.out | apply below_alloc | apply pw_below_drewN | apply below_drew1) | exact HB.out)))); have n1_ := Aside0.mk (below_step (by repeat (first | (with_reducible first | exact HB.out | apply below_alloc | apply pw_below_drewN | apply below_drew1) | exact HB.out)) hb); clear HB; have HO135 := n0_; have HB := n1_; clear n0_ n1_; (try clear hb); (try clear hb2); (try clear hk); (try clear hi); (try clear ho0); obtain ⟨Ao31, co31, eo31⟩ := Kd.R_slice HO135.out; subst eo31) | ((with_reducible refine gate_callee (f := 10) rfl ?_); refine goesL_ (some 33) rfl rfl Try.func10 (by kernel_rfl) rfl #[.slice Ao31 t133.length co31, .slice none 0 0] rfl (by (try simp only [List.map_toArray, List.map_cons, List.map_nil]); first | done | rfl | (simp only [List.length_drop, List.length_take]; rfl)) ?_; (refine (watch_Play.calls _ _ t133 _ _ ([] : List (S29)) t136 _ ?side1 ?side2 ?side3 ?side4 A22.out).mono ?_); (case side1 => repeat (first | exact (Kd.R_reads' HO135.out).2.2 | (with_reducible refine Kd.C_alloc ?_ _) | (with_reducible refine Kd.C_drewN ?_ _) | (with_reducible refine Kd.C_drew ?_))); (case side2 => exact (Kd.R_reads' HO135.out).2.1); (case side3 => exact Kd.C_nil _ _); (case side4 => exact Nat.le_refl _); rintro e w32 ⟨v137, rfl, ho0, hb⟩; refine ⟨_, rfl, ?_⟩; have n0_ := Aside0.mk (Kd.R_elder' (by (with_reducible repeat (first | apply Kd.R_alloc | apply Kd.R_drewN | apply Kd.R_drew)); exact HO135.out) (Kd.R_base ho0) hb); have n1_ := Aside0.mk (Kd.R_lower (Kd.R_new' ho0 (Kd.R_lt (by (with_reducible repeat (first | apply Kd.R_alloc | apply Kd.R_drewN | apply Kd.R_drew)); exact HO135.out))) (below_size (by repeat (first | (with_reducible first | exact HB.out | apply below_alloc | apply pw_below_drewN | apply below_drew1) | exact HB.out)))); have n2_ := Aside0.mk (below_step (by repeat (first | (with_reducible first | exact HB.out | apply below_alloc | apply pw_below_drewN | apply below_drew1) | exact HB.out)) hb); clear HO135; clear HB; have HO135 := n0_; have HO138 := n1_; have HB := n2_; clear n0_ n1_ n2_; (try clear hb); (try clear hb2); (try clear hk); (try clear hi); (try clear ho0); obtain ⟨Ao33, co33, eo33⟩ := Kd.R_slice HO138.out; subst eo33) | ((with_reducible refine gate_callee (f := 9) rfl ?_); refine goesL_ (some 35) rfl rfl Try.func9 (by kernel_rfl) rfl #[.slice Ao33 t136.length co33, .slice Ao31 t133.length co31] rfl (by (try simp only [List.map_toArray, List.map_cons, List.map_nil]); first | done | rfl | (simp only [List.length_drop, List.length_take]; rfl)) ?_; (with_reducible refine (porterlaw22_tuples.calls kj5 _ _ t136 _ _ t133 true _ ?side1 ?side2 ?side3 ?side4 A23.out).mono ?_); (case side1 => repeat (first | exact (Kd.R_reads' HO138.out).2.2 | (with_reducible refine Kd.C_alloc ?_ _) | (with_reducible refine Kd.C_drewN ?_ _) | (with_reducible refine Kd.C_drew ?_))); (case side2 => exact (Kd.R_reads' HO138.out).2.1); (case side3 => repeat (first | exact (Kd.R_reads' HO135.out).2.2 | (with_reducible refine Kd.C_alloc ?_ _) | (with_reducible refine Kd.C_drewN ?_ _) | (with_reducible refine Kd.C_drew ?_))); (case side4 => exact (Kd.R_reads' HO135.out).2.1); rintro e w' ⟨rfl, ⟨nd, rfl⟩⟩; refine ⟨_, rfl, ?_⟩) | (go_at_call 16; (with_reducible refine (watch_Net.calls _ _ t133 _ _ t133 t140 _ ?side1 ?side2 ?side3 ?side4 A25.out).mono ?_); (case side1 => repeat (first | exact (Kd.R_reads' HO135.out).2.2 | (with_reducible refine Kd.C_alloc ?_ _) | (with_reducible refine Kd.C_drewN ?_ _) | (with_reducible refine Kd.C_drew ?_))); (case side2 => exact (Kd.R_reads' HO135.out).2.1); (case side3 => repeat (first | exact (Kd.R_reads' HO135.out).2.2 | (with_reducible refine Kd.C_alloc ?_ _) | (with_reducible refine Kd.C_drewN ?_ _) | (with_reducible refine Kd.C_drew ?_))); (case side4 => exact (Kd.R_reads' HO135.out).2.1); rintro e w34 ⟨v141, rfl, ho0, hb⟩; have n0_ := Aside0.mk (Kd.R_below (by (with_reducible repeat (first | apply Kd.R_alloc | apply Kd.R_drewN | apply Kd.R_drew)); exact HO135.out) hb); have n1_ := Aside0.mk (Kd.R_below (by (with_reducible repeat (first | apply Kd.R_alloc | apply Kd.R_drewN | apply Kd.R_drew)); exact HO138.out) hb); have n2_ := Aside0.mk (Kd.R_lower ho0 (below_size (by repeat (first | (with_reducible first | exact HB.out | apply below_alloc | apply pw_below_drewN | apply below_drew1) | exact HB.out)))); have n3_ := Aside0.mk (below_step (by repeat (first | (with_reducible first | exact HB.out | apply below_alloc | apply pw_below_drewN | apply below_drew1) | exact HB.out)) hb); clear HO135; clear HO138; clear HB; have HO135 := n0_; have HO138 := n1_; have HO142 := n2_; have HB := n3_; clear n0_ n1_ n2_ n3_; (try clear hb); (try clear hb2); (try clear hk); (try clear hi); (try clear ho0); obtain ⟨Ao35, co35, eo35⟩ := Kd.R_slice HO142.out; subst eo35) | (go_at_call 19; (refine (watch_Back.calls _ _ ([] : List (S29)) t143 _ ?side1 ?side2 A27.out).mono ?_); (case side1 => exact Kd.C_nil _ _); (case side2 => exact Nat.le_refl _); rintro e w36 ⟨v144, rfl, ho0, hb⟩; have n0_ := Aside0.mk (Kd.R_below (by (with_reducible repeat (first | apply Kd.R_alloc | apply Kd.R_drewN | apply Kd.R_drew)); exact HO135.out) hb); have n1_ := Aside0.mk (Kd.R_below (by (with_reducible repeat (first | apply Kd.R_alloc | apply Kd.R_drewN | apply Kd.R_drew)); exact HO138.out) hb); have n2_ := Aside0.mk (Kd.R_below (by (with_reducible repeat (first | apply Kd.R_alloc | apply Kd.R_drewN | apply Kd.R_drew)); exact HO142.out) hb); have n3_ := Aside0.mk (Kd.R_lower ho0 (below_size (by repeat (first | (with_reducible first | exact HB.out | apply below_alloc | apply pw_below_drewN | apply below_drew1) | exact HB.out)))); have n4_ := Aside0.mk (below_step (by repeat (first | (with_reducible first | exact HB.out | apply below_alloc | apply pw_below_drewN | apply below_drew1) | exact HB.out)) hb); clear HO135; clear HO138; clear HO142; clear HB; have HO135 := n0_; have HO138 := n1_; have HO142 := n2_; have HO145 := n3_; have HB := n4_; clear n0_ n1_ n2_ n3_ n4_; (try clear hb); (try clear hb2); (try clear hk); (try clear hi); (try clear ho0); obtain ⟨Ao37, co37, eo37⟩ := Kd.R_slice HO145.out; subst eo37) | (go_at_call 7; (refine (watch_Rows.calls _ _ ([] : List (S29)) t146 _ ?side1 ?side2 A29.out).mono ?_); (case side1 => exact Kd.C_nil _ _); (case side2 => exact Nat.le_refl _); rintro e w38 ⟨v147, rfl, ho0, hb⟩; have n0_ := Aside0.mk (Kd.R_below (by (with_reducible repeat (first | apply Kd.R_alloc | apply Kd.R_drewN | apply Kd.R_drew)); exact HO135.out) hb); have n1_ := Aside0.mk (Kd.R_below (by (with_reducible repeat (first | apply Kd.R_alloc | apply Kd.R_drewN | apply Kd.R_drew)); exact HO138.out) hb); have n2_ := Aside0.mk (Kd.R_below (by (with_reducible repeat (first | apply Kd.R_alloc | apply Kd.R_drewN | apply Kd.R_drew)); exact HO142.out) hb); have n3_ := Aside0.mk (Kd.R_below (by (with_reducible repeat (first | apply Kd.R_alloc | apply Kd.R_drewN | apply Kd.R_drew)); exact HO145.out) hb); have n4_ := Aside0.mk (Kd.R_lower ho0 (below_size (by repeat (first | (with_reducible first | exact HB.out | apply below_alloc | apply pw_below_drewN | apply below_drew1) | exact HB.out)))); have n5_ := Aside0.mk (below_step (by repeat (first | (with_reducible first | exact HB.out | apply below_alloc | apply pw_below_drewN | apply below_drew1) | exact HB.out)) hb); clear HO135; clear HO138; clear HO142; clear HO145; clear HB; have HO135 := n0_; have HO138 := n1_; have HO142 := n2_; have HO145 := n3_; have HO148 := n4_; have HB := n5_; clear n0_ n1_ n2_ n3_ n4_ n5_; (try clear hb); (try clear hb2); (try clear hk); (try clear hi); (try clear ho0); obtain ⟨Ao39, co39, eo39⟩ := Kd.R_slice HO148.out; subst eo39))
                go_ret
                exact ⟨by first | rfl | (simp [errW_none, errW_some] <;> rfl) | (simp [*, errW_none, errW_some] <;> rfl), by repeat (first | (with_reducible first | exact HB.out | apply below_alloc | apply pw_below_drewN | apply below_drew1) | exact HB.out)⟩
              · rw [if_neg c28] at H
                have c28b0 : ((t143.length : Int) == 0) = false := beq_eq_false_iff_ne.mpr c28
                have c28b1 : ((t143.length : Int) != 0) = true := bne_iff_ne.mpr c28
                have c28b2 : ¬ (t143 = []) := fun h_ => c28 (by rw [h_]; rfl)
                obtain rfl := Option.some.inj H
                go_wp2_with (first | ((with_reducible refine gate_callee (f := 18) rfl ?_); refine goesL_ (some 31) rfl rfl Try.func18 (by kernel_rfl) rfl #[.slice A0 l0.length c0, .int .i64 a1] rfl (by (try simp only [List.map_toArray, List.map_cons, List.map_nil]); first | done | rfl | (simp only [List.length_drop, List.length_take]; rfl)) ?_; (with_reducible refine (watch_At.calls _ _ l0 a1 t133 _ ?side1 ?side2 A21.out).mono ?_); (case side1 => repeat (first | exact (Kd.C_below HR0.out HB.out) | (with_reducible refine Kd.C_alloc ?_ _) | (with_reducible refine Kd.C_drewN ?_ _) | (with_reducible refine Kd.C_drew ?_))); (case side2 => exact HC0.out); rintro e w40 ⟨v134, rfl, ho0, hb⟩; refine ⟨_, rfl, ?_⟩; have n0_ := Aside0.mk (Kd.R_lower ho0 (below_size (by repeat (first | (with_reducible first | exact HB.out | apply below_alloc | apply pw_below_drewN | apply below_drew1) | exact HB.out)))); have n1_ := Aside0.mk (below_step (by repeat (first | (with_reducible first | exact HB.out | apply below_alloc | apply pw_below_drewN | apply below_drew1) | exact HB.out)) hb); clear HB; have HO135 := n0_; have HB := n1_; clear n0_ n1_; (try clear hb); (try clear hb2); (try clear hk); (try clear hi); (try clear ho0); obtain ⟨Ao41, co41, eo41⟩ := Kd.R_slice HO135.out; subst eo41) | ((with_reducible refine gate_callee (f := 10) rfl ?_); refine goesL_ (some 33) rfl rfl Try.func10 (by kernel_rfl) rfl #[.slice Ao41 t133.length co41, .slice none 0 0] rfl (by (try simp only [List.map_toArray, List.map_cons, List.map_nil]); first | done | rfl | (simp only [List.length_drop, List.length_take]; rfl)) ?_; (refine (watch_Play.calls _ _ t133 _ _ ([] : List (S29)) t136 _ ?side1 ?side2 ?side3 ?side4 A22.out).mono ?_); (case side1 => repeat (first | exact (Kd.R_reads' HO135.out).2.2 | (with_reducible refine Kd.C_alloc ?_ _) | (with_reducible refine Kd.C_drewN ?_ _) | (with_reducible refine Kd.C_drew ?_))); (case side2 => exact (Kd.R_reads' HO135.out).2.1); (case side3 => exact Kd.C_nil _ _); (case side4 => exact Nat.le_refl _); rintro e w42 ⟨v137, rfl, ho0, hb⟩; refine ⟨_, rfl, ?_⟩; have n0_ := Aside0.mk (Kd.R_elder' (by (with_reducible repeat (first | apply Kd.R_alloc | apply Kd.R_drewN | apply Kd.R_drew)); exact HO135.out) (Kd.R_base ho0) hb); have n1_ := Aside0.mk (Kd.R_lower (Kd.R_new' ho0 (Kd.R_lt (by (with_reducible repeat (first | apply Kd.R_alloc | apply Kd.R_drewN | apply Kd.R_drew)); exact HO135.out))) (below_size (by repeat (first | (with_reducible first | exact HB.out | apply below_alloc | apply pw_below_drewN | apply below_drew1) | exact HB.out)))); have n2_ := Aside0.mk (below_step (by repeat (first | (with_reducible first | exact HB.out | apply below_alloc | apply pw_below_drewN | apply below_drew1) | exact HB.out)) hb); clear HO135; clear HB; have HO135 := n0_; have HO138 := n1_; have HB := n2_; clear n0_ n1_ n2_; (try clear hb); (try clear hb2); (try clear hk); (try clear hi); (try clear ho0); obtain ⟨Ao43, co43, eo43⟩ := Kd.R_slice HO138.out; subst eo43) | ((with_reducible refine gate_callee (f := 9) rfl ?_); refine goesL_ (some 35) rfl rfl Try.func9 (by kernel_rfl) rfl #[.slice Ao43 t136.length co43, .slice Ao41 t133.length co41] rfl (by (try simp only [List.map_toArray, List.map_cons, List.map_nil]); first | done | rfl | (simp only [List.length_drop, List.length_take]; rfl)) ?_; (with_reducible refine (porterlaw22_tuples.calls kj5 _ _ t136 _ _ t133 true _ ?side1 ?side2 ?side3 ?side4 A23.out).mono ?_); (case side1 => repeat (first | exact (Kd.R_reads' HO138.out).2.2 | (with_reducible refine Kd.C_alloc ?_ _) | (with_reducible refine Kd.C_drewN ?_ _) | (with_reducible refine Kd.C_drew ?_))); (case side2 => exact (Kd.R_reads' HO138.out).2.1); (case side3 => repeat (first | exact (Kd.R_reads' HO135.out).2.2 | (with_reducible refine Kd.C_alloc ?_ _) | (with_reducible refine Kd.C_drewN ?_ _) | (with_reducible refine Kd.C_drew ?_))); (case side4 => exact (Kd.R_reads' HO135.out).2.1); rintro e w' ⟨rfl, ⟨nd, rfl⟩⟩; refine ⟨_, rfl, ?_⟩) | (go_at_call 16; (with_reducible refine (watch_Net.calls _ _ t133 _ _ t133 t140 _ ?side1 ?side2 ?side3 ?side4 A25.out).mono ?_); (case side1 => repeat (first | exact (Kd.R_reads' HO135.out).2.2 | (with_reducible refine Kd.C_alloc ?_ _) | (with_reducible refine Kd.C_drewN ?_ _) | (with_reducible refine Kd.C_drew ?_))); (case side2 => exact (Kd.R_reads' HO135.out).2.1); (case side3 => repeat (first | exact (Kd.R_reads' HO135.out).2.2 | (with_reducible refine Kd.C_alloc ?_ _) | (with_reducible refine Kd.C_drewN ?_ _) | (with_reducible refine Kd.C_drew ?_))); (case side4 => exact (Kd.R_reads' HO135.out).2.1); rintro e w44 ⟨v141, rfl, ho0, hb⟩; have n0_ := Aside0.mk (Kd.R_below (by (with_reducible repeat (first | apply Kd.R_alloc | apply Kd.R_drewN | apply Kd.R_drew)); exact HO135.out) hb); have n1_ := Aside0.mk (Kd.R_below (by (with_reducible repeat (first | apply Kd.R_alloc | apply Kd.R_drewN | apply Kd.R_drew)); exact HO138.out) hb); have n2_ := Aside0.mk (Kd.R_lower ho0 (below_size (by repeat (first | (with_reducible first | exact HB.out | apply below_alloc | apply pw_below_drewN | apply below_drew1) | exact HB.out)))); have n3_ := Aside0.mk (below_step (by repeat (first | (with_reducible first | exact HB.out | apply below_alloc | apply pw_below_drewN | apply below_drew1) | exact HB.out)) hb); clear HO135; clear HO138; clear HB; have HO135 := n0_; have HO138 := n1_; have HO142 := n2_; have HB := n3_; clear n0_ n1_ n2_ n3_; (try clear hb); (try clear hb2); (try clear hk); (try clear hi); (try clear ho0); obtain ⟨Ao45, co45, eo45⟩ := Kd.R_slice HO142.out; subst eo45) | (go_at_call 19; (refine (watch_Back.calls _ _ ([] : List (S29)) t143 _ ?side1 ?side2 A27.out).mono ?_); (case side1 => exact Kd.C_nil _ _); (case side2 => exact Nat.le_refl _); rintro e w46 ⟨v144, rfl, ho0, hb⟩; have n0_ := Aside0.mk (Kd.R_below (by (with_reducible repeat (first | apply Kd.R_alloc | apply Kd.R_drewN | apply Kd.R_drew)); exact HO135.out) hb); have n1_ := Aside0.mk (Kd.R_below (by (with_reducible repeat (first | apply Kd.R_alloc | apply Kd.R_drewN | apply Kd.R_drew)); exact HO138.out) hb); have n2_ := Aside0.mk (Kd.R_below (by (with_reducible repeat (first | apply Kd.R_alloc | apply Kd.R_drewN | apply Kd.R_drew)); exact HO142.out) hb); have n3_ := Aside0.mk (Kd.R_lower ho0 (below_size (by repeat (first | (with_reducible first | exact HB.out | apply below_alloc | apply pw_below_drewN | apply below_drew1) | exact HB.out)))); have n4_ := Aside0.mk (below_step (by repeat (first | (with_reducible first | exact HB.out | apply below_alloc | apply pw_below_drewN | apply below_drew1) | exact HB.out)) hb); clear HO135; clear HO138; clear HO142; clear HB; have HO135 := n0_; have HO138 := n1_; have HO142 := n2_; have HO145 := n3_; have HB := n4_; clear n0_ n1_ n2_ n3_ n4_; (try clear hb); (try clear hb2); (try clear hk); (try clear hi); (try clear ho0); obtain ⟨Ao47, co47, eo47⟩ := Kd.R_slice HO145.out; subst eo47))
                go_ret
                exact ⟨by first | rfl | (simp [errW_none, errW_some] <;> rfl) | (simp [*, errW_none, errW_some] <;> rfl), by repeat (first | (with_reducible first | exact HB.out | apply below_alloc | apply pw_below_drewN | apply below_drew1) | exact HB.out)⟩
            · rw [if_neg c26] at H
              have c26b0 : ((t140.length : Int) == 0) = false := beq_eq_false_iff_ne.mpr c26
              have c26b1 : ((t140.length : Int) != 0) = true := bne_iff_ne.mpr c26
              have c26b2 : ¬ (t140 = []) := fun h_ => c26 (by rw [h_]; rfl)
              obtain rfl := Option.some.inj H
              go_wp2_with (first | ((with_reducible refine gate_callee (f := 18) rfl ?_); refine goesL_ (some 31) rfl rfl Try.func18 (by kernel_rfl) rfl #[.slice A0 l0.length c0, .int .i64 a1] rfl (by (try simp only [List.map_toArray, List.map_cons, List.map_nil]); first | done | rfl | (simp only [List.length_drop, List.length_take]; rfl)) ?_; (with_reducible refine (watch_At.calls _ _ l0 a1 t133 _ ?side1 ?side2 A21.out).mono ?_); (case side1 => repeat (first | exact (Kd.C_below HR0.out HB.out) | (with_reducible refine Kd.C_alloc ?_ _) | (with_reducible refine Kd.C_drewN ?_ _) | (with_reducible refine Kd.C_drew ?_))); (case side2 => exact HC0.out); rintro e w48 ⟨v134, rfl, ho0, hb⟩; refine ⟨_, rfl, ?_⟩; have n0_ := Aside0.mk (Kd.R_lower ho0 (below_size (by repeat (first | (with_reducible first | exact HB.out | apply below_alloc | apply pw_below_drewN | apply below_drew1) | exact HB.out)))); have n1_ := Aside0.mk (below_step (by repeat (first | (with_reducible first | exact HB.out | apply below_alloc | apply pw_below_drewN | apply below_drew1) | exact HB.out)) hb); clear HB; have HO135 := n0_; have HB := n1_; clear n0_ n1_; (try clear hb); (try clear hb2); (try clear hk); (try clear hi); (try clear ho0); obtain ⟨Ao49, co49, eo49⟩ := Kd.R_slice HO135.out; subst eo49) | ((with_reducible refine gate_callee (f := 10) rfl ?_); refine goesL_ (some 33) rfl rfl Try.func10 (by kernel_rfl) rfl #[.slice Ao49 t133.length co49, .slice none 0 0] rfl (by (try simp only [List.map_toArray, List.map_cons, List.map_nil]); first | done | rfl | (simp only [List.length_drop, List.length_take]; rfl)) ?_; (refine (watch_Play.calls _ _ t133 _ _ ([] : List (S29)) t136 _ ?side1 ?side2 ?side3 ?side4 A22.out).mono ?_); (case side1 => repeat (first | exact (Kd.R_reads' HO135.out).2.2 | (with_reducible refine Kd.C_alloc ?_ _) | (with_reducible refine Kd.C_drewN ?_ _) | (with_reducible refine Kd.C_drew ?_))); (case side2 => exact (Kd.R_reads' HO135.out).2.1); (case side3 => exact Kd.C_nil _ _); (case side4 => exact Nat.le_refl _); rintro e w50 ⟨v137, rfl, ho0, hb⟩; refine ⟨_, rfl, ?_⟩; have n0_ := Aside0.mk (Kd.R_elder' (by (with_reducible repeat (first | apply Kd.R_alloc | apply Kd.R_drewN | apply Kd.R_drew)); exact HO135.out) (Kd.R_base ho0) hb); have n1_ := Aside0.mk (Kd.R_lower (Kd.R_new' ho0 (Kd.R_lt (by (with_reducible repeat (first | apply Kd.R_alloc | apply Kd.R_drewN | apply Kd.R_drew)); exact HO135.out))) (below_size (by repeat (first | (with_reducible first | exact HB.out | apply below_alloc | apply pw_below_drewN | apply below_drew1) | exact HB.out)))); have n2_ := Aside0.mk (below_step (by repeat (first | (with_reducible first | exact HB.out | apply below_alloc | apply pw_below_drewN | apply below_drew1) | exact HB.out)) hb); clear HO135; clear HB; have HO135 := n0_; have HO138 := n1_; have HB := n2_; clear n0_ n1_ n2_; (try clear hb); (try clear hb2); (try clear hk); (try clear hi); (try clear ho0); obtain ⟨Ao51, co51, eo51⟩ := Kd.R_slice HO138.out; subst eo51) | ((with_reducible refine gate_callee (f := 9) rfl ?_); refine goesL_ (some 35) rfl rfl Try.func9 (by kernel_rfl) rfl #[.slice Ao51 t136.length co51, .slice Ao49 t133.length co49] rfl (by (try simp only [List.map_toArray, List.map_cons, List.map_nil]); first | done | rfl | (simp only [List.length_drop, List.length_take]; rfl)) ?_; (with_reducible refine (porterlaw22_tuples.calls kj5 _ _ t136 _ _ t133 true _ ?side1 ?side2 ?side3 ?side4 A23.out).mono ?_); (case side1 => repeat (first | exact (Kd.R_reads' HO138.out).2.2 | (with_reducible refine Kd.C_alloc ?_ _) | (with_reducible refine Kd.C_drewN ?_ _) | (with_reducible refine Kd.C_drew ?_))); (case side2 => exact (Kd.R_reads' HO138.out).2.1); (case side3 => repeat (first | exact (Kd.R_reads' HO135.out).2.2 | (with_reducible refine Kd.C_alloc ?_ _) | (with_reducible refine Kd.C_drewN ?_ _) | (with_reducible refine Kd.C_drew ?_))); (case side4 => exact (Kd.R_reads' HO135.out).2.1); rintro e w' ⟨rfl, ⟨nd, rfl⟩⟩; refine ⟨_, rfl, ?_⟩) | (go_at_call 16; (with_reducible refine (watch_Net.calls _ _ t133 _ _ t133 t140 _ ?side1 ?side2 ?side3 ?side4 A25.out).mono ?_); (case side1 => repeat (first | exact (Kd.R_reads' HO135.out).2.2 | (with_reducible refine Kd.C_alloc ?_ _) | (with_reducible refine Kd.C_drewN ?_ _) | (with_reducible refine Kd.C_drew ?_))); (case side2 => exact (Kd.R_reads' HO135.out).2.1); (case side3 => repeat (first | exact (Kd.R_reads' HO135.out).2.2 | (with_reducible refine Kd.C_alloc ?_ _) | (with_reducible refine Kd.C_drewN ?_ _) | (with_reducible refine Kd.C_drew ?_))); (case side4 => exact (Kd.R_reads' HO135.out).2.1); rintro e w52 ⟨v141, rfl, ho0, hb⟩; have n0_ := Aside0.mk (Kd.R_below (by (with_reducible repeat (first | apply Kd.R_alloc | apply Kd.R_drewN | apply Kd.R_drew)); exact HO135.out) hb); have n1_ := Aside0.mk (Kd.R_below (by (with_reducible repeat (first | apply Kd.R_alloc | apply Kd.R_drewN | apply Kd.R_drew)); exact HO138.out) hb); have n2_ := Aside0.mk (Kd.R_lower ho0 (below_size (by repeat (first | (with_reducible first | exact HB.out | apply below_alloc | apply pw_below_drewN | apply below_drew1) | exact HB.out)))); have n3_ := Aside0.mk (below_step (by repeat (first | (with_reducible first | exact HB.out | apply below_alloc | apply pw_below_drewN | apply below_drew1) | exact HB.out)) hb); clear HO135; clear HO138; clear HB; have HO135 := n0_; have HO138 := n1_; have HO142 := n2_; have HB := n3_; clear n0_ n1_ n2_ n3_; (try clear hb); (try clear hb2); (try clear hk); (try clear hi); (try clear ho0); obtain ⟨Ao53, co53, eo53⟩ := Kd.R_slice HO142.out; subst eo53))
              go_ret
              exact ⟨by first | rfl | (simp [errW_none, errW_some] <;> rfl) | (simp [*, errW_none, errW_some] <;> rfl), by repeat (first | (with_reducible first | exact HB.out | apply below_alloc | apply pw_below_drewN | apply below_drew1) | exact HB.out)⟩
          · replace c24 := Bool.eq_false_iff.mpr c24
            subst c24
            have H1 : (some false) = some r := by rw [if_neg (show ¬ (false = true) by decide)] at H; exact H
            clear H
            have H := H1
            clear H1
            obtain rfl := Option.some.inj H
            go_wp2_with (first | ((with_reducible refine gate_callee (f := 18) rfl ?_); refine goesL_ (some 31) rfl rfl Try.func18 (by kernel_rfl) rfl #[.slice A0 l0.length c0, .int .i64 a1] rfl (by (try simp only [List.map_toArray, List.map_cons, List.map_nil]); first | done | rfl | (simp only [List.length_drop, List.length_take]; rfl)) ?_; (with_reducible refine (watch_At.calls _ _ l0 a1 t133 _ ?side1 ?side2 A21.out).mono ?_); (case side1 => repeat (first | exact (Kd.C_below HR0.out HB.out) | (with_reducible refine Kd.C_alloc ?_ _) | (with_reducible refine Kd.C_drewN ?_ _) | (with_reducible refine Kd.C_drew ?_))); (case side2 => exact HC0.out); rintro e w54 ⟨v134, rfl, ho0, hb⟩; refine ⟨_, rfl, ?_⟩; have n0_ := Aside0.mk (Kd.R_lower ho0 (below_size (by repeat (first | (with_reducible first | exact HB.out | apply below_alloc | apply pw_below_drewN | apply below_drew1) | exact HB.out)))); have n1_ := Aside0.mk (below_step (by repeat (first | (with_reducible first | exact HB.out | apply below_alloc | apply pw_below_drewN | apply below_drew1) | exact HB.out)) hb); clear HB; have HO135 := n0_; have HB := n1_; clear n0_ n1_; (try clear hb); (try clear hb2); (try clear hk); (try clear hi); (try clear ho0); obtain ⟨Ao55, co55, eo55⟩ := Kd.R_slice HO135.out; subst eo55) | ((with_reducible refine gate_callee (f := 10) rfl ?_); refine goesL_ (some 33) rfl rfl Try.func10 (by kernel_rfl) rfl #[.slice Ao55 t133.length co55, .slice none 0 0] rfl (by (try simp only [List.map_toArray, List.map_cons, List.map_nil]); first | done | rfl | (simp only [List.length_drop, List.length_take]; rfl)) ?_; (refine (watch_Play.calls _ _ t133 _ _ ([] : List (S29)) t136 _ ?side1 ?side2 ?side3 ?side4 A22.out).mono ?_); (case side1 => repeat (first | exact (Kd.R_reads' HO135.out).2.2 | (with_reducible refine Kd.C_alloc ?_ _) | (with_reducible refine Kd.C_drewN ?_ _) | (with_reducible refine Kd.C_drew ?_))); (case side2 => exact (Kd.R_reads' HO135.out).2.1); (case side3 => exact Kd.C_nil _ _); (case side4 => exact Nat.le_refl _); rintro e w56 ⟨v137, rfl, ho0, hb⟩; refine ⟨_, rfl, ?_⟩; have n0_ := Aside0.mk (Kd.R_elder' (by (with_reducible repeat (first | apply Kd.R_alloc | apply Kd.R_drewN | apply Kd.R_drew)); exact HO135.out) (Kd.R_base ho0) hb); have n1_ := Aside0.mk (Kd.R_lower (Kd.R_new' ho0 (Kd.R_lt (by (with_reducible repeat (first | apply Kd.R_alloc | apply Kd.R_drewN | apply Kd.R_drew)); exact HO135.out))) (below_size (by repeat (first | (with_reducible first | exact HB.out | apply below_alloc | apply pw_below_drewN | apply below_drew1) | exact HB.out)))); have n2_ := Aside0.mk (below_step (by repeat (first | (with_reducible first | exact HB.out | apply below_alloc | apply pw_below_drewN | apply below_drew1) | exact HB.out)) hb); clear HO135; clear HB; have HO135 := n0_; have HO138 := n1_; have HB := n2_; clear n0_ n1_ n2_; (try clear hb); (try clear hb2); (try clear hk); (try clear hi); (try clear ho0); obtain ⟨Ao57, co57, eo57⟩ := Kd.R_slice HO138.out; subst eo57) | ((with_reducible refine gate_callee (f := 9) rfl ?_); refine goesL_ (some 35) rfl rfl Try.func9 (by kernel_rfl) rfl #[.slice Ao57 t136.length co57, .slice Ao55 t133.length co55] rfl (by (try simp only [List.map_toArray, List.map_cons, List.map_nil]); first | done | rfl | (simp only [List.length_drop, List.length_take]; rfl)) ?_; (with_reducible refine (porterlaw22_tuples.calls kj5 _ _ t136 _ _ t133 false _ ?side1 ?side2 ?side3 ?side4 A23.out).mono ?_); (case side1 => repeat (first | exact (Kd.R_reads' HO138.out).2.2 | (with_reducible refine Kd.C_alloc ?_ _) | (with_reducible refine Kd.C_drewN ?_ _) | (with_reducible refine Kd.C_drew ?_))); (case side2 => exact (Kd.R_reads' HO138.out).2.1); (case side3 => repeat (first | exact (Kd.R_reads' HO135.out).2.2 | (with_reducible refine Kd.C_alloc ?_ _) | (with_reducible refine Kd.C_drewN ?_ _) | (with_reducible refine Kd.C_drew ?_))); (case side4 => exact (Kd.R_reads' HO135.out).2.1); rintro e w' ⟨rfl, ⟨nd, rfl⟩⟩; refine ⟨_, rfl, ?_⟩))
            go_ret
            exact ⟨by first | rfl | (simp [errW_none, errW_some] <;> rfl) | (simp [*, errW_none, errW_some] <;> rfl), by repeat (first | (with_reducible first | exact HB.out | apply below_alloc | apply pw_below_drewN | apply below_drew1) | exact HB.out)⟩
  · replace c5 := Bool.eq_false_iff.mpr c5
    subst c5
    have H1 : (some false) = some r := by rw [if_neg (show ¬ (false = true) by decide)] at H; exact H
    clear H
    have H := H1
    clear H1
    obtain rfl := Option.some.inj H
    go_enter Try.func5, Try.ntmps5
    go_wp2_with (first | ((with_reducible refine gate_callee (f := 6) rfl ?_); refine goesL_ (some 8) rfl rfl Try.func6 (by kernel_rfl) rfl #[] rfl (by (try simp only [List.map_toArray, List.map_cons, List.map_nil]); first | done | rfl | (simp only [List.length_drop, List.length_take]; rfl)) ?_; (with_reducible refine (porterlaw22_awake.calls  false _ A4.out).mono ?_); rintro e w58 ⟨rfl, hb⟩; refine ⟨_, rfl, ?_⟩; have n0_ := Aside0.mk (below_step (by repeat (first | (with_reducible first | exact HB.out | apply below_alloc | apply pw_below_drewN | apply below_drew1) | exact HB.out)) hb); clear HB; have HB := n0_; clear n0_; (try clear hb); (try clear hb2); (try clear hk); (try clear hi)))
    go_ret
    exact ⟨by first | rfl | (simp [errW_none, errW_some] <;> rfl) | (simp [*, errW_none, errW_some] <;> rfl), by repeat (first | (with_reducible first | exact HB.out | apply below_alloc | apply pw_below_drewN | apply below_drew1) | exact HB.out)⟩

/-! ### porterref07_Same: function 11 -/
def porterref07_Same.l0 : Nat → List (S51) → List (S51) → Int → Option (Bool)
  | 0, _, _, _ => none
  | k + 1, x0, x1, x5 => if x5 < (x0.length : Int) then (if 0 ≤ x5 then (if x5 < (x1.length : Int) then (if ((!((((rd_T51 x0 x5).f0.f0).toList) == (((rd_T51 x1 x5).f0.f0).toList)) || (!((((rd_T51 x0 x5).f0.f1).toList) == (((rd_T51 x1 x5).f0.f1).toList)) || (!((((rd_T51 x0 x5).f0.f2).toList) == (((rd_T51 x1 x5).f0.f2).toList))))) || (!(((rd_T51 x0 x5).f1) == ((rd_T51 x1 x5).f1)) || (!(((rd_T51 x0 x5).f2) == ((rd_T51 x1 x5).f2))))) = true then (some false) else (porterref07_Same.l0 k x0 x1 (wrap64 (x5 + 1)))) else (none)) else (none)) else (some true)
def porterref07_Same.f (k : Nat) (l0 : List (S51)) (l1 : List (S51)) : Option (Bool) := if (l0.length : Int) = (l1.length : Int) then (porterref07_Same.l0 k l0 l1 0) else (some false)
theorem porterref07_Same.mono_l : ∀ k, (∀ y0 y1 y2, LeO (porterref07_Same.l0 k y0 y1 y2) (porterref07_Same.l0 (k + 1) y0 y1 y2))
  | 0 => fun _ _ _ r h => by simp [porterref07_Same.l0] at h
  | k + 1 => by
    have ih0 := porterref07_Same.mono_l k
    · intro y0 y1 y2
      unfold porterref07_Same.l0
      repeat' first
      | (with_reducible exact ih0 _ _ _)
      | (with_reducible exact LeO.refl _)
      | (with_reducible exact LeO.none _)
      | (with_reducible refine LeO.ite ?_ ?_)
      | (with_reducible refine LeO.bind ?_ (fun _ => ?_))
      | exact ih0 _ _ _
      | exact LeO.none _
      | refine LeO.ite ?_ ?_
      | refine LeO.bind ?_ (fun _ => ?_)
theorem porterref07_Same.mono : ∀ a0 a1 k, LeO (porterref07_Same.f k a0 a1) (porterref07_Same.f (k + 1) a0 a1) := by
  intro a0 a1 k
  have ih0 := porterref07_Same.mono_l k
  unfold porterref07_Same.f
  repeat' first
      | (with_reducible exact ih0 _ _ _)
      | (with_reducible exact LeO.refl _)
      | (with_reducible exact LeO.none _)
      | (with_reducible refine LeO.ite ?_ ?_)
      | (with_reducible refine LeO.bind ?_ (fun _ => ?_))
      | exact ih0 _ _ _
      | exact LeO.none _
      | refine LeO.ite ?_ ?_
      | refine LeO.bind ?_ (fun _ => ?_)
set_option maxHeartbeats 8000000 in
set_option maxRecDepth 100000 in
theorem porterref07_Same.calls (k : Nat) (A0 : Option Addr) (c0 : Nat) (l0 : List (S51)) (A1 : Option Addr) (c1 : Nat) (l1 : List (S51)) (r : Bool) (w : World) (hr0 : Kd.C k51 w A0 l0.length l0) (hc0 : l0.length ≤ c0) (hr1 : Kd.C k51 w A1 l1.length l1) (hc1 : l1.length ≤ c1) (h : porterref07_Same.f k l0 l1 = some r) :
    Calls Try.prog 11 #[.slice A0 l0.length c0, .slice A1 l1.length c1] w fun e w' => e = .returned (.bool r) ∧ Drawn0 w w' := by
  have hu51 := Try.underlying51
  have HR0 := Aside0.mk hr0
  have HC0 := Aside0.mk hc0
  clear hr0 hc0
  have HR1 := Aside0.mk hr1
  have HC1 := Aside0.mk hc1
  clear hr1 hc1
  have H : (if (l0.length : Int) = (l1.length : Int) then (porterref07_Same.l0 k l0 l1 0) else (some false)) = some r := h
  clear h
  by_cases c3 : (l0.length : Int) = (l1.length : Int)
  · rw [if_pos c3] at H
    have c3b0 : ((l0.length : Int) == (l1.length : Int)) = true := beq_iff_eq.mpr c3
    have c3b1 : ((l0.length : Int) != (l1.length : Int)) = false := bne_eq_false_iff_eq.mpr c3
    have c3b2 : (l0.length == l1.length) = true := by first | simpa using c3 | (simp at c3 ⊢; omega)
    clear c3
    have H' := Aside0.mk H
    clear H
    go_enter Try.func11, Try.ntmps11
    go_wp2
    repeat (go_quiet (fail); try go_wp2)
    go_loopg [5] k (fun kq v5 w' => ∃ (x5_1 : Int), v5 = .int .i64 x5_1 ∧ Aside0 (porterref07_Same.l0 kq l0 l1 x5_1 = some r) ∧ Aside0 (kq ≤ k) ∧ Drawn0 w w')
    case atStart => exact ⟨(0), (by first | rfl | (simp; done) | (simp [*]; done)), H', ⟨Nat.le_refl _⟩, by repeat (first | exact Drawn0.refl _ | apply Drawn0.step)⟩
    case round =>
      clear H'
      try clear c1
      try clear p2
      try clear c3
      try clear c3b0
      try clear c3b1
      try clear c3b2
      obtain ⟨x5_1, rfl, HA, HK1, ⟨m1, rfl⟩⟩ := hrel
      cases gk with
      | zero => exact absurd HA.out (by simp [porterref07_Same.l0])
      | succ k1 =>
        have H := HA.out
        clear HA
        simp only [porterref07_Same.l0] at H
        by_cases c4 : x5_1 < (l0.length : Int)
        · rw [if_pos c4] at H
          have c4b0 : decide (x5_1 < (l0.length : Int)) = true := decide_eq_true c4
          clear c4
          by_cases c5 : 0 ≤ x5_1
          · rw [if_pos c5] at H
            have c5b0 : decide (0 ≤ x5_1) = true := decide_eq_true c5
            clear c5
            by_cases c6 : x5_1 < (l1.length : Int)
            · rw [if_pos c6] at H
              have c6b0 : decide (x5_1 < (l1.length : Int)) = true := decide_eq_true c6
              clear c6
              by_cases c7 : ((!((((rd_T51 l0 x5_1).f0.f0).toList) == (((rd_T51 l1 x5_1).f0.f0).toList)) || (!((((rd_T51 l0 x5_1).f0.f1).toList) == (((rd_T51 l1 x5_1).f0.f1).toList)) || (!((((rd_T51 l0 x5_1).f0.f2).toList) == (((rd_T51 l1 x5_1).f0.f2).toList))))) || (!(((rd_T51 l0 x5_1).f1) == ((rd_T51 l1 x5_1).f1)) || (!(((rd_T51 l0 x5_1).f2) == ((rd_T51 l1 x5_1).f2))))) = true
              · rw [if_pos c7] at H
                have c7b0 : ((!((((rd_T51 l0 x5_1).f0.f0).toList) == (((rd_T51 l1 x5_1).f0.f0).toList)) || (!((((rd_T51 l0 x5_1).f0.f1).toList) == (((rd_T51 l1 x5_1).f0.f1).toList)) || (!((((rd_T51 l0 x5_1).f0.f2).toList) == (((rd_T51 l1 x5_1).f0.f2).toList))))) || (!(((rd_T51 l0 x5_1).f1) == ((rd_T51 l1 x5_1).f1)) || (!(((rd_T51 l0 x5_1).f2) == ((rd_T51 l1 x5_1).f2))))) = true := c7
                clear c7
                obtain rfl := Option.some.inj H
                have p149 : 0 ≤ (x5_1 : Int) := of_decide_eq_true (by first | (with_reducible assumption) | assumption)
                have q149 : x5_1 < (l0.length : Int) := of_decide_eq_true (by first | (with_reducible assumption) | assumption)
                obtain ⟨ad149, e149, hx149_0, hx149_1, hx149_2, hx149_3, hx149_4⟩ := at_T51 HR0.out x5_1 p149 q149
                cases e149
                replace p149 := eq_true p149
                replace q149 := eq_true q149
                have p150 : 0 ≤ (x5_1 : Int) := of_decide_eq_true (by first | (with_reducible assumption) | assumption)
                have q150 : x5_1 < (l1.length : Int) := of_decide_eq_true (by first | (with_reducible assumption) | assumption)
                obtain ⟨ad150, e150, hx150_0, hx150_1, hx150_2, hx150_3, hx150_4⟩ := at_T51 HR1.out x5_1 p150 q150
                cases e150
                replace p150 := eq_true p150
                replace q150 := eq_true q150
                go_wp2
                repeat (go_quiet (fail); try go_wp2)
                go_ret
                exact ⟨by first | rfl | (simp; done) | (simp [*]; done), by repeat (first | exact Drawn0.refl _ | apply Drawn0.step)⟩
              · rw [if_neg c7] at H
                have c7b0 : ((!((((rd_T51 l0 x5_1).f0.f0).toList) == (((rd_T51 l1 x5_1).f0.f0).toList)) || (!((((rd_T51 l0 x5_1).f0.f1).toList) == (((rd_T51 l1 x5_1).f0.f1).toList)) || (!((((rd_T51 l0 x5_1).f0.f2).toList) == (((rd_T51 l1 x5_1).f0.f2).toList))))) || (!(((rd_T51 l0 x5_1).f1) == ((rd_T51 l1 x5_1).f1)) || (!(((rd_T51 l0 x5_1).f2) == ((rd_T51 l1 x5_1).f2))))) = false := by simpa using c7
                clear c7
                have H' := Aside0.mk H
                clear H
                have p149 : 0 ≤ (x5_1 : Int) := of_decide_eq_true (by first | (with_reducible assumption) | assumption)
                have q149 : x5_1 < (l0.length : Int) := of_decide_eq_true (by first | (with_reducible assumption) | assumption)
                obtain ⟨ad149, e149, hx149_0, hx149_1, hx149_2, hx149_3, hx149_4⟩ := at_T51 HR0.out x5_1 p149 q149
                cases e149
                replace p149 := eq_true p149
                replace q149 := eq_true q149
                have p150 : 0 ≤ (x5_1 : Int) := of_decide_eq_true (by first | (with_reducible assumption) | assumption)
                have q150 : x5_1 < (l1.length : Int) := of_decide_eq_true (by first | (with_reducible assumption) | assumption)
                obtain ⟨ad150, e150, hx150_0, hx150_1, hx150_2, hx150_3, hx150_4⟩ := at_T51 HR1.out x5_1 p150 q150
                cases e150
                replace p150 := eq_true p150
                replace q150 := eq_true q150
                go_wp2
                repeat (go_quiet (fail); try go_wp2)
                go_roundg k1
                case measure => have := HK1.out; omega
                case rel => exact ⟨(wrap64 (x5_1 + 1)), (by first | rfl | (simp; done) | (simp [*]; done)), H', ⟨by have := HK1.out; omega⟩, by repeat (first | exact Drawn0.refl _ | apply Drawn0.step)⟩
            · rw [if_neg c6] at H
              exact absurd H (by simp)
          · rw [if_neg c5] at H
            exact absurd H (by simp)
        · rw [if_neg c4] at H
          have c4b0 : decide (x5_1 < (l0.length : Int)) = false := decide_eq_false c4
          clear c4
          obtain rfl := Option.some.inj H
          go_wp2
          repeat (go_quiet (fail); try go_wp2)
          go_ret
          exact ⟨by first | rfl | (simp; done) | (simp [*]; done), by repeat (first | exact Drawn0.refl _ | apply Drawn0.step)⟩
  · rw [if_neg c3] at H
    have c3b0 : ((l0.length : Int) == (l1.length : Int)) = false := beq_eq_false_iff_ne.mpr c3
    have c3b1 : ((l0.length : Int) != (l1.length : Int)) = true := bne_iff_ne.mpr c3
    have c3b2 : (l0.length == l1.length) = false := by first | simpa using c3 | (simp at c3 ⊢; omega)
    obtain rfl := Option.some.inj H
    go_enter Try.func11, Try.ntmps11
    go_wp2
    repeat (go_quiet (fail); try go_wp2)
    go_ret
    exact ⟨by first | rfl | (simp; done) | (simp [*]; done), by repeat (first | exact Drawn0.refl _ | apply Drawn0.step)⟩

/-! ### porterref05_Less: function 45 -/
def porterref05_Less.f (a0_0 : ByteArray) (a0_1 : ByteArray) (a0_2 : ByteArray) (a1_0 : ByteArray) (a1_1 : ByteArray) (a1_2 : ByteArray) : Option (Bool) := if a0_0.toList = a1_0.toList then (if a0_1.toList = a1_1.toList then (some (Op.bytesLess a0_2.toList a1_2.toList)) else (some (Op.bytesLess a0_1.toList a1_1.toList))) else (some (Op.bytesLess a0_0.toList a1_0.toList))
set_option maxHeartbeats 8000000 in
set_option maxRecDepth 100000 in
theorem porterref05_Less.calls (a0_0 : ByteArray) (a0_1 : ByteArray) (a0_2 : ByteArray) (a1_0 : ByteArray) (a1_1 : ByteArray) (a1_2 : ByteArray) (r : Bool) (w : World) (h : porterref05_Less.f a0_0 a0_1 a0_2 a1_0 a1_1 a1_2 = some r) :
    Calls Try.prog 45 #[.agg #[.string a0_0, .string a0_1, .string a0_2], .agg #[.string a1_0, .string a1_1, .string a1_2]] w fun e w' => e = .returned (.bool r) ∧ Below w.heap.size w w' := by
  have hu25 := Try.underlying25
  have HB := Aside0.mk (Below.refl w.heap.size w)
  have H : (if a0_0.toList = a1_0.toList then (if a0_1.toList = a1_1.toList then (some (Op.bytesLess a0_2.toList a1_2.toList)) else (some (Op.bytesLess a0_1.toList a1_1.toList))) else (some (Op.bytesLess a0_0.toList a1_0.toList))) = some r := h
  clear h
  by_cases c3 : a0_0.toList = a1_0.toList
  · rw [if_pos c3] at H
    have c3b0 : (a0_0.toList == a1_0.toList) = true := beq_iff_eq.mpr c3
    have c3b1 : (a0_0.toList != a1_0.toList) = false := bne_eq_false_iff_eq.mpr c3
    clear c3
    by_cases c4 : a0_1.toList = a1_1.toList
    · rw [if_pos c4] at H
      have c4b0 : (a0_1.toList == a1_1.toList) = true := beq_iff_eq.mpr c4
      have c4b1 : (a0_1.toList != a1_1.toList) = false := bne_eq_false_iff_eq.mpr c4
      clear c4
      obtain rfl := Option.some.inj H
      go_enter Try.func45, Try.ntmps45
      go_wp2_with (first | ((with_reducible refine gate_dst (N := 2) rfl ?_); refine box_event ?hg (N := 2) ?hd (cs := #[.string a0_0, .string a0_1, .string a0_2]) (t := 25) ?hr ?_; (case hd => rfl); (case hg => rfl); (case hr => first | (go_simp; done) | (go_simp; rfl)); intro gb151 hg w5 hbox hb; have n0_ := Aside0.mk (below_step (by repeat (first | (with_reducible first | exact HB.out | apply below_alloc | apply pw_below_drewN | apply below_drew1) | exact HB.out)) hb); have n1_ := Aside0.mk (hbox); have n2_ := Aside0.mk ((by rw [hg]; exact (below_size (by repeat (first | (with_reducible first | exact HB.out | apply below_alloc | apply pw_below_drewN | apply below_drew1) | exact HB.out))) : w.heap.size ≤ gb151)); have n3_ := Aside0.mk ((by rw [hg]; exact (below_size (by repeat (first | (with_reducible first | exact HB.out | apply below_alloc | apply pw_below_drewN | apply below_drew1) | exact HB.out))) : w.heap.size ≤ gb151)); clear HB; have HB := n0_; have BK151 := n1_; have GW151 := n2_; have GE151 := n3_; clear n0_ n1_ n2_ n3_; clear hb hbox hg) | ((with_reducible refine gate_dst (N := 3) rfl ?_); refine box_event ?hg (N := 3) ?hd (cs := #[.string a1_0, .string a1_1, .string a1_2]) (t := 25) ?hr ?_; (case hd => rfl); (case hg => rfl); (case hr => first | (go_simp; done) | (go_simp; rfl)); intro gb152 hg w6 hbox hb; have n0_ := Aside0.mk (blk_below (g := gb151) (o := .cells #[.string a0_0, .string a0_1, .string a0_2] 25 (0, 0)) (by (with_reducible repeat (first | refine blk_drewN ?_ _ | refine blk_drew ?_ | refine blk_alloc ?_ _)); exact BK151.out) hb); have n1_ := Aside0.mk (below_step (by repeat (first | (with_reducible first | exact HB.out | apply below_alloc | apply pw_below_drewN | apply below_drew1 | refine below_set ?_ GE151.out) | exact HB.out)) hb); have n2_ := Aside0.mk (hbox); have n3_ := Aside0.mk ((by rw [hg]; exact (below_size (by repeat (first | (with_reducible first | exact HB.out | apply below_alloc | apply pw_below_drewN | apply below_drew1 | refine below_set ?_ GE151.out) | exact HB.out))) : w.heap.size ≤ gb152)); have n4_ := Aside0.mk ((by rw [hg]; exact (below_size (by repeat (first | (with_reducible first | exact HB.out | apply below_alloc | apply pw_below_drewN | apply below_drew1 | refine below_set ?_ GE151.out) | exact HB.out))) : w.heap.size ≤ gb152)); have n5_ := Aside0.mk ((by rw [hg]; exact Nat.ne_of_lt (blk_lt (g := gb151) (o := .cells #[.string a0_0, .string a0_1, .string a0_2] 25 (0, 0)) (by (with_reducible repeat (first | refine blk_drewN ?_ _ | refine blk_drew ?_ | refine blk_alloc ?_ _)); exact BK151.out)) : gb151 ≠ gb152)); have n6_ := Aside0.mk ((by rw [hg]; exact Nat.ne_of_gt (blk_lt (g := gb151) (o := .cells #[.string a0_0, .string a0_1, .string a0_2] 25 (0, 0)) (by (with_reducible repeat (first | refine blk_drewN ?_ _ | refine blk_drew ?_ | refine blk_alloc ?_ _)); exact BK151.out)) : gb152 ≠ gb151)); clear BK151; clear HB; have BK151 := n0_; have HB := n1_; have BK152 := n2_; have GW152 := n3_; have GE152 := n4_; have NB151_152 := n5_; have NB152_151 := n6_; clear n0_ n1_ n2_ n3_ n4_ n5_ n6_; clear hb hbox hg; have hnb7 := NB151_152.out; have hnc7 := NB152_151.out; have hcz8_0 : w6.cell? ⟨gb151, 0, none⟩ = some (.string a0_0) := (blk_cell BK151.out 0).trans rfl; have hcz8_1 : w6.cell? ⟨gb151, 1, none⟩ = some (.string a0_1) := (blk_cell BK151.out 1).trans rfl; have hcz8_2 : w6.cell? ⟨gb151, 2, none⟩ = some (.string a0_2) := (blk_cell BK151.out 2).trans rfl; have hfz8_0 := blk_frozen BK151.out 0; have hfz8_1 := blk_frozen BK151.out 1; have hfz8_2 := blk_frozen BK151.out 2; have hcz9_0 : w6.cell? ⟨gb152, 0, none⟩ = some (.string a1_0) := (blk_cell BK152.out 0).trans rfl; have hcz9_1 : w6.cell? ⟨gb152, 1, none⟩ = some (.string a1_1) := (blk_cell BK152.out 1).trans rfl; have hcz9_2 : w6.cell? ⟨gb152, 2, none⟩ = some (.string a1_2) := (blk_cell BK152.out 2).trans rfl; have hfz9_0 := blk_frozen BK152.out 0; have hfz9_1 := blk_frozen BK152.out 1; have hfz9_2 := blk_frozen BK152.out 2))
      go_ret
      exact ⟨by first | rfl | (simp [errW_none, errW_some] <;> rfl) | (simp [*, errW_none, errW_some] <;> rfl), by repeat (first | (with_reducible first | exact HB.out | apply below_alloc | apply pw_below_drewN | apply below_drew1 | refine below_set ?_ GE151.out | refine below_set ?_ GE152.out) | exact HB.out)⟩
    · rw [if_neg c4] at H
      have c4b0 : (a0_1.toList == a1_1.toList) = false := beq_eq_false_iff_ne.mpr c4
      have c4b1 : (a0_1.toList != a1_1.toList) = true := bne_iff_ne.mpr c4
      obtain rfl := Option.some.inj H
      go_enter Try.func45, Try.ntmps45
      go_wp2_with (first | ((with_reducible refine gate_dst (N := 2) rfl ?_); refine box_event ?hg (N := 2) ?hd (cs := #[.string a0_0, .string a0_1, .string a0_2]) (t := 25) ?hr ?_; (case hd => rfl); (case hg => rfl); (case hr => first | (go_simp; done) | (go_simp; rfl)); intro gb151 hg w10 hbox hb; have n0_ := Aside0.mk (below_step (by repeat (first | (with_reducible first | exact HB.out | apply below_alloc | apply pw_below_drewN | apply below_drew1) | exact HB.out)) hb); have n1_ := Aside0.mk (hbox); have n2_ := Aside0.mk ((by rw [hg]; exact (below_size (by repeat (first | (with_reducible first | exact HB.out | apply below_alloc | apply pw_below_drewN | apply below_drew1) | exact HB.out))) : w.heap.size ≤ gb151)); have n3_ := Aside0.mk ((by rw [hg]; exact (below_size (by repeat (first | (with_reducible first | exact HB.out | apply below_alloc | apply pw_below_drewN | apply below_drew1) | exact HB.out))) : w.heap.size ≤ gb151)); clear HB; have HB := n0_; have BK151 := n1_; have GW151 := n2_; have GE151 := n3_; clear n0_ n1_ n2_ n3_; clear hb hbox hg) | ((with_reducible refine gate_dst (N := 3) rfl ?_); refine box_event ?hg (N := 3) ?hd (cs := #[.string a1_0, .string a1_1, .string a1_2]) (t := 25) ?hr ?_; (case hd => rfl); (case hg => rfl); (case hr => first | (go_simp; done) | (go_simp; rfl)); intro gb152 hg w11 hbox hb; have n0_ := Aside0.mk (blk_below (g := gb151) (o := .cells #[.string a0_0, .string a0_1, .string a0_2] 25 (0, 0)) (by (with_reducible repeat (first | refine blk_drewN ?_ _ | refine blk_drew ?_ | refine blk_alloc ?_ _)); exact BK151.out) hb); have n1_ := Aside0.mk (below_step (by repeat (first | (with_reducible first | exact HB.out | apply below_alloc | apply pw_below_drewN | apply below_drew1 | refine below_set ?_ GE151.out) | exact HB.out)) hb); have n2_ := Aside0.mk (hbox); have n3_ := Aside0.mk ((by rw [hg]; exact (below_size (by repeat (first | (with_reducible first | exact HB.out | apply below_alloc | apply pw_below_drewN | apply below_drew1 | refine below_set ?_ GE151.out) | exact HB.out))) : w.heap.size ≤ gb152)); have n4_ := Aside0.mk ((by rw [hg]; exact (below_size (by repeat (first | (with_reducible first | exact HB.out | apply below_alloc | apply pw_below_drewN | apply below_drew1 | refine below_set ?_ GE151.out) | exact HB.out))) : w.heap.size ≤ gb152)); have n5_ := Aside0.mk ((by rw [hg]; exact Nat.ne_of_lt (blk_lt (g := gb151) (o := .cells #[.string a0_0, .string a0_1, .string a0_2] 25 (0, 0)) (by (with_reducible repeat (first | refine blk_drewN ?_ _ | refine blk_drew ?_ | refine blk_alloc ?_ _)); exact BK151.out)) : gb151 ≠ gb152)); have n6_ := Aside0.mk ((by rw [hg]; exact Nat.ne_of_gt (blk_lt (g := gb151) (o := .cells #[.string a0_0, .string a0_1, .string a0_2] 25 (0, 0)) (by (with_reducible repeat (first | refine blk_drewN ?_ _ | refine blk_drew ?_ | refine blk_alloc ?_ _)); exact BK151.out)) : gb152 ≠ gb151)); clear BK151; clear HB; have BK151 := n0_; have HB := n1_; have BK152 := n2_; have GW152 := n3_; have GE152 := n4_; have NB151_152 := n5_; have NB152_151 := n6_; clear n0_ n1_ n2_ n3_ n4_ n5_ n6_; clear hb hbox hg; have hnb12 := NB151_152.out; have hnc12 := NB152_151.out; have hcz13_0 : w11.cell? ⟨gb151, 0, none⟩ = some (.string a0_0) := (blk_cell BK151.out 0).trans rfl; have hcz13_1 : w11.cell? ⟨gb151, 1, none⟩ = some (.string a0_1) := (blk_cell BK151.out 1).trans rfl; have hcz13_2 : w11.cell? ⟨gb151, 2, none⟩ = some (.string a0_2) := (blk_cell BK151.out 2).trans rfl; have hfz13_0 := blk_frozen BK151.out 0; have hfz13_1 := blk_frozen BK151.out 1; have hfz13_2 := blk_frozen BK151.out 2; have hcz14_0 : w11.cell? ⟨gb152, 0, none⟩ = some (.string a1_0) := (blk_cell BK152.out 0).trans rfl; have hcz14_1 : w11.cell? ⟨gb152, 1, none⟩ = some (.string a1_1) := (blk_cell BK152.out 1).trans rfl; have hcz14_2 : w11.cell? ⟨gb152, 2, none⟩ = some (.string a1_2) := (blk_cell BK152.out 2).trans rfl; have hfz14_0 := blk_frozen BK152.out 0; have hfz14_1 := blk_frozen BK152.out 1; have hfz14_2 := blk_frozen BK152.out 2))
      go_ret
      exact ⟨by first | rfl | (simp [errW_none, errW_some] <;> rfl) | (simp [*, errW_none, errW_some] <;> rfl), by repeat (first | (with_reducible first | exact HB.out | apply below_alloc | apply pw_below_drewN | apply below_drew1 | refine below_set ?_ GE151.out | refine below_set ?_ GE152.out) | exact HB.out)⟩
  · rw [if_neg c3] at H
    have c3b0 : (a0_0.toList == a1_0.toList) = false := beq_eq_false_iff_ne.mpr c3
    have c3b1 : (a0_0.toList != a1_0.toList) = true := bne_iff_ne.mpr c3
    obtain rfl := Option.some.inj H
    go_enter Try.func45, Try.ntmps45
    go_wp2_with (first | ((with_reducible refine gate_dst (N := 2) rfl ?_); refine box_event ?hg (N := 2) ?hd (cs := #[.string a0_0, .string a0_1, .string a0_2]) (t := 25) ?hr ?_; (case hd => rfl); (case hg => rfl); (case hr => first | (go_simp; done) | (go_simp; rfl)); intro gb151 hg w15 hbox hb; have n0_ := Aside0.mk (below_step (by repeat (first | (with_reducible first | exact HB.out | apply below_alloc | apply pw_below_drewN | apply below_drew1) | exact HB.out)) hb); have n1_ := Aside0.mk (hbox); have n2_ := Aside0.mk ((by rw [hg]; exact (below_size (by repeat (first | (with_reducible first | exact HB.out | apply below_alloc | apply pw_below_drewN | apply below_drew1) | exact HB.out))) : w.heap.size ≤ gb151)); have n3_ := Aside0.mk ((by rw [hg]; exact (below_size (by repeat (first | (with_reducible first | exact HB.out | apply below_alloc | apply pw_below_drewN | apply below_drew1) | exact HB.out))) : w.heap.size ≤ gb151)); clear HB; have HB := n0_; have BK151 := n1_; have GW151 := n2_; have GE151 := n3_; clear n0_ n1_ n2_ n3_; clear hb hbox hg) | ((with_reducible refine gate_dst (N := 3) rfl ?_); refine box_event ?hg (N := 3) ?hd (cs := #[.string a1_0, .string a1_1, .string a1_2]) (t := 25) ?hr ?_; (case hd => rfl); (case hg => rfl); (case hr => first | (go_simp; done) | (go_simp; rfl)); intro gb152 hg w16 hbox hb; have n0_ := Aside0.mk (blk_below (g := gb151) (o := .cells #[.string a0_0, .string a0_1, .string a0_2] 25 (0, 0)) (by (with_reducible repeat (first | refine blk_drewN ?_ _ | refine blk_drew ?_ | refine blk_alloc ?_ _)); exact BK151.out) hb); have n1_ := Aside0.mk (below_step (by repeat (first | (with_reducible first | exact HB.out | apply below_alloc | apply pw_below_drewN | apply below_drew1 | refine below_set ?_ GE151.out) | exact HB.out)) hb); have n2_ := Aside0.mk (hbox); have n3_ := Aside0.mk ((by rw [hg]; exact (below_size (by repeat (first | (with_reducible first | exact HB.out | apply below_alloc | apply pw_below_drewN | apply below_drew1 | refine below_set ?_ GE151.out) | exact HB.out))) : w.heap.size ≤ gb152)); have n4_ := Aside0.mk ((by rw [hg]; exact (below_size (by repeat (first | (with_reducible first | exact HB.out | apply below_alloc | apply pw_below_drewN | apply below_drew1 | refine below_set ?_ GE151.out) | exact HB.out))) : w.heap.size ≤ gb152)); have n5_ := Aside0.mk ((by rw [hg]; exact Nat.ne_of_lt (blk_lt (g := gb151) (o := .cells #[.string a0_0, .string a0_1, .string a0_2] 25 (0, 0)) (by (with_reducible repeat (first | refine blk_drewN ?_ _ | refine blk_drew ?_ | refine blk_alloc ?_ _)); exact BK151.out)) : gb151 ≠ gb152)); have n6_ := Aside0.mk ((by rw [hg]; exact Nat.ne_of_gt (blk_lt (g := gb151) (o := .cells #[.string a0_0, .string a0_1, .string a0_2] 25 (0, 0)) (by (with_reducible repeat (first | refine blk_drewN ?_ _ | refine blk_drew ?_ | refine blk_alloc ?_ _)); exact BK151.out)) : gb152 ≠ gb151)); clear BK151; clear HB; have BK151 := n0_; have HB := n1_; have BK152 := n2_; have GW152 := n3_; have GE152 := n4_; have NB151_152 := n5_; have NB152_151 := n6_; clear n0_ n1_ n2_ n3_ n4_ n5_ n6_; clear hb hbox hg; have hnb17 := NB151_152.out; have hnc17 := NB152_151.out; have hcz18_0 : w16.cell? ⟨gb151, 0, none⟩ = some (.string a0_0) := (blk_cell BK151.out 0).trans rfl; have hcz18_1 : w16.cell? ⟨gb151, 1, none⟩ = some (.string a0_1) := (blk_cell BK151.out 1).trans rfl; have hcz18_2 : w16.cell? ⟨gb151, 2, none⟩ = some (.string a0_2) := (blk_cell BK151.out 2).trans rfl; have hfz18_0 := blk_frozen BK151.out 0; have hfz18_1 := blk_frozen BK151.out 1; have hfz18_2 := blk_frozen BK151.out 2; have hcz19_0 : w16.cell? ⟨gb152, 0, none⟩ = some (.string a1_0) := (blk_cell BK152.out 0).trans rfl; have hcz19_1 : w16.cell? ⟨gb152, 1, none⟩ = some (.string a1_1) := (blk_cell BK152.out 1).trans rfl; have hcz19_2 : w16.cell? ⟨gb152, 2, none⟩ = some (.string a1_2) := (blk_cell BK152.out 2).trans rfl; have hfz19_0 := blk_frozen BK152.out 0; have hfz19_1 := blk_frozen BK152.out 1; have hfz19_2 := blk_frozen BK152.out 2))
    go_ret
    exact ⟨by first | rfl | (simp [errW_none, errW_some] <;> rfl) | (simp [*, errW_none, errW_some] <;> rfl), by repeat (first | (with_reducible first | exact HB.out | apply below_alloc | apply pw_below_drewN | apply below_drew1 | refine below_set ?_ GE151.out | refine below_set ?_ GE152.out) | exact HB.out)⟩

end Go.Proofs.Ytgjkidclpehnjaa.Pr

namespace Go.Proofs.Ytgjkidclpehnjaa.Pr
open Go.Proofs.Ytgjkidclpehnjaa Go.Sort

theorem msort_self {α : Type} {lt : α → α → Bool} (hS : SWO lt) {l : List α} (h : SortedL lt l) : msort lt l = l := (eq_msort hS h (Stab.refl l)).symm
theorem msort_none {α : Type} (lt : α → α → Bool) : msort lt ([] : List α) = [] := by simp [msort]
theorem swoT : SWO ltT := cmp_T.swo
theorem swoCh : SWO ltCh := cmp_Ch.swo
theorem swoRo : SWO ltRo := cmp_Ro.swo
theorem swoMu : SWO ltMu := cmp_Mu.swo
theorem ltT_conn {a b : T} (h1 : ltT a b = false) (h2 : ltT b a = false) : a = b := by
  have a1 := cmp_T.anti a b
  unfold ltT ltOf at h1 h2
  rw [decide_eq_false_iff_not] at h1 h2
  exact cmpT_zero.1 (by omega)
theorem ltT_asymm {a b : T} (h : ltT a b = true) : ltT b a = false := by
  cases hq : ltT b a with
  | false => rfl
  | true => have := swoT.trans a b a h hq; rw [swoT.irrefl] at this; cases this
/-- Each below each that comes behind it. -/
def Strict (l : List T) : Prop := l.Pairwise (fun x y => ltT x y = true)
theorem Strict.sorted {l : List T} (h : Strict l) : SortedL ltT l := h.imp (fun h => ltT_asymm h)
theorem Strict.nodup {l : List T} (h : Strict l) : l.Nodup := h.imp (fun {a b} h e => by subst e; rw [swoT.irrefl] at h; cases h)
theorem strict_of {l : List T} (h1 : SortedL ltT l) (h2 : l.Nodup) : Strict l := by
  induction l with
  | nil => exact List.Pairwise.nil
  | cons x l ih =>
    rw [SortedL, List.pairwise_cons] at h1
    rw [List.nodup_cons] at h2
    refine List.pairwise_cons.2 ⟨fun y hy => ?_, ih h1.2 h2.2⟩
    cases hq : ltT x y with
    | true => rfl
    | false => exact absurd hy (by rw [← ltT_conn hq (h1.1 y hy)]; exact h2.1)
theorem compactFrom_strict : ∀ (l : List T) (p : T), SortedL ltT (p :: l) → Strict (p :: compactFrom p l)
  | [], p, _ => by simp [compactFrom, Strict]
  | y :: l, p, h => by
    rw [compactFrom]
    rw [SortedL, List.pairwise_cons, List.pairwise_cons] at h
    obtain ⟨h1, h2, h3⟩ := h
    by_cases hy : y = p
    · rw [if_pos hy]
      exact compactFrom_strict l p (List.pairwise_cons.2 ⟨fun z hz => h1 z (List.mem_cons_of_mem _ hz), h3⟩)
    · rw [if_neg hy]
      have ih := compactFrom_strict l y (List.pairwise_cons.2 ⟨h2, h3⟩)
      have hpy : ltT p y = true := by
        cases hq : ltT p y with
        | true => rfl
        | false => exact absurd (ltT_conn (h1 y (by simp)) hq) hy
      refine List.pairwise_cons.2 ⟨fun z hz => ?_, ih⟩
      rcases List.mem_cons.1 hz with rfl | hz
      · exact hpy
      · exact swoT.trans _ _ _ hpy ((List.pairwise_cons.1 ih).1 z hz)
theorem compactL_strict {l : List T} (h : SortedL ltT l) : Strict (compactL l) := by
  cases l with
  | nil => exact List.Pairwise.nil
  | cons x l => exact compactFrom_strict l x h
theorem compactFrom_len {α : Type} [DecidableEq α] : ∀ (l : List α) (p : α), (compactFrom p l).length ≤ l.length
  | [], p => by simp [compactFrom]
  | y :: l, p => by
    rw [compactFrom]
    split
    · exact Nat.le_trans (compactFrom_len l p) (by simp)
    · simp [compactFrom_len l y]
theorem compactL_len {α : Type} [DecidableEq α] (l : List α) : (compactL l).length ≤ l.length := by
  cases l with
  | nil => simp [compactL]
  | cons x l => simp [compactL, compactFrom_len l x]
theorem compactFrom_mem {α : Type} [DecidableEq α] (z : α) : ∀ (l : List α) (p : α), z ∈ p :: compactFrom p l ↔ z ∈ p :: l
  | [], p => by simp [compactFrom]
  | y :: l, p => by
    rw [compactFrom]
    split
    · rename_i h
      subst h
      rw [compactFrom_mem z l y]; simp
    · have := compactFrom_mem z l y
      rw [List.mem_cons, this]; simp
theorem compactL_mem {α : Type} [DecidableEq α] (z : α) (l : List α) : z ∈ compactL l ↔ z ∈ l := by
  cases l with
  | nil => simp [compactL]
  | cons x l => exact compactFrom_mem z l x
theorem msort_mem {α : Type} {lt : α → α → Bool} (l : List α) (z : α) : z ∈ msort lt l ↔ z ∈ l := (msort_perm lt l).mem_iff
theorem msort_len {α : Type} {lt : α → α → Bool} (l : List α) : (msort lt l).length = l.length := (msort_perm lt l).length_eq

theorem tiny_of {n : Nat} (h : n ≤ 1073741824) : tiny n = true := decide_eq_true h
theorem chIf_none {fr to_ rev : Int} {del : Bool} {t : T} (h : to_ ≤ fr) : chIf fr to_ rev del t = [] := by
  unfold chIf
  rw [if_neg (by omega)]
theorem chOf_none {fr to_ : Int} (r : Ro) (h : to_ ≤ fr) : chOf fr to_ r = [] := by
  unfold chOf
  split
  · rfl
  · rw [chIf_none h, chIf_none h]; split <;> rfl
theorem Changes_none (l : List Ro) {a b : Int} (h : b ≤ a) (hl : l.length ≤ 1073741824) : watch_Changes.f l a b = some [] := by
  unfold watch_Changes.f
  rw [if_pos (tiny_of hl)]
  have : l.flatMap (chOf a b) = [] := by
    rw [List.flatMap_eq_nil_iff]
    intro r _
    exact chOf_none r h
  rw [this, msort_none]
/-- What At hands back. -/
def atL (l : List Ro) (a : Int) : List T := compactL (msort ltT ((l.filter (thereAt a)).map (·.f0)))
theorem At_eq (l : List Ro) (a : Int) (hl : l.length ≤ 1073741824) : watch_At.f l a = some (atL l a) := by
  unfold watch_At.f atL
  rw [if_pos (tiny_of hl)]
theorem atL_len (l : List Ro) (a : Int) : (atL l a).length ≤ l.length := by
  unfold atL
  refine Nat.le_trans (compactL_len _) ?_
  rw [msort_len, List.length_map]
  exact List.length_filter_le _ _
theorem atL_strict (l : List Ro) (a : Int) : Strict (atL l a) := compactL_strict (msort_sorted swoT _)
theorem put_all : ∀ (l acc : List T), (acc ++ l).Nodup → l.foldl putT acc = acc ++ l
  | [], acc, _ => by simp
  | x :: l, acc, h => by
    have hx : x ∉ acc := by
      intro hx
      rw [List.nodup_append] at h
      exact h.2.2 x hx x (by simp) rfl
    rw [List.foldl_cons, putT, if_neg hx, put_all l (acc ++ [x]) (by simpa using h)]
    simp
theorem Play_self {l : List T} (h : Strict l) (hl : l.length ≤ 1073741824) : watch_Play.f l [] = some l := by
  unfold watch_Play.f
  rw [if_pos (tiny_of hl), if_pos (tiny_of (by simp))]
  have : playL l [] = l := by
    unfold playL
    rw [List.foldl_nil, put_all l [] (by simpa using h.nodup)]
    simp
  rw [this, msort_self swoT h.sorted]
theorem Net_self (l : List T) (hl : l.length ≤ 1073741824) : watch_Net.f l l = some [] := by
  unfold watch_Net.f
  rw [if_pos (tiny_of hl), if_pos (tiny_of hl)]
  have : netL l l = [] := by
    unfold netL
    have e : l.filter (fun t => decide (t ∉ l)) = [] := by
      rw [List.filter_eq_nil_iff]
      intro t ht
      simpa using ht
    rw [e]; rfl
  rw [this, msort_none]; rfl
theorem Back_none : watch_Back.f [] = some [] := rfl
theorem Rows_none : watch_Rows.f [] = some [] := by
  unfold watch_Rows.f
  rw [if_pos (tiny_of (by simp))]
  show some (msort ltRo []) = _
  rw [msort_none]
end Go.Proofs.Ytgjkidclpehnjaa.Pr

namespace Go.Proofs.Ytgjkidclpehnjaa.Pr
open Go.Proofs.Ytgjkidclpehnjaa Go.Sort

theorem awake_yes : porterlaw22_awake.f = some true := by
  unfold porterlaw22_awake.f porterlaw22_viewer.f
  simp only [Option.bind_some]
  generalize hB1 : (⟨#[100, 111, 99, 58, 97]⟩ : ByteArray) = b1
  generalize hB2 : (⟨#[118, 105, 101, 119, 101, 114]⟩ : ByteArray) = b2
  generalize hB3 : (⟨#[117, 115, 101, 114, 58, 97, 110, 110]⟩ : ByteArray) = b3
  clear hB1 hB2 hB3
  generalize (⟨b1, b2, b3⟩ : T) = t
  have h1 : watch_Changes.f [⟨t, 3, 5⟩] 0 9 = some [⟨3, ⟨false, t⟩⟩, ⟨5, ⟨true, t⟩⟩] := by
    unfold watch_Changes.f
    rw [if_pos (tiny_of (by simp))]
    have e : [(⟨t, 3, 5⟩ : Ro)].flatMap (chOf 0 9) = [⟨3, ⟨false, t⟩⟩, ⟨5, ⟨true, t⟩⟩] := by simp [chOf, chIf]
    rw [e, msort_self swoCh]
    refine List.pairwise_pair.2 ?_
    simp [ltCh, ltOf, cmpCh, lexi, Lib.compareInt]
  have h2 : watch_At.f [⟨t, 3, 5⟩] 4 = some [t] := by
    rw [At_eq _ _ (by simp)]
    unfold atL
    have e : ([(⟨t, 3, 5⟩ : Ro)].filter (thereAt 4)).map (·.f0) = [t] := by simp [thereAt]
    rw [e, msort_self swoT (by simp [SortedL])]
    rfl
  have h3 : watch_Rows.f [⟨3, ⟨false, t⟩⟩, ⟨5, ⟨true, t⟩⟩] = some [⟨t, 3, 5⟩] := by
    unfold watch_Rows.f
    rw [if_pos (tiny_of (by simp))]
    have e : rowsL [⟨3, ⟨false, t⟩⟩, ⟨5, ⟨true, t⟩⟩] = [⟨t, 3, 5⟩] := by simp [rowsL, rowsDo, openAt]
    rw [e, msort_self swoRo (by simp [SortedL])]
  have h4 : watch_Back.f [⟨3, ⟨false, t⟩⟩, ⟨5, ⟨true, t⟩⟩] = some [⟨5, ⟨false, t⟩⟩, ⟨3, ⟨true, t⟩⟩] := by
    unfold watch_Back.f
    rw [if_pos (tiny_of (by simp))]
    simp [flipCh]
  rw [h1]
  simp [h2, h3, h4, rd_T29]
end Go.Proofs.Ytgjkidclpehnjaa.Pr

namespace Go.Proofs.Ytgjkidclpehnjaa.Pr
open Go.Proofs.Ytgjkidclpehnjaa Go.Sort Go.RowKit

theorem wrap_step (i : Nat) (h : i < 4294967296) : wrap64 ((i : Int) + 1) = ((i + 1 : Nat) : Int) := by
  unfold wrap64; omega
theorem tuples_self (l : List T) (hl : l.length < 4294967296) : ∀ (d i k : Nat), i + d = l.length → d < k → porterlaw22_tuples.l0 k l l (l.length : Int) (i : Int) = some true
  | 0, i, 0, _, hk => by omega
  | 0, i, k + 1, hi, _ => by
    rw [porterlaw22_tuples.l0, if_neg (by omega)]
  | d + 1, i, 0, _, hk => by omega
  | d + 1, i, k + 1, hi, hk => by
    rw [porterlaw22_tuples.l0, if_pos (by omega), if_pos (by omega), if_pos (by omega), if_pos (by omega), if_neg (by simp), wrap_step i (by omega)]
    exact tuples_self l hl d (i + 1) k (by omega) (by omega)
theorem tuples_f_self (l : List T) (hl : l.length < 4294967296) (k : Nat) (hk : l.length < k) : porterlaw22_tuples.f k l l = some true := by
  unfold porterlaw22_tuples.f
  rw [if_pos rfl]
  exact tuples_self l hl l.length 0 k (by omega) (by omega)

theorem WatchEmpty_plain (l0 : List Ro) (a1 a2 : Int) (hl : l0.length ≤ 1048576) : ∃ k, porterlaw22_WatchEmpty.f k l0 a1 a2 = some true := by
  refine ⟨l0.length + 3, ?_⟩
  have hl2 : l0.length ≤ 1073741824 := by omega
  have h1 := Changes_none l0 (a := a1) (b := a1) (by omega) hl2
  have hA := At_eq l0 a1 hl2
  have hAl := atL_len l0 a1
  have hP := Play_self (atL_strict l0 a1) (by omega)
  have hT := tuples_f_self (atL l0 a1) (by omega) (l0.length + 2) (by omega)
  have hN := Net_self (atL l0 a1) (by omega)
  have hj : porterlaw22_WatchEmpty.j0 (l0.length + 3) l0 a1 false = some true := by
    rw [porterlaw22_WatchEmpty.j0]
    simp [hA, hP, hT, hN, Back_none, Rows_none]
  unfold porterlaw22_WatchEmpty.f
  rw [awake_yes]
  simp only [Option.bind_some, if_true, h1]
  by_cases hge : a1 ≥ a2
  · have h2 := Changes_none l0 (a := a1) (b := a2) hge hl2
    simp [hge, h2, hj]
  · simp [hge, hj]
end Go.Proofs.Ytgjkidclpehnjaa.Pr

namespace Go.Proofs.Ytgjkidclpehnjaa.watchEmpty
open Go.ChangeShapes Go.WideShapes Go.ChangeAt Go.RowKit Go.Proofs.Ytgjkidclpehnjaa.Pr

theorem own : ownKnob Try.prog.godebug = none := by kernel_rfl
theorem laidOut : laidOutB Try.prog = true := by kernel_rfl

set_option maxRecDepth 1000000 in
theorem contract (H : Type) (enc : TypeId × Value → H) (W : World) (base : Nat) (args : Array Value) (ds gs : List (DataW H)) (before : List MemPlace)
    (hval : ∀ (j : Nat) t v, Try.f5.params[j]? = some t → args[j]? = some v → Value.okWide Try.prog W .any base t v)
    (hW : DataW.Whole enc Try.prog Try.f5.params.toList Rows.watchEmptySpec.vars false W args.toList ds gs before) (hk : Rows.uptoSmall H (ds ++ gs) = true) :
    Calls Try.prog 5 args W fun e W' => ∃ v, e = .returned v ∧ Rows.watchEmptySpec.post enc Try.prog Try.f5 false true false false W args v W' := by
  have hW' := hW
  obtain ⟨p, q, hA0, hV, rfl, hfz, hnd⟩ := hW
  have hA : DataW.TrodAll enc Try.prog W 0 (fun _ => true) true Try.f5.params.toList args.toList ds p := hA0
  rw [Try.params5] at hA hval
  obtain ⟨v0, vs0, d0, ds0, p0, q0, hargs, rfl, rfl, h0, r0⟩ := trodAll_cons hA
  obtain ⟨v1, vs1, d1, ds1, p1, q1, rfl, rfl, rfl, h1, r1⟩ := trodAll_cons r0
  obtain ⟨v2, vs2, d2, ds2, p2, q2, rfl, rfl, rfl, h2, r2⟩ := trodAll_cons r1
  obtain ⟨rfl, rfl, rfl⟩ := trodAll_nil r2
  obtain rfl : args = #[v0, v1, v2] := by cases args; simp_all
  obtain ⟨rfl, rfl⟩ := trodVars_none hV
  obtain ⟨a0, len0, cap0, rfl⟩ := okWide_slice Try.underlying30 (hval 0 30 v0 rfl rfl)
  have k0 := h0
  have lt0 : ∀ x ∈ p0, x.block < W.heap.size := by obtain ⟨m, hm⟩ := k0; exact DataW.trod_lt m _ _ _ hm
  obtain ⟨l0, rfl, hc0, hb0, hC0⟩ := open_Ro h0
  have hu0 : l0.length ≤ 1048576 := by
    have h1 := of_decide_eq_true hk
    have h2 := bulk_mem (H := H) (d := d0) (l := [d0, d1, d2]) (by simp)
    simp only [List.append_nil] at h1
    exact Nat.le_trans hb0 (Nat.le_trans h2 h1)
  obtain ⟨a1, rfl, rfl, rfl, w1⟩ := open_int Try.underlying2 (hval 1 2 v1 rfl rfl) h1
  obtain ⟨a2, rfl, rfl, rfl, w2⟩ := open_int Try.underlying2 (hval 2 2 v2 rfl rfl) h2
  obtain ⟨k, hp⟩ := WatchEmpty_plain l0 a1 a2 hu0
  clear hA0 hk
  refine (porterlaw22_WatchEmpty.calls k a0 cap0 l0 a1 a2 true W hC0 hc0 hp).mono fun e W' ⟨he, bel⟩ => ?_
  subst he
  exact ⟨_, rfl, _, _, _, [], _, [], hW', trodAll_mk1 (shut_bool Try.underlying4 _), (trodAll_cons_mk (Below.trod laidOut (by kernel_rfl) (of_decide_eq_true (by kernel_rfl)) k0 bel lt0) (trodAll_cons_mk (shut_int Try.underlying2 w1) (trodAll_cons_mk (shut_int Try.underlying2 w2) trodAll_mk0))), rfl, bel.frame _, fun h => by cases h⟩

set_option maxRecDepth 100000 in
theorem lifted (os : Os) (started : os.Started) (H : Type) (enc : TypeId × Value → H) (F : Stop.Interp) :
    ReturnsInHanded {} Try.checked os 5 .any ((Rows.OpenSpec.upto Rows.watchEmptySpec).pre6 enc Try.prog Try.f5 Rows.watchEmptyUptoRow.domain false) (((Rows.OpenSpec.upto Rows.watchEmptySpec).at F).post enc Try.prog Try.f5 false true false false) := by
  refine returnsInHanded_of_cond (C := Try.checked) (s := Rows.OpenSpec.upto Rows.watchEmptySpec) (k := Rows.uptoSmall) rfl own started (by kernel_rfl) Try.func5
    (OpenSpec.witness (enc := enc) (C := Try.checked) (s := Rows.OpenSpec.upto Rows.watchEmptySpec) (k := Rows.uptoSmall) rfl false ⟨#[], #[.slice none 0 0, .int .i64 0, .int .i64 0], []⟩ 8 (by kernel_rfl) (by kernel_rfl) (by kernel_rfl)
      (x := ([.nil, .lit (.int .i64 0), .lit (.int .i64 0)], [], [])) (by kernel_rfl) rfl (by kernel_rfl)) ?_
  intro W base args ds gs before hval hW _ hk _
  exact contract H enc W base args ds gs before hval hW hk

theorem over : Rows.watchEmptyUptoRow.holds Try.pinned (Rows.OpenSpec.upto Rows.watchEmptySpec) :=
  OpenClaim.holds_of_cond 5 Try.f5 rfl rfl rfl rfl rfl rfl rfl ⟨rfl, rfl, rfl, rfl, rfl⟩ rfl rfl rfl rfl rfl (by kernel_rfl) Try.func5 (by kernel_rfl)
    (of_decide_eq_true (by kernel_rfl)) (by unfold Func.isWrapper; first | (rw [if_pos (by decide +kernel)]; kernel_rfl) | (rw [if_neg (by decide +kernel)]; exact ⟨rfl, rfl⟩))
    (fun os started H enc _ F => lifted os started H enc F)

theorem proved : Rows.WatchEmptyUptoSaid := over
end Go.Proofs.Ytgjkidclpehnjaa.watchEmpty
namespace Go.Proofs.Ytgjkidclpehnjaa
/-- The row, under a short name, for the claim. -/
theorem watchEmptyUpto_holds : Rows.WatchEmptyUptoSaid := watchEmpty.proved
end Go.Proofs.Ytgjkidclpehnjaa
