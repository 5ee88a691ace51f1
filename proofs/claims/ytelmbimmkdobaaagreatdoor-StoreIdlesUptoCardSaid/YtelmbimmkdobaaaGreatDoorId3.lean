/- The law StoreIdles, second form: whatever it reads of bulk at most 2^20, it returns true and what it reads is as it was. Condition: the form's own bound. -/
import Derived.Test.YtelmbimmkdobaaaGreatDoorId2
import Derived.Test.YtelmbimmkdobaaaGreatDoorCards
import Derived.Test.YtelmbimmkdobaaaGreatDoorTie
import Derived.Deep.DeepHandedRow
import Derived.Deep.DeepLaidRun
set_option linter.unusedVariables false
set_option linter.unusedSimpArgs false
namespace Go.Proofs.YtelmbimmkdobaaaGreatDoor.Pr
open Go.Shelf Go.RowKit Go.Lib Go.Sort Go.Proofs.YtelmbimmkdobaaaGreatDoor
open Go.Proofs.YtelmbimmkdobaaaGreatDoorW.PrintWords Go.Proofs.YtelmbimmkdobaaaGreatDoorW.PrintLast Go.Proofs.YtelmbimmkdobaaaGreatDoorW.PrintMore

theorem infoStr : (Tryz.prog.info? 9).map (fun i => (i.zero, i.size, i.bytes)) = some (some (.string ⟨#[]⟩), 1, 16) := by kernel_rfl
theorem R_S {e base : Nat} {w : World} {v : Value} {l : List ByteArray} (h : w.ownsRow base e 1 v l.length (l.flatMap enS)) : Kd.R Kd.string e w base (fun _ => True) v l := R_of_flat (enc := enS) (fun _ => rfl) rfl (fun _ _ _ _ => rfl) h
theorem fl_S {e base : Nat} {w : World} {v : Value} {l : List ByteArray} {ok : Nat → Prop} (h : Kd.R Kd.string e w base ok v l) : w.ownsRow base e 1 v l.length (l.flatMap enS) := flat_of_R (enc := enS) (fun _ => rfl) rfl (fun _ _ _ _ _ h => h) h
section
variable {ops : Array Oper} {rest : List Oper} {o : Oper} {a : Act} {Q : Exit → Act → World → Prop}
theorem app_S {w0 W : World} (base : Nat) (hgd : o.guard = none) (s x : Operand) (ho : o.op = .call { callee := .builtin .append, args := #[s, x], argTypes := #[57, 57] })
    (v : Value) (xs : List ByteArray) (p : ByteArray) (hs : a.eval s = v) (hx : a.eval x = .slice (some ⟨W.heap.size, 0, none⟩) 1 1) (HO : Kd.R Kd.string 9 W base (fun _ => True) v xs) (HB : Below base w0 W) (hbase : base ≤ W.heap.size) (hl : xs.length < 4294967296)
    (h : ∀ v1 w1, Kd.R Kd.string 9 w1 base (fun _ => True) v1 (xs ++ [p]) → Below base w0 w1 → W.grownBy w1 v.ownBlock → (v1.ownBlock = v.ownBlock ∨ ∃ b, v1.ownBlock = some b ∧ W.heap.size ≤ b) → wpList Tryz.prog ops Q rest (a.put o.dst v1) w1) :
    wpList Tryz.prog ops Q (o :: rest) a (W.alloc (.cells #[.string p] 9)) :=
  Kd.R_append Kd.string (w0 := w0) base hgd s x 57 9 _ _ ho Tryz.underlying57 infoStr rfl (by decide) (by omega) v xs p [.string p] (fun _ => True) (fun _ => False) hs hx rfl (fun _ hk => hk.elim) (fun _ _ => trivial) HO HB hbase (by omega) h
end

theorem idx_perm {κ : Type} [DecidableEq κ] {key : T → κ} {ks : List T} {ls : List (κ × List T)} (h : IdxOK key ks ls) (hn : ks.Nodup) (k : κ) : (getL k ls).Perm (ks.filter (fun t => decide (key t = k))) := by
  refine (List.perm_ext_iff_of_nodup (h k).1 (hn.sublist List.filter_sublist)).2 (fun t => ?_)
  rw [(h k).2 t, List.mem_filter]
  simp [and_comm]
def usersM (m : List (T × List Sp)) (k : PK) (rev : Int) : List ByteArray := msort ltS (((m.map Prod.fst).filter (fun t => decide (keyO t = k) && (getL t m).any (spHas rev))).map (·.f2))
def ofM (m : List (T × List Sp)) (u : ByteArray) (rev : Int) : List T := msort ltT ((m.map Prod.fst).filter (fun t => decide (keyU t = u) && (getL t m).any (spHas rev)))
theorem swoS : SWO ltS := cmp_S.swo
theorem msort_permS {a b : List ByteArray} (h : a.Perm b) : msort ltS a = msort ltS b := by
  refine sorted_perm_eq swoS (msort_sorted swoS _) (msort_sorted swoS _) ((msort_perm _ _).trans (h.trans (msort_perm _ _).symm)) ?_
  intro x _ y _ h1 h2
  have q := cmp_S.anti x y
  unfold ltS ltOf at h1 h2
  rw [decide_eq_false_iff_not] at h1 h2
  exact cmpS_zero.1 (by omega)
theorem msort_permT {a b : List T} (h : a.Perm b) : msort ltT a = msort ltT b := by
  refine sorted_perm_eq cmp_T.swo (msort_sorted cmp_T.swo _) (msort_sorted cmp_T.swo _) ((msort_perm _ _).trans (h.trans (msort_perm _ _).symm)) ?_
  intro x _ y _ h1 h2
  have q := cmp_T.anti x y
  unfold ltOf at h1 h2
  rw [decide_eq_false_iff_not] at h1 h2
  exact cmpT_zero.1 (by omega)
theorem users_eq {m : List (T × List Sp)} {ls : List (PK × List T)} (h : IdxOK keyO (m.map Prod.fst) ls) (hn : (m.map Prod.fst).Nodup) (k : PK) (rev : Int) : msort ltS (((getL k ls).filter (fun t => (getL t m).any (spHas rev))).map (·.f2)) = usersM m k rev := by
  unfold usersM
  refine msort_permS (List.Perm.map _ ?_)
  have h1 := (idx_perm h hn k).filter (fun t => (getL t m).any (spHas rev))
  rw [List.filter_filter] at h1
  refine h1.trans (List.Perm.of_eq (List.filter_congr (fun t _ => by rw [Bool.and_comm])))
theorem of_eq {m : List (T × List Sp)} {ls : List (ByteArray × List T)} (h : IdxOK keyU (m.map Prod.fst) ls) (hn : (m.map Prod.fst).Nodup) (u : ByteArray) (rev : Int) : msort ltT ((getL u ls).filter (fun t => (getL t m).any (spHas rev))) = ofM m u rev := by
  unfold ofM
  refine msort_permT ?_
  have h1 := (idx_perm h hn u).filter (fun t => (getL t m).any (spHas rev))
  rw [List.filter_filter] at h1
  refine h1.trans (List.Perm.of_eq (List.filter_congr (fun t _ => by rw [Bool.and_comm])))
def readCode (wm rev : Int) : Int := if rev < 0 then 1 else if rev < wm then 71 else 0
/-- What a look-up in an index gives. -/
theorem IdxAt.look {κ : Type} [DecidableEq κ] {ke : κ → Value} {tI c : Nat} {w : World} {q : Nat} {ls : List (κ × List T)} {o : Own} {mt kt : TypeId} (h : IdxAt ke tI c w q ls o) (K : KeyLaw Tryz.prog kt κ ke) (ht : Tryz.prog.underlying mt = some (.map kt 34)) (k : κ) :
    ∃ bL x, w.cell? ⟨q, 0, none⟩ = some (.map (some bL)) ∧ ownTs w x (getL k ls) ∧ (∀ W, Below w.heap.size w W → Sem.run Tryz.prog (Instr.lookup mt (.map (some bL)) (ke k) false) W = .ok x W) := by
  obtain ⟨bL, v, h1, h2, h3, _⟩ := h
  exact ⟨bL, _, (blk_cell h1 0).trans rfl, h3.get (ownTs_nil w) k, fun W hW => look1 K ht zeroTs (h2.kept (hW.block _ h2.lt)) k⟩

set_option maxHeartbeats 32000000 in
set_option maxRecDepth 100000 in
theorem store_Users (p : Nat) (ob rl : ByteArray) (rev : Int) (w : World) {m : List (T × List Sp)} {wm : Int} {o : Own} (h : StoreAt w p m wm o) (hm : m.length < 1073741824) (hs : ∀ t, (getL t m).length < 4294967296) :
    Calls Tryz.prog 30 #[.pointer (some ⟨p, 0, none⟩), .string ob, .string rl, .int .i64 rev] w fun e w' => ∃ v0_ : Value, e = .returned (.tuple #[v0_, .int .i64 (readCode wm rev)]) ∧ Kd.R Kd.string 9 w' w.heap.size (fun _ => True) v0_ (if readCode wm rev = 0 then usersM m (ob, rl) rev else []) ∧ Below w.heap.size w w' := by
  have h1 := store_readable p rev w h
  obtain ⟨bS, bO, bU, lO, lU, hH, hS, hO, hU, hkO, hkU, hl⟩ := h.open
  have hn := h.nodup
  change Calls _ _ _ _ (fun e w' => e = .returned (.int .i64 (readCode wm rev)) ∧ _) at h1
  by_cases c1 : readCode wm rev = 0
  · rw [if_pos c1]
    rw [c1] at h1 ⊢
    obtain ⟨bL, x, hcl, hx, hlk⟩ := hO.look keyP Tryz.underlying122 (ob, rl)
    obtain ⟨L, hL⟩ : ∃ L, L = getL (ob, rl) lO := ⟨_, rfl⟩
    rw [← hL] at hx
    obtain ⟨A, c, rfl⟩ := own_form hx
    have heq := users_eq hkO hn (ob, rl) rev
    rw [← hL] at heq
    have hll : L.length < 1073741824 := by have := (hkO).len (ob, rl); rw [← hL] at this; simp at this; omega
    have hat := fun (t : T) (W : World) (hW : Below w.heap.size w W) => store_at p t rev W (h.below hW) (hs t)
    have HE : Hid (type_of% heq) := heq
    have HX : Aside (ownTs w (.slice A L.length c) L) := hx
    have HA : Aside (type_of% hat) := hat
    have H1 : Aside (type_of% h1) := h1
    have HLk : Aside (type_of% hlk) := hlk
    have HC : Aside (w.cell? ⟨p, 1, none⟩ = some (.pointer (some ⟨bO, 0, none⟩)) ∧ w.cell? ⟨bO, 0, none⟩ = some (.map (some bL))) := ⟨hH.cells.2.1, hcl⟩
    clear h h1 hH hS hO hU hkO hkU hl hn hcl hx hlk hL heq hat hm hs c1
    go_enter Tryz.func30, Tryz.ntmps30
    go_wp2_with (go_at_call 61; refine H1.out.mono ?_; rintro e w1 ⟨rfl, hb⟩; have q1 := cell_below hb HC.out.1; have q2 := cell_below hb HC.out.2; have hlk := HLk.out w1 hb; simp only [kp] at hlk; have HB1 : Aside _ := hb; clear hb)
    clear q1 q2 hlk
    go_loopg [11, 32] L.length (fun gk so sx wr => ∃ (i : Nat) (acc : List ByteArray), sx = .int .i64 i ∧ i ≤ L.length ∧ L.length - i ≤ gk ∧ Hid (acc = ((L.take i).filter (fun t => (getL t m).any (spHas rev))).map (·.f2)) ∧ Aside (Kd.R Kd.string 9 wr w.heap.size (fun _ => True) so acc) ∧ Aside (Below w.heap.size w wr))
    case atStart => exact ⟨0, [], rfl, Nat.zero_le _, Nat.le_refl _, rfl, Kd.R_nil _ _ _ _ _, HB1.out⟩
    case round =>
      clear HB1
      obtain ⟨i, acc, rfl, hi, hg, HQ, HO, HB⟩ := hrel
      by_cases hlt : i < L.length
      · have hltz : (i : Int) < (L.length : Int) := by omega
        obtain ⟨g, x, rfl, hx, g0, g1, g2⟩ := el_Ts HX.out rfl i hlt
        replace g0 := cell_below HB.out g0
        replace g1 := cell_below HB.out g1
        replace g2 := cell_below HB.out g2
        have hst : ((L.take (i + 1)).filter (fun t => (getL t m).any (spHas rev))).map (·.f2) = acc ++ (if (getL x m).any (spHas rev) = true then [x.f2] else []) := by
          rw [HQ.out, take_step L i x hx, List.filter_append, List.map_append]
          congr 1
          cases hq : (getL x m).any (spHas rev) <;> simp [hq]
        have hal : acc.length < 2147483648 := by
          rw [HQ.out, List.length_map]
          have q1 := List.length_filter_le (fun t => (getL t m).any (spHas rev)) (L.take i)
          have q2 := List.length_take_le i L
          omega
        have hB2 := HB.out.alloc HB.out.size (.cells #[.string x.f0, .string x.f1, .string x.f2] 41)
        have hA2 := HA.out x _ hB2
        have HT := BoxT.new wr x
        have HST : Hid (type_of% hst) := hst
        have HL : Aside (acc.length < 2147483648 ∧ w.heap.size ≤ wr.heap.size) := ⟨hal, HB.out.size⟩
        clear hst hal hx HQ
        obtain ⟨t0, t1, t2⟩ := x
        dsimp only at g0 g1 g2 hA2 HT
        cases hav : (getL (⟨t0, t1, t2⟩ : T) m).any (spHas rev)
        · rw [hav] at hA2
          have HA2 : Aside (type_of% hA2) := hA2
          have hq : Hid (acc = ((L.take (i + 1)).filter (fun t => (getL t m).any (spHas rev))).map (·.f2)) := by show _ = _; rw [HST.out, hav]; simp
          clear hA2 hav HST hB2
          obtain ⟨e0, e1, e2⟩ := HT
          go_wp2_with (go_at_call 62; refine HA2.out.mono ?_; rintro e w2 ⟨rfl, hb⟩; have HB2 : Aside _ := hb; clear hb)
          go_roundg (L.length - (i + 1))
          case measure => omega
          case rel => exact ⟨i + 1, acc, by first | rfl | go_num, by omega, Nat.le_refl _, hq.out, Kd.R_below (Kd.R_alloc HO.out _) HB2.out, (HB.out.alloc HL.out.2 _).trans (HB2.out.mono (HB.out.alloc HL.out.2 _).size)⟩
        · rw [hav] at hA2
          have HA2 : Aside (type_of% hA2) := hA2
          have hq : Hid (acc ++ [t2] = ((L.take (i + 1)).filter (fun t => (getL t m).any (spHas rev))).map (·.f2)) := by show _ = _; rw [HST.out, hav]; rfl
          have HTA : Aside (BoxT (wr.alloc (.cells #[.string t0, .string t1, .string t2] 41)) wr.heap.size ⟨t0, t1, t2⟩) := HT
          clear hA2 hav HST hB2
          obtain ⟨e0, e1, e2⟩ := HT
          go_wp2_with (first | (go_at_call 62; refine HA2.out.mono ?_; rintro e w2 ⟨rfl, hb⟩; have HB2 : Aside _ := hb; obtain ⟨f0, f1, f2⟩ := BoxT.below HTA.out hb; clear hb) | (at_builtin; refine app_S (w0 := w) w.heap.size rfl (.tmp 40) (.tmp 43) rfl u11 acc t2 rfl (by first | (go_simp; done) | (go_simp; rfl)) ?aO ?aB ?aS (by have := HL.out.1; omega) ?_; (case aO => exact Kd.R_below (Kd.R_alloc HO.out _) HB2.out); (case aB => exact (HB.out.alloc HL.out.2 _).trans (HB2.out.mono (HB.out.alloc HL.out.2 _).size)); (case aS => have := HL.out.2; have := HB2.out.size; simp at *; omega); intro v1 w3 ho hb hg1 hat; have HO3 : Aside _ := ho; have HB3 : Aside _ := hb; clear ho hb hg1 hat))
          go_roundg (L.length - (i + 1))
          case measure => omega
          case rel => exact ⟨i + 1, _, by first | rfl | go_num, by omega, Nat.le_refl _, hq.out, HO3.out, HB3.out⟩
      · have hltz : ¬ (i : Int) < (L.length : Int) := by omega
        have hacc : acc = (L.filter (fun t => (getL t m).any (spHas rev))).map (·.f2) := by rw [HQ.out, List.take_of_length_le (by omega)]
        have hal : acc.length < 4611686018427387904 := by
          rw [hacc, List.length_map]
          have q1 := List.length_filter_le (fun t => (getL t m).any (spHas rev)) L
          omega
        have hs := sort_S w.heap.size u11 acc wr (fl_S HO.out) hal
        have HACC : Hid (msort ltS acc = usersM m (ob, rl) rev) := by show _ = _; rw [hacc]; exact HE.out
        have HSo : Aside (type_of% hs) := hs
        have HF : Aside (wr.heap.size = wr.heap.size ∧ type_of% (fl_S HO.out)) := ⟨rfl, fl_S HO.out⟩
        clear hs hal hacc HQ
        go_wp2_with (go_at_call 66; refine HSo.out.mono ?_; rintro e w2 ⟨rfl, ho1, hg1⟩; have HO1 : Aside _ := ho1; have HG1 : Aside _ := hg1; clear ho1 hg1)
        go_ret2
        exact ⟨_, rfl, by rw [← HACC.out]; exact R_S HO1.out, below_grown HB.out HG1.out HB.out.size HF.out.2⟩
  · rw [if_neg c1]
    have d : (readCode wm rev != 0) = true := by simp [c1]
    generalize readCode wm rev = cd at h1 d ⊢
    have H1 : Aside (type_of% h1) := h1
    clear h h1 hH hS hO hU hkO hkU hl hn hm hs c1
    go_enter Tryz.func30, Tryz.ntmps30
    go_wp2_with (go_at_call 61; refine H1.out.mono ?_; rintro e w1 ⟨rfl, hb⟩; have HB1 : Aside _ := hb; clear hb)
    go_ret2
    exact ⟨_, rfl, Kd.R_nil _ _ _ _ _, HB1.out⟩

end Go.Proofs.YtelmbimmkdobaaaGreatDoor.Pr

namespace Go.Proofs.YtelmbimmkdobaaaGreatDoor.Pr
open Go.Shelf Go.RowKit Go.Lib Go.Sort Go.Proofs.YtelmbimmkdobaaaGreatDoor
open Go.Proofs.YtelmbimmkdobaaaGreatDoorW.PrintWords Go.Proofs.YtelmbimmkdobaaaGreatDoorW.PrintLast Go.Proofs.YtelmbimmkdobaaaGreatDoorW.PrintMore

def RevOk (r : Ro) : Prop := 0 ≤ r.f1 ∧ r.f1 ≤ 1125899906842624
/-- Rows whose first revision is within bounds. -/
structure RoB where
  val : Ro
  ok : RevOk val
instance inhRoB : Inhabited RoB := ⟨⟨z63, by unfold RevOk z63; simp⟩⟩
def enRoB (r : RoB) : List Value := enRo r.val
def cmpRoB (a b : RoB) : Int := cmpRo a.val b.val
theorem cmp_RoB : Cmp cmpRoB := cmp_Ro.comap (fun a : RoB => a.val)
theorem clamp_cmp (a b : Int) : min (max (a - b) (-1)) 1 = Lib.compareInt a b := by
  unfold Lib.compareInt
  by_cases h1 : a < b
  · rw [if_pos h1]; omega
  · rw [if_neg h1]
    by_cases h2 : a = b
    · subst h2; simp; omega
    · split <;> omega
theorem ret_i64 {a b : Int} (h : a = b) : Ending.returned (.int .i64 a) = .returned (.int .i64 b) := by rw [h]
section
attribute [local go_sem] max2_int min2_int max_two min_two
set_option maxHeartbeats 4000000 in
set_option maxRecDepth 100000 in
theorem store_Rows1 (a b : Ro) (ha : RevOk a) (hb : RevOk b) (w : World) : Calls Tryz.prog 64 #[.agg (enRo a).toArray, .agg (enRo b).toArray] w fun e w' => e = .returned (.int .i64 (cmpRo a b)) ∧ Gr w w' := by
  obtain ⟨⟨a0, a1, a2⟩, a3, a4⟩ := a
  obtain ⟨⟨b0, b1, b2⟩, b3, b4⟩ := b
  simp only [enRo, enT, List.cons_append, List.nil_append]
  unfold RevOk at ha hb
  dsimp only at ha hb
  obtain ⟨ha1, ha2⟩ := ha
  obtain ⟨hb1, hb2⟩ := hb
  have hI := clamp_cmp a3 b3
  have hT := fun W => tuple_Compare ⟨a0, a1, a2⟩ ⟨b0, b1, b2⟩ W
  have hr : cmpRo ⟨⟨a0, a1, a2⟩, a3, a4⟩ ⟨⟨b0, b1, b2⟩, b3, b4⟩ = if cmpT ⟨a0, a1, a2⟩ ⟨b0, b1, b2⟩ = 0 then Lib.compareInt a3 b3 else cmpT ⟨a0, a1, a2⟩ ⟨b0, b1, b2⟩ := rfl
  rw [hr]
  clear hr
  dsimp only at hT
  generalize cmpT ⟨a0, a1, a2⟩ ⟨b0, b1, b2⟩ = c1 at *
  have HT : Hid (type_of% hT) := hT
  have HI : Hid (type_of% hI) := hI
  clear hT hI
  have kx : ∀ k v, (#[.string a0, .string a1, .string a2, .int .i64 a3, .int .i64 a4] : Array Value)[k]? = some v → ((w.alloc (.cells #[.string a0, .string a1, .string a2, .int .i64 a3, .int .i64 a4] 63)).alloc (.cells #[.string b0, .string b1, .string b2, .int .i64 b3, .int .i64 b4] 63)).cell? ⟨w.heap.size, k, none⟩ = some v := fun k v hk => alloc_cell _ ((blk_cell (blk_new w _) k).trans hk)
  have HK : Aside (type_of% kx) := kx
  have g0 : Aside (Gr w ((w.alloc (.cells #[.string a0, .string a1, .string a2, .int .i64 a3, .int .i64 a4] 63)).alloc (.cells #[.string b0, .string b1, .string b2, .int .i64 b3, .int .i64 b4] 63))) := ((Gr.refl w).alloc _).alloc _
  clear kx
  by_cases c : c1 = 0
  · rw [if_pos c]
    subst c
    go_enter Tryz.func64, Tryz.ntmps64
    go_wp2_with (go_at_call 44; refine (HT.out _).mono ?_; rintro e w3 ⟨rfl, hG⟩; have e3 : w3.cell? ⟨w.heap.size, 3, none⟩ = some (.int .i64 a3) := hG.cell (HK.out 3 _ rfl); have e4 : w3.cell? ⟨w.heap.size + 1, 3, none⟩ = some (.int .i64 b3) := hG.cell (by go_simp); have G3 : Aside _ := hG; clear hG)
    all_goals go_ret
    all_goals (refine ⟨?_, g0.out.trans G3.out⟩; rw [← HI.out]; exact ret_i64 (by omega))
  · rw [if_neg c]
    have d : (c1 != 0) = true := by simp [c]
    go_enter Tryz.func64, Tryz.ntmps64
    go_wp2_with (go_at_call 44; refine (HT.out _).mono ?_; rintro e w3 ⟨rfl, hG⟩; have G3 : Aside _ := hG; clear hG)
    go_ret
    exact ⟨rfl, g0.out.trans G3.out⟩
end
theorem store_RowsB (x y : RoB) (W : World) : Calls Tryz.prog 64 #[.agg (enRoB x).toArray, .agg (enRoB y).toArray] W fun e w' => e = .returned (.int .i64 (cmpRoB x y)) ∧ Gr W w' := store_Rows1 x.val y.val x.ok y.ok W

/-- Rows whose tuples and first revisions are unlike. -/
def Unlike (l : List Ro) : Prop := ∀ x ∈ l, ∀ y ∈ l, x.f0 = y.f0 → x.f1 = y.f1 → x = y
theorem cmpRo_zero {x y : Ro} (h : cmpRo x y = 0) : x.f0 = y.f0 ∧ x.f1 = y.f1 := by
  unfold cmpRo at h
  rw [lexi_eq_zero] at h
  refine ⟨cmpT_zero.1 h.1, ?_⟩
  have h2 := h.2
  unfold Lib.compareInt at h2
  split at h2
  · omega
  · split at h2 <;> omega
theorem map_attach (l : List Ro) (h : ∀ x ∈ l, RevOk x) : ∃ l' : List RoB, l'.map (fun x : RoB => x.val) = l := by
  induction l with
  | nil => exact ⟨[], rfl⟩
  | cons x l ih =>
    obtain ⟨l', hl'⟩ := ih (fun y hy => h y (by simp [hy]))
    exact ⟨⟨x, h x (by simp)⟩ :: l', by rw [List.map_cons, hl']⟩
theorem flat_map {α β γ : Type} (f : α → β) (g : β → List γ) (l : List α) : (l.map f).flatMap g = l.flatMap (fun x => g (f x)) := by
  induction l with
  | nil => rfl
  | cons x l ih => rw [List.map_cons, List.flatMap_cons, List.flatMap_cons, ih]
theorem sort_Ro (base : Nat) (v : Value) (l : List Ro) (w : World) (h : w.ownsRow base 63 5 v l.length (l.flatMap enRo)) (hl : l.length < 4611686018427387904) (hb : ∀ x ∈ l, RevOk x) (hu : Unlike l) :
    Calls Tryz.prog 63 #[v, .func (.func 64) #[] #[]] w fun r w' => r = .returned (.tuple #[]) ∧ w'.ownsRow base 63 5 v (msort ltRo l).length ((msort ltRo l).flatMap enRo) ∧ w.grownBy w' v.ownBlock := by
  obtain ⟨l', rfl⟩ := map_attach l hb
  have hun : ∀ x ∈ l', ∀ y ∈ l', ltOf cmpRoB x y = false → ltOf cmpRoB y x = false → x = y := by
    intro x hx y hy h1 h2
    have a := cmp_RoB.anti x y
    unfold ltOf at h1 h2
    rw [decide_eq_false_iff_not] at h1 h2
    have h0 : cmpRo x.val y.val = 0 := show cmpRoB x y = 0 by omega
    obtain ⟨e1, e2⟩ := cmpRo_zero h0
    have h5 := hu x.val (List.mem_map_of_mem (f := fun x : RoB => x.val) hx) y.val (List.mem_map_of_mem (f := fun x : RoB => x.val) hy) e1 e2
    cases x; cases y; cases h5; rfl
  rw [List.length_map, flat_map] at h
  refine (sortF_of Tryz.sortRow 63 5 Tryz.isAgg63 Tryz.sizeOf63 enRoB (fun _ => rfl) (fun x => enRo_one x.val) cmpRoB cmp_RoB.swo 64 (enters_of Tryz.func64 (by kernel_rfl) rfl) store_RowsB base v l' w h (by simpa using hl) hun).mono ?_
  rintro r w' ⟨rfl, h2, h3⟩
  refine ⟨rfl, ?_, h3⟩
  have hperm : (msort ltRo (l'.map (fun x : RoB => x.val))) = (msort (ltOf cmpRoB) l').map (fun x : RoB => x.val) := by
    refine sorted_perm_eq cmp_Ro.swo (msort_sorted cmp_Ro.swo _) ?_ ?_ ?_
    · have := msort_sorted cmp_RoB.swo l'
      unfold SortedL at this ⊢
      rw [List.pairwise_map]
      exact this
    · exact (msort_perm _ _).trans ((msort_perm _ l').map _).symm
    · intro x hx y hy h1 h2
      have hx' := (msort_perm _ _).mem_iff.1 hx
      have hy' := (msort_perm _ _).mem_iff.1 hy
      have a := cmp_Ro.anti x y
      unfold ltOf at h1 h2
      rw [decide_eq_false_iff_not] at h1 h2
      obtain ⟨e1, e2⟩ := cmpRo_zero (x := x) (y := y) (by omega)
      exact hu x hx' y hy' e1 e2
  rw [hperm, List.length_map, flat_map]
  exact h2
end Go.Proofs.YtelmbimmkdobaaaGreatDoor.Pr

namespace Go.Proofs.YtelmbimmkdobaaaGreatDoor.Pr
open Go.Shelf Go.RowKit Go.Lib Go.Sort Go.Proofs.YtelmbimmkdobaaaGreatDoor
open Go.Proofs.YtelmbimmkdobaaaGreatDoorW.PrintWords Go.Proofs.YtelmbimmkdobaaaGreatDoorW.PrintLast Go.Proofs.YtelmbimmkdobaaaGreatDoorW.PrintMore

def spRow (t : T) (s : Sp) : Ro := ⟨t, s.1, s.2⟩
def rowsOf (m : List (T × List Sp)) (t : T) : List Ro := (getL t m).map (spRow t)
def rowsM (m : List (T × List Sp)) : List Ro := (m.map Prod.fst).flatMap (rowsOf m)
theorem flat_split {α β : Type} (f : α → List β) (a : List β) (L1 L2 : List α) (t : α) : ((a ++ f t) ++ (L1 ++ L2).flatMap f).Perm (a ++ (L1 ++ t :: L2).flatMap f) := by
  rw [List.flatMap_append, List.flatMap_append, List.flatMap_cons, List.append_assoc]
  refine List.Perm.append_left _ ?_
  rw [← List.append_assoc, ← List.append_assoc]
  exact List.Perm.append_right _ List.perm_append_comm
theorem grow_row {w W w' : World} {b : Nat} (h : Below w.heap.size w W) (hb : w.heap.size ≤ b) (hg : W.grownBy w' (some b)) : Below w.heap.size w w' := h.grown hg h.size (fun k e => by injection e with e; omega)

set_option maxHeartbeats 32000000 in
set_option maxRecDepth 100000 in
theorem store_Rows (p : Nat) (w : World) {m : List (T × List Sp)} {wm : Int} {o : Own} (h : StoreAt w p m wm o) (hl : (rowsM m).length < 1073741824) (hb : ∀ x ∈ rowsM m, RevOk x) (hu : Unlike (rowsM m)) :
    Calls Tryz.prog 28 #[.pointer (some ⟨p, 0, none⟩)] w fun e w' => ∃ v0_ : Value, e = .returned v0_ ∧ Kd.R k63 63 w' w.heap.size (fun _ => True) v0_ (msort ltRo (rowsM m)) ∧ Below w.heap.size w w' := by
  obtain ⟨bS, bO, bU, lO, lU, hH, hS, _⟩ := h.open
  obtain ⟨v, hM, hR, hoS, hoT⟩ := hS
  have hc := hH.cells.1
  obtain ⟨ob, hrange, hrng⟩ := g_start Tryz.underlying104 hM
  obtain ⟨rb, hrb⟩ : ∃ rb, rb = w.heap.size := ⟨_, rfl⟩
  rw [← hrb] at hrange hrng
  have S0 : Aside (GRng kv (w.alloc ob) rb bS v (v.map Prod.fst) ∧ Below w.heap.size w (w.alloc ob)) := ⟨hrng, (Below.refl _ w).alloc (Nat.le_refl _) _⟩
  have HW : Aside (type_of% hR ∧ (rowsM m).length < 1073741824 ∧ (∀ x ∈ rowsM m, RevOk x) ∧ Unlike (rowsM m) ∧ w.heap.size ≤ rb ∧ bS < w.heap.size ∧ (v.map Prod.fst = m.map Prod.fst)) := ⟨hR, hl, hb, hu, by omega, hM.lt, hR.1⟩
  clear h hH hM hR hoS hoT hl hb hu hrng hrb
  go_enter Tryz.func28, Tryz.ntmps28
  go_wp2
  clear hrange hc
  go_loopg [3] (v.map Prod.fst).length (fun gk s3 wr => ∃ (acc : List Ro) (L : List T), L.length ≤ gk ∧ Hid ((acc ++ L.flatMap (rowsOf m)).Perm (rowsM m)) ∧ Aside (GRng kv wr rb bS v L ∧ Below w.heap.size w wr) ∧ Aside (Kd.R k63 63 wr w.heap.size (fun _ => True) s3 acc))
  case atStart => exact ⟨[], v.map Prod.fst, Nat.le_refl _, by show List.Perm _ _; rw [HW.out.2.2.2.2.2.2]; exact List.Perm.refl _, S0, Kd.R_nil _ _ _ _ _⟩
  case round =>
    clear S0
    obtain ⟨acc, L, hn, HP, S1, HO⟩ := hrel
    rcases g_next keyT S1.out.1 with ⟨rfl, hnx⟩ | ⟨t, x, w1, L1, L2, rfl, hget, hnx, hen, hr1, hg1⟩
    · have hper : acc.Perm (rowsM m) := by have h := HP.out; simpa using h
      have hms : msort ltRo acc = msort ltRo (rowsM m) := by
        refine sorted_perm_eq cmp_Ro.swo (msort_sorted cmp_Ro.swo _) (msort_sorted cmp_Ro.swo _) ((msort_perm _ _).trans (hper.trans (msort_perm _ _).symm)) ?_
        intro a ha b hb h1 h2
        have ha' := hper.mem_iff.1 ((msort_perm _ _).mem_iff.1 ha)
        have hb' := hper.mem_iff.1 ((msort_perm _ _).mem_iff.1 hb)
        have q := cmp_Ro.anti a b
        unfold ltOf at h1 h2
        rw [decide_eq_false_iff_not] at h1 h2
        obtain ⟨e1, e2⟩ := cmpRo_zero (x := a) (y := b) (by omega)
        exact HW.out.2.2.2.1 a ha' b hb' e1 e2
      have hal : acc.length < 4611686018427387904 := by have := hper.length_eq; have := HW.out.2.1; omega
      have hs := sort_Ro w.heap.size u3 acc wr (fl_Ro HO.out) hal (fun a ha => HW.out.2.2.1 a (hper.mem_iff.1 ha)) (fun a ha b hb => HW.out.2.2.2.1 a (hper.mem_iff.1 ha) b (hper.mem_iff.1 hb))
      have HMS : Hid (type_of% hms) := hms
      have HSo : Aside (type_of% hs) := hs
      have HF : Aside (wr.ownsRow w.heap.size 63 5 u3 acc.length (acc.flatMap enRo)) := fl_Ro HO.out
      clear hs hal hms hper
      go_wp2_with (go_at_call 63; refine HSo.out.mono ?_; rintro e w1 ⟨rfl, ho1, hg1⟩; have HO1 : Aside _ := ho1; have HG1 : Aside _ := hg1; clear ho1 hg1)
      go_ret
      exact ⟨_, rfl, by rw [← HMS.out]; exact R_Ro HO1.out, below_grown S1.out.2 HG1.out S1.out.2.size HF.out⟩
    · have hL : (L1 ++ L2).length < (L1 ++ t :: L2).length := by simp
      have hlen : (L1 ++ t :: L2).length ≤ gk := hn
      have hP2 : ((acc ++ rowsOf m t) ++ (L1 ++ L2).flatMap (rowsOf m)).Perm (rowsM m) := (flat_split _ _ _ _ _).trans HP.out
      obtain ⟨ly, hly⟩ : ∃ l, aget t m = some l := by
        cases hq : aget t m with
        | none => rw [(HW.out.1.none_iff t).2 hq] at hget; cases hget
        | some l => exact ⟨l, rfl⟩
      have hox : ownSp w x ly := HW.out.1.2 t ly x hly hget
      obtain ⟨Ax, cx, rfl⟩ := own_form hox
      have hB1 : Below w.heap.size w w1 := grow_row S1.out.2 HW.out.2.2.2.2.1 hg1
      have hro : rowsOf m t = ly.map (spRow t) := by unfold rowsOf getL; rw [hly]; rfl
      have htot : (acc ++ rowsOf m t).length < 1073741824 := by
        have h1 := hP2.length_eq
        have h2 := HW.out.2.1
        rw [List.length_append] at h1; omega
      rw [hro] at hP2 htot
      have hne := fun b (hb : u3.ownBlock = some b) => (fl_Ro HO.out).lt b hb
      have hO1 := Kd.R_grown1 HO.out rfl hg1 (ne_row (fl_Ro HO.out) (fun cs q fr => S1.out.1.no_cells cs q fr))
      have HX : Aside (ownSp w (.slice Ax ly.length cx) ly ∧ (acc ++ ly.map (spRow t)).length < 1073741824) := ⟨hox, htot⟩
      have HPn : Hid (type_of% hP2) := hP2
      have HW1 : Aside (GRng kv w1 rb bS v (L1 ++ L2) ∧ Below w.heap.size w w1) := ⟨hr1, hB1⟩
      have HO1 : Aside (type_of% hO1) := hO1
      have hgk : (L1 ++ L2).length < gk := by omega
      have hgk2 : Hid ((L1 ++ L2).length < gk) := hgk
      clear hne hO1 hr1 hB1 hox htot hP2 hro hly hget hL hn hg1 HP S1 HO hlen hgk
      have HT : Hid (t = t) := rfl
      obtain ⟨t0, t1, t2⟩ := t
      simp only [kv] at hnx hen
      have hllen : ly.length < 1073741824 := by have := HX.out.2; simp at this; omega
      go_wp2
      go_loopg [3, 20] ly.length (fun gj s3 s20 wq => ∃ (j : Nat) (ac : List Ro), s20 = .int .i64 j ∧ j ≤ ly.length ∧ ly.length - j ≤ gj ∧ Hid (ac = acc ++ (ly.take j).map (spRow ⟨t0, t1, t2⟩)) ∧ Aside (GRng kv wq rb bS v (L1 ++ L2) ∧ Below w.heap.size w wq ∧ BoxT wq w1.heap.size ⟨t0, t1, t2⟩ ∧ w1.heap.size < wq.heap.size ∧ s3.ownBlock ≠ some w1.heap.size) ∧ Aside (Kd.R k63 63 wq w.heap.size (fun _ => True) s3 ac))
      case atStart => exact ⟨0, acc, rfl, Nat.zero_le _, Nat.le_refl _, by show _ = _; simp, ⟨HW1.out.1.alloc _, below_alloc HW1.out.2 _, BoxT.new w1 ⟨t0, t1, t2⟩, by simp, fun e => by have := ((fl_Ro HO1.out).lt _ e).2; omega⟩, Kd.R_alloc HO1.out _⟩
      case round =>
        obtain ⟨j, ac, rfl, hj, hgj, HA, S2, HO2⟩ := hrel
        by_cases hjt : j < ly.length
        · have hjz : (j : Int) < (ly.length : Int) := by omega
          obtain ⟨g, s, rfl, hs, g0, g1⟩ := el_Sp HX.out.1 rfl j hjt
          replace g0 := cell_below S2.out.2.1 g0
          replace g1 := cell_below S2.out.2.1 g1
          have hst : ac ++ [spRow ⟨t0, t1, t2⟩ s] = acc ++ (ly.take (j + 1)).map (spRow ⟨t0, t1, t2⟩) := by
            rw [HA.out, take_step ly j s hs, List.map_append, List.append_assoc]; rfl
          have hacl : ac.length < 2147483648 := by
            have h1 := HX.out.2
            rw [HA.out]
            rw [List.length_append, List.length_map] at h1 ⊢
            have := List.length_take_le j ly
            omega
          have HST : Hid (type_of% hst) := hst
          have HL : Aside (ac.length < 2147483648 ∧ w.heap.size ≤ wr.heap.size) := ⟨hacl, S2.out.2.1.size⟩
          have hbx := blk_new wr (.cells #[.int .i64 s.1, .int .i64 s.2] 119)
          obtain ⟨b0, b1, b2⟩ := S2.out.2.2.1
          have HN : Aside (some rb ≠ u3.ownBlock ∧ some bS ≠ u3.ownBlock) := ⟨ne_row (fl_Ro HO2.out) (fun cs q fr => S2.out.1.no_cells cs q fr), ne_row (fl_Ro HO2.out) (fun cs q fr => S2.out.1.toMap.no_cells cs q fr)⟩
          clear hs hst hacl HA hbx
          obtain ⟨a, b⟩ := s
          dsimp only at g0 g1 b0 b1 b2
          have c0 := alloc_cell (.cells #[.int .i64 a, .int .i64 b] 119) b0
          have c1 := alloc_cell (.cells #[.int .i64 a, .int .i64 b] 119) b1
          have c2 := alloc_cell (.cells #[.int .i64 a, .int .i64 b] 119) b2
          go_wp2_with (at_builtin; refine app_Ro (w0 := w) w.heap.size rfl (.tmp 24) (.tmp 31) rfl u3 ac ⟨⟨t0, t1, t2⟩, a, b⟩ rfl (by first | (go_simp; done) | (go_simp; rfl)) ?aO ?aB ?aS HL.out.1 ?_; (case aO => exact Kd.R_alloc HO2.out _); (case aB => exact S2.out.2.1.alloc HL.out.2 _); (case aS => have := HL.out.2; simp; omega); intro v1 w2 ho hb hg1 hat; have HO3 : Aside _ := ho; have HB3 : Aside _ := hb; have HG3 : Aside _ := hg1; have HAt : Aside _ := hat; clear ho hb hg1 hat)
          go_roundg (ly.length - (j + 1))
          case measure => omega
          case rel =>
            refine ⟨j + 1, _, by first | rfl | go_num, by omega, Nat.le_refl _, HST.out, ⟨(S2.out.1.alloc (.cells #[.int .i64 a, .int .i64 b] 119)).grown HG3.out HN.out.2 HN.out.1, HB3.out, ⟨HG3.out.cell c0 (Ne.symm S2.out.2.2.2.2), HG3.out.cell c1 (Ne.symm S2.out.2.2.2.2), HG3.out.cell c2 (Ne.symm S2.out.2.2.2.2)⟩, ?_, ?_⟩, HO3.out⟩
            · have := HG3.out.size; have := S2.out.2.2.2.1; simp at *; omega
            · rcases HAt.out with h | ⟨b', h, hb'⟩
              · rw [h]; exact S2.out.2.2.2.2
              · rw [h]; intro e; injection e with e; have := S2.out.2.2.2.1; simp at hb'; omega
        · have hjz : ¬ (j : Int) < (ly.length : Int) := by omega
          have HAc : Hid (ac = acc ++ ly.map (spRow ⟨t0, t1, t2⟩)) := by
            show _ = _
            rw [HA.out, List.take_of_length_le (by omega)]
          clear HA
          go_wp2
          go_roundg ((L1 ++ L2).length)
          case measure => exact hgk2.out
          case rel => exact ⟨ac, L1 ++ L2, Nat.le_refl _, by show List.Perm _ _; rw [HAc.out]; exact HPn.out, ⟨S2.out.1, S2.out.2.1⟩, HO2.out⟩
end Go.Proofs.YtelmbimmkdobaaaGreatDoor.Pr

namespace Go.Proofs.YtelmbimmkdobaaaGreatDoor.Pr
open Go.Shelf Go.RowKit Go.Lib Go.Sort Go.Proofs.YtelmbimmkdobaaaGreatDoor
open Go.Proofs.YtelmbimmkdobaaaGreatDoorW.PrintWords Go.Proofs.YtelmbimmkdobaaaGreatDoorW.PrintLast Go.Proofs.YtelmbimmkdobaaaGreatDoorW.PrintMore

/-- One store, all of it new since w; nothing below B has turned. -/
def SS (B : Nat) (w W : World) (p : Nat) (m : List (T × List Sp)) (wm : Int) : Prop := ∃ o, StoreAt W p m wm o ∧ Below B w W ∧ B ≤ W.heap.size ∧ ∀ b g, o b = some g → B ≤ b
theorem SS.bel {B : Nat} {w W : World} {p : Nat} {m : List (T × List Sp)} {wm : Int} (h : SS B w W p m wm) : Below B w W ∧ B ≤ W.heap.size := by
  obtain ⟨o, h1, h2, h3, h4⟩ := h
  exact ⟨h2, h3⟩
theorem SS.below {B : Nat} {w W W' : World} {p : Nat} {m : List (T × List Sp)} {wm : Int} (h : SS B w W p m wm) (hb : Below W.heap.size W W') : SS B w W' p m wm := by
  obtain ⟨o, h1, h2, h3, h4⟩ := h
  exact ⟨o, h1.below hb, h2.trans (hb.mono h3), Nat.le_trans h3 hb.size, h4⟩
theorem below_moves {B a b : Nat} {w W W' : World} {o o' : Own} (h : Below B w W) (hB : B ≤ W.heap.size) (ho : ∀ b g, o b = some g → B ≤ b) (hm : Moves a b o o' W W') : Below B w W' ∧ B ≤ W'.heap.size ∧ ∀ b g, o' b = some g → B ≤ b := by
  refine ⟨h.trans ⟨hm.os, hm.tape, hm.output, hm.size, fun k hk => hm.block k (by omega) (fun g hg => by have := ho k g hg; omega)⟩, Nat.le_trans hB hm.size, fun k g hg => ?_⟩
  by_cases hk : k < W.heap.size
  · exact ho k g (by rw [← hm.same k hk]; exact hg)
  · omega
theorem SS.moves {B a b : Nat} {w W W' : World} {p : Nat} {m' : List (T × List Sp)} {wm' : Int} {o o' : Own} (h2 : Below B w W) (h3 : B ≤ W.heap.size) (h4 : ∀ b g, o b = some g → B ≤ b) (hs : StoreAt W' p m' wm' o') (hm : Moves a b o o' W W') : SS B w W' p m' wm' := by
  obtain ⟨q1, q2, q3⟩ := below_moves h2 h3 h4 hm
  exact ⟨o', hs, q1, q2, q3⟩
theorem ss_New (w W : World) (B : Nat) (h : Below B w W) (hB : B ≤ W.heap.size) : Calls Tryz.prog 24 #[] W fun e w' => ∃ p, e = .returned (.pointer (some ⟨p, 0, none⟩)) ∧ SS B w w' p [] 0 := by
  refine (store_New W).mono ?_
  rintro e w' ⟨p, o, rfl, h1, h2, h3⟩
  exact ⟨p, rfl, o, h1, h.trans (h2.mono hB), Nat.le_trans hB h2.size, fun b g hg => Nat.le_trans hB (h3 b g hg)⟩
/-- A row of one mutation, new. -/
theorem C_oneM {W : World} {b : Nat} {x0 : Bool} {t0 t1 t2 : ByteArray} (h : W.heap[b]? = some (.cells #[.bool x0, .string t0, .string t1, .string t2] 47)) : Kd.C k47 W (some ⟨b, 0, none⟩) 1 [⟨x0, ⟨t0, t1, t2⟩⟩] := by
  refine ⟨rfl, by decide, fun _ => ⟨⟨b, 0, none⟩, rfl, fun j y hy => ?_⟩⟩
  cases j with
  | zero =>
    have hy' : (⟨x0, ⟨t0, t1, t2⟩⟩ : Mu) = y := by simpa using hy
    subst hy'
    refine ⟨[.bool x0, .string t0, .string t1, .string t2], rfl, k47_mk W _, fun i u hu => ?_⟩
    rw [Addr.add_lit, blk_cell h]
    match i, hu with
    | 0, hu => exact hu
    | 1, hu => exact hu
    | 2, hu => exact hu
    | 3, hu => exact hu
  | succ j => simp at hy
theorem apply_one {W : World} {p : Nat} {m : List (T × List Sp)} {wm : Int} {o : Own} (h : StoreAt W p m wm o) (rev : Int) (x0 : Bool) (t0 t1 t2 : ByteArray) (hm : m.length + 1 < 2147483648) (hs : ∀ t, (getL t m).length + 1 < 2147483648) (hz : SzT ⟨t0, t1, t2⟩) :
    Calls Tryz.prog 26 #[.pointer (some ⟨p, 0, none⟩), .int .i64 rev, .slice (some ⟨W.heap.size, 0, none⟩) 1 1] (W.alloc (.cells #[.bool x0, .string t0, .string t1, .string t2] 47)) fun e w' => e = .returned (.int .i64 (storeCheck m wm rev [⟨x0, ⟨t0, t1, t2⟩⟩])) ∧ ∃ o', StoreAt w' p (if storeCheck m wm rev [⟨x0, ⟨t0, t1, t2⟩⟩] = 0 then applyMu rev m ⟨x0, ⟨t0, t1, t2⟩⟩ else m) wm o' ∧ Moves 0 8 o o' W w' := by
  have hb : Below W.heap.size W (W.alloc (.cells #[.bool x0, .string t0, .string t1, .string t2] 47)) := (Below.refl _ _).alloc (Nat.le_refl _) _
  refine (store_Apply p rev (some ⟨W.heap.size, 0, none⟩) 1 [⟨x0, ⟨t0, t1, t2⟩⟩] _ (h.below hb) (by simpa using hm) (by simpa using hs) (C_oneM (blk_new W _)) (fun ad e g hg => by injection e with e; subst e; have := h.lives _ g hg; simp at this) (by intro x hx; rw [List.mem_singleton] at hx; rw [hx]; exact hz)).mono ?_
  rintro e w' ⟨rfl, o', h5, h6⟩
  exact ⟨rfl, o', h5, (Moves.of_below 0 8 h.lives hb).trans h6⟩
theorem ss_one {B : Nat} {w W : World} {p : Nat} {m : List (T × List Sp)} {wm : Int} (h : SS B w W p m wm) (rev : Int) (x0 : Bool) (t0 t1 t2 : ByteArray) (hm : m.length + 1 < 2147483648) (hs : ∀ t, (getL t m).length + 1 < 2147483648) (hz : SzT ⟨t0, t1, t2⟩) :
    Calls Tryz.prog 26 #[.pointer (some ⟨p, 0, none⟩), .int .i64 rev, .slice (some ⟨W.heap.size, 0, none⟩) 1 1] (W.alloc (.cells #[.bool x0, .string t0, .string t1, .string t2] 47)) fun e w' => e = .returned (.int .i64 (storeCheck m wm rev [⟨x0, ⟨t0, t1, t2⟩⟩])) ∧ SS B w w' p (if storeCheck m wm rev [⟨x0, ⟨t0, t1, t2⟩⟩] = 0 then applyMu rev m ⟨x0, ⟨t0, t1, t2⟩⟩ else m) wm := by
  obtain ⟨o, h1, h2, h3, h4⟩ := h
  refine (apply_one h1 rev x0 t0 t1 t2 hm hs hz).mono ?_
  rintro e w' ⟨rfl, o', h5, h6⟩
  exact ⟨rfl, SS.moves h2 h3 h4 h5 h6⟩
theorem ss_Has {B : Nat} {w W : World} {p : Nat} {m : List (T × List Sp)} {wm : Int} (h : SS B w W p m wm) (t0 t1 t2 : ByteArray) (rev : Int) (hs : ∀ t, (getL t m).length < 4294967296) :
    Calls Tryz.prog 27 #[.pointer (some ⟨p, 0, none⟩), .agg #[.string t0, .string t1, .string t2], .int .i64 rev] W fun e w' => e = .returned (.tuple #[.bool (if rev < 0 then false else if rev < wm then false else (getL ⟨t0, t1, t2⟩ m).any (spHas rev)), .int .i64 (readCode wm rev)]) ∧ SS B w w' p m wm := by
  have h' := h
  obtain ⟨o, h1, h2, h3, h4⟩ := h
  refine (store_Has p ⟨t0, t1, t2⟩ rev W h1 (hs _)).mono ?_
  rintro e w' ⟨rfl, hb⟩
  exact ⟨rfl, h'.below hb⟩
theorem ss_Users {B : Nat} {w W : World} {p : Nat} {m : List (T × List Sp)} {wm : Int} (h : SS B w W p m wm) (ob rl : ByteArray) (rev : Int) (hm : m.length < 1073741824) (hs : ∀ t, (getL t m).length < 4294967296) :
    Calls Tryz.prog 30 #[.pointer (some ⟨p, 0, none⟩), .string ob, .string rl, .int .i64 rev] W fun e w' => ∃ A c, e = .returned (.tuple #[.slice A (if readCode wm rev = 0 then usersM m (ob, rl) rev else []).length c, .int .i64 (readCode wm rev)]) ∧ (if readCode wm rev = 0 then usersM m (ob, rl) rev else []).length ≤ c ∧ Kd.C Kd.string w' A (if readCode wm rev = 0 then usersM m (ob, rl) rev else []).length (if readCode wm rev = 0 then usersM m (ob, rl) rev else []) ∧ SS B w w' p m wm ∧ Below W.heap.size W w' := by
  have h' := h
  obtain ⟨o, h1, h2, h3, h4⟩ := h
  refine (store_Users p ob rl rev W h1 hm hs).mono ?_
  rintro e w' ⟨v, rfl, hR, hb⟩
  obtain ⟨A, c, rfl⟩ := Kd.R_slice hR
  exact ⟨A, c, rfl, (Kd.R_reads' hR).2.1, (Kd.R_reads' hR).2.2, h'.below hb, hb⟩
/-- Rows that may be handed out. -/
def RowsFit (m : List (T × List Sp)) : Prop := (rowsM m).length < 1073741824 ∧ (∀ x ∈ rowsM m, RevOk x) ∧ Unlike (rowsM m)
theorem ss_Rows {B : Nat} {w W : World} {p : Nat} {m : List (T × List Sp)} {wm : Int} (h : SS B w W p m wm) (hf : RowsFit m) :
    Calls Tryz.prog 28 #[.pointer (some ⟨p, 0, none⟩)] W fun e w' => ∃ A c, e = .returned (.slice A (msort ltRo (rowsM m)).length c) ∧ (msort ltRo (rowsM m)).length ≤ c ∧ Kd.C k63 w' A (msort ltRo (rowsM m)).length (msort ltRo (rowsM m)) ∧ SS B w w' p m wm ∧ Below W.heap.size W w' := by
  have h' := h
  obtain ⟨o, h1, h2, h3, h4⟩ := h
  refine (store_Rows p W h1 hf.1 hf.2.1 hf.2.2).mono ?_
  rintro e w' ⟨v, rfl, hR, hb⟩
  obtain ⟨A, c, rfl⟩ := Kd.R_slice hR
  exact ⟨A, c, rfl, (Kd.R_reads' hR).2.1, (Kd.R_reads' hR).2.2, h'.below hb, hb⟩

end Go.Proofs.YtelmbimmkdobaaaGreatDoor.Pr

namespace Go.Proofs.YtelmbimmkdobaaaGreatDoor.Pr
open Go.Shelf Go.RowKit Go.Lib Go.Sort Go.Proofs.YtelmbimmkdobaaaGreatDoor
open Go.Proofs.YtelmbimmkdobaaaGreatDoorW.PrintWords Go.Proofs.YtelmbimmkdobaaaGreatDoorW.PrintLast Go.Proofs.YtelmbimmkdobaaaGreatDoorW.PrintMore

def docA : ByteArray := ⟨#[100, 111, 99, 58, 97]⟩
def vwR : ByteArray := ⟨#[118, 105, 101, 119, 101, 114]⟩
def annU : ByteArray := ⟨#[117, 115, 101, 114, 58, 97, 110, 110]⟩
def annT : T := ⟨docA, vwR, annU⟩
theorem ann_ok : checkT annT = 0 := by kernel_rfl
theorem ann_sz : SzT annT := by unfold SzT; exact ⟨by decide, by decide, by decide⟩
theorem getL_one (t : T) (l : List Sp) (u : T) : getL u [(t, l)] = if u = t then l else [] := by
  unfold getL; rw [aget_cons]; split <;> rfl
theorem aw1 (t : T) (h : checkT t = 0) : storeCheck [] 0 3 [⟨false, t⟩] = 0 := by
  unfold storeCheck; rw [if_neg (by simp)]
  simp [checkS, h, badRev, getL, aget, lastOf]
theorem aw2 (t : T) : applyMu 3 [] ⟨false, t⟩ = [(t, [(3, 0)])] := by simp [applyMu, getL, aget, thereB, aput]
theorem aw3 (t : T) (h : checkT t = 0) : storeCheck [(t, [(3, 0)])] 0 5 [⟨true, t⟩] = 0 := by
  unfold storeCheck; rw [if_neg (by simp)]
  simp [checkS, h, badRev, getL_one, lastOf]
  decide
theorem aw4 (t : T) : applyMu 5 [(t, [(3, 0)])] ⟨true, t⟩ = [(t, [(3, 5)])] := by simp [applyMu, getL_one, thereB, closeL, aput]
theorem aw5 (t : T) : usersM [(t, [(3, 5)])] (t.f0, t.f1) 3 = [t.f2] := by
  unfold usersM
  rw [List.map_cons, List.map_nil, List.filter_cons_of_pos (by simp [keyO, getL_one, spHas])]
  simp [msort]
theorem aw6 (t : T) : rowsM [(t, [(3, 5)])] = [⟨t, 3, 5⟩] := by simp [rowsM, rowsOf, getL_one, spRow]
theorem aw7 (t : T) : RowsFit [(t, [(3, 5)])] := by
  unfold RowsFit
  rw [aw6]
  refine ⟨by simp, fun x hx => ?_, fun x hx y hy _ _ => ?_⟩
  · rw [List.mem_singleton] at hx; subst hx; simp [RevOk]
  · rw [List.mem_singleton] at hx hy; rw [hx, hy]

theorem viewer07 (u : ByteArray) (w : World) : Calls Tryz.prog 65 #[.string u] w fun e w' => e = .returned (.agg #[.string docA, .string vwR, .string u]) ∧ Below w.heap.size w w' := by
  have HB : Aside (∀ o, Below w.heap.size w (w.alloc o)) := fun o => (Below.refl _ w).alloc (Nat.le_refl _) o
  go_enter Tryz.func65, Tryz.ntmps65
  go_wp2
  exact bodyPost_ret (v := .agg #[.string docA, .string vwR, .string u]) (by simp [results, Tryz.results65, go_sem]; exact ⟨rfl, rfl⟩) rfl ⟨rfl, HB.out _⟩

section
variable {B : Nat} {w W : World} {p : Nat}
theorem aw_ap1 (h : SS B w W p [] 0) : Calls Tryz.prog 26 #[.pointer (some ⟨p, 0, none⟩), .int .i64 3, .slice (some ⟨W.heap.size, 0, none⟩) 1 1] (W.alloc (.cells #[.bool false, .string docA, .string vwR, .string annU] 47)) fun e w' => e = .returned (.int .i64 0) ∧ SS B w w' p [(annT, [(3, 0)])] 0 := by
  have := ss_one h 3 false docA vwR annU (by simp) (fun t => by simp [getL, aget]) ann_sz
  rw [show (⟨docA, vwR, annU⟩ : T) = annT from rfl, aw1 annT ann_ok, if_pos rfl, aw2] at this
  exact this
theorem aw_ap2 (h : SS B w W p [(annT, [(3, 0)])] 0) : Calls Tryz.prog 26 #[.pointer (some ⟨p, 0, none⟩), .int .i64 5, .slice (some ⟨W.heap.size, 0, none⟩) 1 1] (W.alloc (.cells #[.bool true, .string docA, .string vwR, .string annU] 47)) fun e w' => e = .returned (.int .i64 0) ∧ SS B w w' p [(annT, [(3, 5)])] 0 := by
  have := ss_one h 5 true docA vwR annU (by simp) (fun t => by rw [getL_one]; split <;> simp) ann_sz
  rw [show (⟨docA, vwR, annU⟩ : T) = annT from rfl, aw3 annT ann_ok, if_pos rfl, aw4] at this
  exact this
theorem aw_has4 (h : SS B w W p [(annT, [(3, 5)])] 0) : Calls Tryz.prog 27 #[.pointer (some ⟨p, 0, none⟩), .agg #[.string docA, .string vwR, .string annU], .int .i64 4] W fun e w' => e = .returned (.tuple #[.bool true, .int .i64 0]) ∧ SS B w w' p [(annT, [(3, 5)])] 0 := by
  have := ss_Has h docA vwR annU 4 (fun t => by rw [getL_one]; split <;> simp)
  rw [show (⟨docA, vwR, annU⟩ : T) = annT from rfl, getL_one, if_pos rfl] at this
  exact this
theorem aw_has5 (h : SS B w W p [(annT, [(3, 5)])] 0) : Calls Tryz.prog 27 #[.pointer (some ⟨p, 0, none⟩), .agg #[.string docA, .string vwR, .string annU], .int .i64 5] W fun e w' => e = .returned (.tuple #[.bool false, .int .i64 0]) ∧ SS B w w' p [(annT, [(3, 5)])] 0 := by
  have := ss_Has h docA vwR annU 5 (fun t => by rw [getL_one]; split <;> simp)
  rw [show (⟨docA, vwR, annU⟩ : T) = annT from rfl, getL_one, if_pos rfl] at this
  exact this
theorem aw_us (h : SS B w W p [(annT, [(3, 5)])] 0) : Calls Tryz.prog 30 #[.pointer (some ⟨p, 0, none⟩), .string docA, .string vwR, .int .i64 3] W fun e w' => ∃ A c, e = .returned (.tuple #[.slice A 1 c, .int .i64 0]) ∧ SS B w w' p [(annT, [(3, 5)])] 0 := by
  have := ss_Users h docA vwR 3 (by simp) (fun t => by rw [getL_one]; split <;> simp)
  rw [show (docA, vwR) = (annT.f0, annT.f1) from rfl, aw5, show readCode 0 3 = 0 by rfl, if_pos rfl] at this
  refine this.mono ?_
  rintro e w' ⟨A, c, rfl, _, _, h2, _⟩
  exact ⟨A, c, rfl, h2⟩
theorem aw_rows (h : SS B w W p [(annT, [(3, 5)])] 0) : Calls Tryz.prog 28 #[.pointer (some ⟨p, 0, none⟩)] W fun e w' => ∃ A c, e = .returned (.slice A 1 c) ∧ SS B w w' p [(annT, [(3, 5)])] 0 := by
  have := ss_Rows h (aw7 annT)
  rw [aw6] at this
  refine this.mono ?_
  rintro e w' ⟨A, c, rfl, _, _, h2, _⟩
  exact ⟨A, c, by simp [msort], h2⟩
end

set_option maxHeartbeats 16000000 in
set_option maxRecDepth 100000 in
theorem awake07 (w : World) : Calls Tryz.prog 29 #[] w fun e w' => e = .returned (.bool true) ∧ Below w.heap.size w w' := by
  have hN := ss_New w w w.heap.size (Below.refl _ _) (Nat.le_refl _)
  have HN : Aside (type_of% hN) := hN
  clear hN
  have ea : (⟨#[117, 115, 101, 114, 58, 97, 110, 110]⟩ : ByteArray) = annU := rfl
  have ed : (⟨#[100, 111, 99, 58, 97]⟩ : ByteArray) = docA := rfl
  have ev : (⟨#[118, 105, 101, 119, 101, 114]⟩ : ByteArray) = vwR := rfl
  go_enter Tryz.func29, Tryz.ntmps29
  go_wp2_with (first
    | (go_at_call 24; refine HN.out.mono ?_; rintro e w1 ⟨p, rfl, hs⟩; have HS : Aside (SS w.heap.size w w1 p [] 0) := hs; clear hs)
    | (go_at_call 65; refine (viewer07 _ _).mono ?_; rintro e w2 ⟨rfl, hb⟩; have n0_ : Aside (SS _ _ _ _ _ _) := SS.below HS.out hb; clear HS hb; have HS := n0_; clear n0_)
    | (go_at_call 26; (with_reducible refine (aw_ap1 HS.out).mono ?_); rintro e w3 ⟨rfl, hs⟩; clear HS; have HS : Aside (SS _ _ _ _ _ _) := hs; clear hs)
    | (go_at_call 26; (with_reducible refine (aw_ap2 HS.out).mono ?_); rintro e w3 ⟨rfl, hs⟩; clear HS; have HS : Aside (SS _ _ _ _ _ _) := hs; clear hs)
    | (go_at_call 27; (with_reducible refine (aw_has4 HS.out).mono ?_); rintro e w3 ⟨rfl, hs⟩; clear HS; have HS : Aside (SS _ _ _ _ _ _) := hs; clear hs)
    | (go_at_call 27; (with_reducible refine (aw_has5 HS.out).mono ?_); rintro e w3 ⟨rfl, hs⟩; clear HS; have HS : Aside (SS _ _ _ _ _ _) := hs; clear hs)
    | (go_at_call 30; refine (aw_us HS.out).mono ?_; rintro e w3 ⟨A1, c1, rfl, hs⟩; clear HS; have HS : Aside (SS _ _ _ _ _ _) := hs; clear hs)
    | (go_at_call 28; refine (aw_rows HS.out).mono ?_; rintro e w3 ⟨A2, c2, rfl, hs⟩; clear HS; have HS : Aside (SS _ _ _ _ _ _) := hs; clear hs))
  go_ret
  exact ⟨rfl, (SS.bel HS.out).1⟩
end Go.Proofs.YtelmbimmkdobaaaGreatDoor.Pr

namespace Go.Proofs.YtelmbimmkdobaaaGreatDoor.Pr
open Go.Shelf Go.RowKit Go.Lib Go.Sort Go.Proofs.YtelmbimmkdobaaaGreatDoor
open Go.Proofs.YtelmbimmkdobaaaGreatDoorW.PrintWords Go.Proofs.YtelmbimmkdobaaaGreatDoorW.PrintLast Go.Proofs.YtelmbimmkdobaaaGreatDoorW.PrintMore

def stp (rev : Int) (sp : List Sp) (del : Bool) : List Sp := if thereB sp = true then (if del = true then closeL rev sp else sp) else (if del = true then sp else sp ++ [(rev, 0)])
def mk1 (t : T) (sp : List Sp) : List (T × List Sp) := if sp = [] then [] else [(t, sp)]
theorem getL_mk1 (t : T) (sp : List Sp) (u : T) : getL u (mk1 t sp) = if u = t then sp else [] := by
  unfold mk1
  split
  · rename_i h; rw [h]; split <;> rfl
  · exact getL_one _ _ _
theorem mk1_len (t : T) (sp : List Sp) : (mk1 t sp).length ≤ 1 := by unfold mk1; split <;> simp
theorem there_ne {sp : List Sp} (h : thereB sp = true) : sp ≠ [] := by rintro rfl; cases h
theorem close_ne {rev : Int} {sp : List Sp} (h : sp ≠ []) : closeL rev sp ≠ [] := by
  intro e
  have := closeL_len rev sp
  rw [e] at this
  exact h (List.length_eq_zero_iff.1 this.symm)
theorem aput_mk1 (t : T) (sp sq : List Sp) (h : sq ≠ []) : aput t sq (mk1 t sp) = mk1 t sq := by
  unfold mk1
  rw [if_neg h]
  split
  · rfl
  · simp [aput]
theorem apply_mk1 (rev : Int) (t : T) (sp : List Sp) (del : Bool) : applyMu rev (mk1 t sp) ⟨del, t⟩ = mk1 t (stp rev sp del) := by
  unfold applyMu stp
  dsimp only
  rw [getL_mk1, if_pos rfl]
  by_cases h : thereB sp = true
  · rw [if_pos h, if_pos h]
    cases del
    · rfl
    · rw [if_pos rfl, if_pos rfl, aput_mk1 _ _ _ (close_ne (there_ne h))]
  · rw [if_neg h, if_neg h]
    cases del
    · rw [if_neg (by simp), if_neg (by simp), aput_mk1 _ _ _ (by simp)]
    · rfl
theorem rows_mk1 (t : T) (sp : List Sp) : rowsM (mk1 t sp) = sp.map (spRow t) := by
  unfold mk1
  split
  · rename_i h; rw [h]; rfl
  · simp [rowsM, rowsOf, getL_one]

def Closed (i : Int) (a : List Sp) : Prop := ∀ s ∈ a, 1 ≤ s.1 ∧ s.1 ≤ i ∧ s.2 ≠ 0 ∧ s.2 ≤ i
def Gd (i : Nat) (sp : List Sp) (there : Bool) : Prop :=
  ∃ a, Closed i a ∧ (a.map Prod.fst).Nodup ∧ a.length ≤ i ∧ (there = false ∧ sp = a ∨ there = true ∧ ∃ r : Int, sp = a ++ [(r, 0)] ∧ 1 ≤ r ∧ r ≤ i ∧ r ∉ a.map Prod.fst ∧ a.length + 1 ≤ i)
theorem closed_there {i : Int} {a : List Sp} (h : Closed i a) : thereB a = false := by
  unfold thereB
  cases hg : a.getLast? with
  | none => rfl
  | some s =>
    have := h s (List.mem_of_getLast? hg)
    show (s.2 == 0) = false
    simpa using this.2.2.1
theorem closed_any {i : Int} {a : List Sp} (h : Closed i a) : a.any (spHas (i + 1)) = false := by
  rw [List.any_eq_false]
  intro s hs
  have := h s hs
  unfold spHas
  simp only [decide_eq_true_eq]
  omega
theorem closed_last {i : Int} {a : List Sp} (h0 : 0 ≤ i) (h : Closed i a) : lastOf a ≤ i := by
  unfold lastOf
  cases hg : a.getLast? with
  | none => exact h0
  | some s =>
    have := h s (List.mem_of_getLast? hg)
    show max s.1 s.2 ≤ i
    omega
theorem Closed.up {i : Int} {a : List Sp} (h : Closed i a) : Closed (i + 1) a := fun s hs => by have := h s hs; omega
theorem gd_zero : Gd 0 [] false := ⟨[], (fun s hs => (by cases hs)), by simp, Nat.le_refl _, .inl ⟨rfl, rfl⟩⟩
theorem gd_nil {sp : List Sp} {th : Bool} (h : Gd 0 sp th) : sp = [] := by
  obtain ⟨a, _, _, h3, h4 | ⟨_, r, _, _, _, _, h5⟩⟩ := h
  · rw [h4.2]; exact List.length_eq_zero_iff.1 (by omega)
  · omega
theorem gd_len {i : Nat} {sp : List Sp} {th : Bool} (h : Gd i sp th) : sp.length ≤ i := by
  obtain ⟨a, _, _, h3, h4 | ⟨_, r, h4, _, _, _, h5⟩⟩ := h
  · rw [h4.2]; exact h3
  · rw [h4]; simpa using h5
theorem gd_last {i : Nat} {sp : List Sp} {th : Bool} (h : Gd i sp th) : lastOf sp ≤ (i : Int) := by
  obtain ⟨a, h1, _, h3, h4 | ⟨_, r, h4, h6, h7, _, h5⟩⟩ := h
  · rw [h4.2]; exact closed_last (by omega) h1
  · rw [h4]; simp [lastOf]; omega
theorem close_at (rev r : Int) (a : List Sp) : closeL rev (a ++ [(r, 0)]) = a ++ [(r, rev)] := by
  unfold closeL
  simp
theorem gd_stp {i : Nat} {sp : List Sp} {th : Bool} (h : Gd i sp th) (del : Bool) :
    Gd (i + 1) (stp ((i : Int) + 1) sp del) (!del) ∧ (stp ((i : Int) + 1) sp del).length = sp.length + (if (!del && !th) = true then 1 else 0) ∧ (stp ((i : Int) + 1) sp del).any (spHas ((i : Int) + 1)) = !del := by
  obtain ⟨a, h1, h2, h3, ⟨rfl, rfl⟩ | ⟨rfl, r, rfl, h4, h5, h6, h7⟩⟩ := h
  · have ht := closed_there h1
    cases del
    · have e : stp ((i : Int) + 1) sp false = sp ++ [((i : Int) + 1, 0)] := by unfold stp; rw [if_neg (by simp [ht]), if_neg (by simp)]
      rw [e]
      refine ⟨⟨sp, h1.up, h2, by omega, .inr ⟨rfl, _, rfl, by omega, by omega, ?_, by omega⟩⟩, by simp, ?_⟩
      · intro hm
        obtain ⟨s, hs, e⟩ := List.mem_map.1 hm
        have := h1 s hs
        omega
      · rw [List.any_append]; simp [spHas]
    · have e : stp ((i : Int) + 1) sp true = sp := by unfold stp; rw [if_neg (by simp [ht]), if_pos rfl]
      rw [e]
      exact ⟨⟨sp, h1.up, h2, by omega, .inl ⟨rfl, rfl⟩⟩, by simp, closed_any h1⟩
  · have ht : thereB (a ++ [(r, 0)]) = true := by simp [thereB]
    cases del
    · have e : stp ((i : Int) + 1) (a ++ [(r, 0)]) false = a ++ [(r, 0)] := by unfold stp; rw [if_pos ht, if_neg (by simp)]
      rw [e]
      refine ⟨⟨a, h1.up, h2, by omega, .inr ⟨rfl, r, rfl, h4, by omega, h6, by omega⟩⟩, by simp, ?_⟩
      rw [List.any_append]; simp [spHas]; exact .inr (by omega)
    · have e : stp ((i : Int) + 1) (a ++ [(r, 0)]) true = a ++ [(r, (i : Int) + 1)] := by unfold stp; rw [if_pos ht, if_pos rfl, close_at]
      rw [e]
      have hc : Closed ((i + 1 : Nat) : Int) (a ++ [(r, (i : Int) + 1)]) := by
        intro s hs
        rw [List.mem_append, List.mem_singleton] at hs
        rcases hs with hs | rfl
        · have := h1 s hs; omega
        · dsimp only; omega
      refine ⟨⟨_, hc, ?_, by simpa using h3, .inl ⟨rfl, rfl⟩⟩, by simp, ?_⟩
      · rw [List.map_append, List.nodup_append]
        refine ⟨h2, by simp, ?_⟩
        rintro x hx y hy rfl
        rw [List.map_cons, List.map_nil, List.mem_singleton] at hy
        have hy2 : x = r := hy
        exact h6 (hy2 ▸ hx)
      · rw [List.any_append, closed_any h1]; simp [spHas]; omega
theorem fst_inj : ∀ {l : List Sp}, (l.map Prod.fst).Nodup → ∀ x ∈ l, ∀ y ∈ l, x.1 = y.1 → x = y
  | [], _, x, hx, _, _, _ => by cases hx
  | z :: l, h, x, hx, y, hy, e => by
    rw [List.map_cons, List.nodup_cons] at h
    rw [List.mem_cons] at hx hy
    rcases hx with rfl | hx
    · rcases hy with rfl | hy
      · rfl
      · exact absurd (List.mem_map.2 ⟨y, hy, e.symm⟩) h.1
    · rcases hy with rfl | hy
      · exact absurd (List.mem_map.2 ⟨x, hx, e⟩) h.1
      · exact fst_inj h.2 x hx y hy e
theorem gd_fst {i : Nat} {sp : List Sp} {th : Bool} (h : Gd i sp th) : (∀ s ∈ sp, 1 ≤ s.1 ∧ s.1 ≤ i) ∧ (sp.map Prod.fst).Nodup := by
  obtain ⟨a, h1, h2, h3, ⟨rfl, rfl⟩ | ⟨rfl, r, rfl, h4, h5, h6, h7⟩⟩ := h
  · exact ⟨fun s hs => by have := h1 s hs; omega, h2⟩
  · refine ⟨fun s hs => ?_, ?_⟩
    · rw [List.mem_append, List.mem_singleton] at hs
      rcases hs with hs | rfl
      · have := h1 s hs; omega
      · exact ⟨h4, h5⟩
    · rw [List.map_append, List.nodup_append]
      refine ⟨h2, by simp, ?_⟩
      rintro x hx y hy rfl
      rw [List.map_cons, List.map_nil, List.mem_singleton] at hy
      exact h6 ((show x = r from hy) ▸ hx)
theorem gd_fit {i : Nat} {sp : List Sp} {th : Bool} (t : T) (h : Gd i sp th) (hi : i ≤ 1048577) : RowsFit (mk1 t sp) := by
  have hf := gd_fst h
  unfold RowsFit
  rw [rows_mk1]
  refine ⟨by have := gd_len h; rw [List.length_map]; omega, fun x hx => ?_, fun x hx y hy _ e => ?_⟩
  · obtain ⟨s, hs, rfl⟩ := List.mem_map.1 hx
    have := hf.1 s hs
    unfold RevOk spRow; dsimp only; omega
  · obtain ⟨s, hs, rfl⟩ := List.mem_map.1 hx
    obtain ⟨s', hs', rfl⟩ := List.mem_map.1 hy
    rw [fst_inj hf.2 s hs s' hs' e]
theorem rows_len (m : List (T × List Sp)) : (msort ltRo (rowsM m)).length = (rowsM m).length := (msort_perm _ _).length_eq
theorem check_mk1 {i : Nat} {sp : List Sp} {th : Bool} (t : T) (del : Bool) (h : Gd i sp th) (hi : i ≤ 1048576) (hc : checkT t = 0) : storeCheck (mk1 t sp) 0 ((i : Int) + 1) [⟨del, t⟩] = 0 := by
  have hl := gd_last h
  have hb : ¬ badRev (mk1 t sp) 0 ((i : Int) + 1) t = true := bad_no (by rw [getL_mk1, if_pos rfl]; omega) (by omega)
  unfold storeCheck
  rw [if_neg (by omega), checkS, checkS]
  dsimp only
  rw [if_neg (by simp [hc]), if_neg (by simp), if_neg hb]
theorem check_bad (t : T) (del : Bool) (hc : checkT t ≠ 0) : storeCheck [] 0 1 [⟨del, t⟩] = checkT t := by
  unfold storeCheck
  rw [if_neg (by omega), checkS]
  dsimp only
  rw [if_pos hc]

section
variable {B : Nat} {w W : World} {p : Nat} {i : Nat} {sp : List Sp} {th : Bool} {t0 t1 t2 : ByteArray}
theorem id_ap (h : SS B w W p (mk1 ⟨t0, t1, t2⟩ sp) 0) (hg : Gd i sp th) (hi : i ≤ 1048576) (hc : checkT ⟨t0, t1, t2⟩ = 0) (hz : SzT ⟨t0, t1, t2⟩) (del : Bool) :
    Calls Tryz.prog 26 #[.pointer (some ⟨p, 0, none⟩), .int .i64 ((i : Int) + 1), .slice (some ⟨W.heap.size, 0, none⟩) 1 1] (W.alloc (.cells #[.bool del, .string t0, .string t1, .string t2] 47)) fun e w' => e = .returned (.int .i64 0) ∧ SS B w w' p (mk1 ⟨t0, t1, t2⟩ (stp ((i : Int) + 1) sp del)) 0 := by
  have hl := gd_len hg
  have := ss_one h ((i : Int) + 1) del t0 t1 t2 (by have := mk1_len ⟨t0, t1, t2⟩ sp; omega) (fun t => by rw [getL_mk1]; split <;> first | omega | (simp; done) | (simp; omega)) hz
  rw [check_mk1 _ del hg hi hc, if_pos rfl, apply_mk1] at this
  exact this
theorem id_bad (h : SS B w W p [] 0) (hc : checkT ⟨t0, t1, t2⟩ ≠ 0) (hz : SzT ⟨t0, t1, t2⟩) (del : Bool) :
    Calls Tryz.prog 26 #[.pointer (some ⟨p, 0, none⟩), .int .i64 1, .slice (some ⟨W.heap.size, 0, none⟩) 1 1] (W.alloc (.cells #[.bool del, .string t0, .string t1, .string t2] 47)) fun e w' => e = .returned (.int .i64 (checkT ⟨t0, t1, t2⟩)) ∧ SS B w w' p [] 0 := by
  have := ss_one h 1 del t0 t1 t2 (by simp) (fun t => by simp [getL, aget]) hz
  rw [check_bad _ del hc, if_neg hc] at this
  exact this
theorem id_has (h : SS B w W p (mk1 ⟨t0, t1, t2⟩ sp) 0) (hl : sp.length ≤ 1048577) (v : Bool) (rev : Int) (hr : 0 ≤ rev) (hv : sp.any (spHas rev) = v) : Calls Tryz.prog 27 #[.pointer (some ⟨p, 0, none⟩), .agg #[.string t0, .string t1, .string t2], .int .i64 rev] W fun e w' => e = .returned (.tuple #[.bool v, .int .i64 0]) ∧ SS B w w' p (mk1 ⟨t0, t1, t2⟩ sp) 0 := by
  have := ss_Has h t0 t1 t2 rev (fun t => by rw [getL_mk1]; split <;> first | omega | (simp; done) | (simp; omega))
  rw [getL_mk1, if_pos rfl, if_neg (by omega), if_neg (by omega), hv, show readCode 0 rev = 0 by unfold readCode; rw [if_neg (by omega), if_neg (by omega)]] at this
  exact this
theorem id_rows {n : Nat} (h : SS B w W p (mk1 ⟨t0, t1, t2⟩ sp) 0) (hg : Gd i sp th) (hi : i ≤ 1048577) (hn : sp.length = n) : Calls Tryz.prog 28 #[.pointer (some ⟨p, 0, none⟩)] W fun e w' => ∃ A c, e = .returned (.slice A n c) ∧ SS B w w' p (mk1 ⟨t0, t1, t2⟩ sp) 0 := by
  have := ss_Rows h (gd_fit _ hg hi)
  rw [rows_len, rows_mk1, List.length_map, hn] at this
  refine this.mono ?_
  rintro e w' ⟨A, c, rfl, _, _, h2, _⟩
  exact ⟨A, c, rfl, h2⟩
end
end Go.Proofs.YtelmbimmkdobaaaGreatDoor.Pr

namespace Go.Proofs.YtelmbimmkdobaaaGreatDoor.Pr
open Go.RowKit Go.Proofs.YtelmbimmkdobaaaGreatDoorW.PrintWords Go.Proofs.YtelmbimmkdobaaaGreatDoorW.PrintLast Go.Proofs.YtelmbimmkdobaaaGreatDoorW.PrintMore
attribute [local go_sem] max2_int min2_int max_two min_two max_three min_three max_four min_four   -- for this text's walks alone
set_option linter.unusedVariables false
set_option linter.unusedSimpArgs false

/-! ### porterref05_Name: function 50 -/
mutual
def porterref05_Name.j0 : Nat → ByteArray → Bool → Option (Bool)
  | 0, _, _ => none
  | k + 1, x0, x12 => if x12 = true then (some false) else (porterref05_Name.l0 k x0 0)
def porterref05_Name.l0 : Nat → ByteArray → Int → Option (Bool)
  | 0, _, _ => none
  | k + 1, x0, x3 => if x3 < (x0.size : Int) then (if 0 ≤ x3 then (if (bt x0 x3) = 95 then (porterref05_Name.l0 k x0 (wrap64 (x3 + 1))) else (if (bt x0 x3) < 48 then (if (bt x0 x3) < 97 then (some false) else (if (bt x0 x3) > 122 then (some false) else (porterref05_Name.l0 k x0 (wrap64 (x3 + 1))))) else (if (bt x0 x3) > 57 then (if (bt x0 x3) < 97 then (some false) else (if (bt x0 x3) > 122 then (some false) else (porterref05_Name.l0 k x0 (wrap64 (x3 + 1))))) else (porterref05_Name.l0 k x0 (wrap64 (x3 + 1)))))) else (none)) else (some true)
end
def porterref05_Name.f (k : Nat) (a0 : ByteArray) : Option (Bool) := if (a0.size : Int) < 1 then (porterref05_Name.j0 k a0 true) else (porterref05_Name.j0 k a0 (decide ((a0.size : Int) > 32)))
theorem porterref05_Name.mono_l : ∀ k, (∀ y0 y1, LeO (porterref05_Name.j0 k y0 y1) (porterref05_Name.j0 (k + 1) y0 y1)) ∧ (∀ y0 y1, LeO (porterref05_Name.l0 k y0 y1) (porterref05_Name.l0 (k + 1) y0 y1))
  | 0 => ⟨fun _ _ r h => by simp [porterref05_Name.j0] at h, fun _ _ r h => by simp [porterref05_Name.l0] at h⟩
  | k + 1 => by
    obtain ⟨ih0, ih1⟩ := porterref05_Name.mono_l k
    refine ⟨?_, ?_⟩
    · intro y0 y1
      unfold porterref05_Name.j0
      repeat' first
      | (with_reducible exact ih0 _ _)
      | (with_reducible exact ih1 _ _)
      | (with_reducible exact LeO.refl _)
      | (with_reducible exact LeO.none _)
      | (with_reducible refine LeO.ite ?_ ?_)
      | (with_reducible refine LeO.bind ?_ (fun _ => ?_))
      | exact ih0 _ _
      | exact ih1 _ _
      | exact LeO.none _
      | refine LeO.ite ?_ ?_
      | refine LeO.bind ?_ (fun _ => ?_)
    · intro y0 y1
      unfold porterref05_Name.l0
      repeat' first
      | (with_reducible exact ih0 _ _)
      | (with_reducible exact ih1 _ _)
      | (with_reducible exact LeO.refl _)
      | (with_reducible exact LeO.none _)
      | (with_reducible refine LeO.ite ?_ ?_)
      | (with_reducible refine LeO.bind ?_ (fun _ => ?_))
      | exact ih0 _ _
      | exact ih1 _ _
      | exact LeO.none _
      | refine LeO.ite ?_ ?_
      | refine LeO.bind ?_ (fun _ => ?_)
theorem porterref05_Name.mono : ∀ a0 k, LeO (porterref05_Name.f k a0) (porterref05_Name.f (k + 1) a0) := by
  intro a0 k
  obtain ⟨ih0, ih1⟩ := porterref05_Name.mono_l k
  unfold porterref05_Name.f
  repeat' first
      | (with_reducible exact ih0 _ _)
      | (with_reducible exact ih1 _ _)
      | (with_reducible exact LeO.refl _)
      | (with_reducible exact LeO.none _)
      | (with_reducible refine LeO.ite ?_ ?_)
      | (with_reducible refine LeO.bind ?_ (fun _ => ?_))
      | exact ih0 _ _
      | exact ih1 _ _
      | exact LeO.none _
      | refine LeO.ite ?_ ?_
      | refine LeO.bind ?_ (fun _ => ?_)
set_option maxHeartbeats 8000000 in
set_option maxRecDepth 100000 in
theorem porterref05_Name.calls (k : Nat) (a0 : ByteArray) (r : Bool) (w : World) (h : porterref05_Name.f k a0 = some r) :
    Calls Tryz.prog 50 #[.string a0] w fun e w' => e = .returned (.bool r) ∧ Drawn0 w w' := by
  have H : (if (a0.size : Int) < 1 then (porterref05_Name.j0 k a0 true) else (porterref05_Name.j0 k a0 (decide ((a0.size : Int) > 32)))) = some r := h
  clear h
  have HC2 := Aside0.mk H
  clear H
  go_enter Tryz.func50, Tryz.ntmps50
  go_upto_region 1 with (fail)
  go_cut [12] (fun v12 wc => ∃ (kq : Nat) (x12_1 : Bool), v12 = .bool x12_1 ∧ Aside0 (porterref05_Name.j0 kq a0 x12_1 = some r) ∧ Aside0 (kq ≤ k) ∧ Drawn0 w wc)
  case first =>
    have H := HC2.out
    clear HC2
    by_cases c3 : (a0.size : Int) < 1
    · rw [if_pos c3] at H
      have c3b0 : decide ((a0.size : Int) < 1) = true := decide_eq_true c3
      have c3b1 : decide (a0.size < 1) = true := decide_eq_true (by omega)
      clear c3
      (first | rw [c3b0] | (simp only [i64_w, i32_w]; rw [c3b0]) | skip)
      have H' := Aside0.mk H
      clear H
      go_wp2
      go_meet
      case rel => exact ⟨_, (true), (by first | rfl | (simp; done) | (simp [*]; done)), H', ⟨by first | omega | exact Nat.le_refl _⟩, by repeat (first | exact Drawn0.refl _ | apply Drawn0.step)⟩
    · rw [if_neg c3] at H
      have c3b0 : decide ((a0.size : Int) < 1) = false := decide_eq_false c3
      have c3b1 : decide (a0.size < 1) = false := decide_eq_false (by omega)
      clear c3
      (first | rw [c3b0] | (simp only [i64_w, i32_w]; rw [c3b0]) | skip)
      have H' := Aside0.mk H
      clear H
      go_wp2
      go_meet
      case rel => exact ⟨_, (decide ((a0.size : Int) > 32)), (by first | rfl | (simp; done) | (simp [*]; done)), H', ⟨by first | omega | exact Nat.le_refl _⟩, by repeat (first | exact Drawn0.refl _ | apply Drawn0.step)⟩
  case rest =>
    clear HC2
    try clear p2
    try clear c3
    try clear c3b0
    try clear c3b1
    obtain ⟨kq, x12_1, rfl, HA, HJ1, ⟨mc1, rfl⟩⟩ := hcut
    cases kq with
    | zero => exact absurd HA.out (by simp [porterref05_Name.j0])
    | succ kj1 =>
      have H := HA.out
      clear HA
      simp only [porterref05_Name.j0] at H
      by_cases c4 : x12_1 = true
      · subst c4
        have H1 : (some false) = some r := by rw [if_pos rfl] at H; exact H
        clear H
        have H := H1
        clear H1
        obtain rfl := Option.some.inj H
        go_wp2
        go_ret
        exact ⟨by first | rfl | (simp; done) | (simp [*]; done), by repeat (first | exact Drawn0.refl _ | apply Drawn0.step)⟩
      · replace c4 := Bool.eq_false_iff.mpr c4
        subst c4
        have H1 : (porterref05_Name.l0 kj1 a0 0) = some r := by rw [if_neg (show ¬ (false = true) by decide)] at H; exact H
        clear H
        have H := H1
        clear H1
        have H' := Aside0.mk H
        clear H
        go_wp2
        go_loopg [3] kj1 (fun kq v3 w' => ∃ (x3_2 : Int), v3 = .int .i64 x3_2 ∧ Aside0 (porterref05_Name.l0 kq a0 x3_2 = some r) ∧ Aside0 (kq ≤ kj1) ∧ Drawn0 w w')
        case atStart => exact ⟨(0), (by first | rfl | (simp; done) | (simp [*]; done)), H', ⟨Nat.le_refl _⟩, by repeat (first | exact Drawn0.refl _ | apply Drawn0.step)⟩
        case round =>
          clear H'
          try clear c1
          try clear p2
          try clear c3
          try clear c3b0
          try clear c3b1
          try clear c4
          try clear p2
          obtain ⟨x3_2, rfl, HA, HK2, ⟨m2, rfl⟩⟩ := hrel
          cases gk with
          | zero => exact absurd HA.out (by simp [porterref05_Name.l0])
          | succ k2 =>
            have H := HA.out
            clear HA
            simp only [porterref05_Name.l0] at H
            by_cases c5 : x3_2 < (a0.size : Int)
            · rw [if_pos c5] at H
              have c5b0 : decide (x3_2 < (a0.size : Int)) = true := decide_eq_true c5
              clear c5
              by_cases c6 : 0 ≤ x3_2
              · rw [if_pos c6] at H
                have c6b0 : decide (0 ≤ x3_2) = true := decide_eq_true c6
                clear c6
                by_cases c8 : (bt a0 x3_2) = 95
                · rw [if_pos c8] at H
                  have c8b0 : ((bt a0 x3_2) == 95) = true := beq_iff_eq.mpr c8
                  have c8b1 : ((bt a0 x3_2) != 95) = false := bne_eq_false_iff_eq.mpr c8
                  clear c8
                  have H' := Aside0.mk H
                  clear H
                  have p7 : 0 ≤ (x3_2 : Int) := of_decide_eq_true (by first | (with_reducible assumption) | assumption)
                  have q7 : x3_2 < (a0.size : Int) := of_decide_eq_true (by first | (with_reducible assumption) | assumption)
                  have hx7 := bt_at a0 x3_2
                  replace p7 := eq_true p7
                  replace q7 := eq_true q7
                  go_wp2
                  go_roundg k2
                  case measure => have := HJ1.out; have := HK2.out; omega
                  case rel => exact ⟨(wrap64 (x3_2 + 1)), (by first | rfl | (simp; done) | (simp [*]; done)), H', ⟨by have := HJ1.out; have := HK2.out; omega⟩, by repeat (first | exact Drawn0.refl _ | apply Drawn0.step)⟩
                · rw [if_neg c8] at H
                  have c8b0 : ((bt a0 x3_2) == 95) = false := beq_eq_false_iff_ne.mpr c8
                  have c8b1 : ((bt a0 x3_2) != 95) = true := bne_iff_ne.mpr c8
                  by_cases c9 : (bt a0 x3_2) < 48
                  · rw [if_pos c9] at H
                    have c9b0 : decide ((bt a0 x3_2) < 48) = true := decide_eq_true c9
                    clear c9
                    by_cases c10 : (bt a0 x3_2) < 97
                    · rw [if_pos c10] at H
                      have c10b0 : decide ((bt a0 x3_2) < 97) = true := decide_eq_true c10
                      clear c10
                      obtain rfl := Option.some.inj H
                      have p7 : 0 ≤ (x3_2 : Int) := of_decide_eq_true (by first | (with_reducible assumption) | assumption)
                      have q7 : x3_2 < (a0.size : Int) := of_decide_eq_true (by first | (with_reducible assumption) | assumption)
                      have hx7 := bt_at a0 x3_2
                      replace p7 := eq_true p7
                      replace q7 := eq_true q7
                      go_wp2
                      go_ret
                      exact ⟨by first | rfl | (simp; done) | (simp [*]; done), by repeat (first | exact Drawn0.refl _ | apply Drawn0.step)⟩
                    · rw [if_neg c10] at H
                      have c10b0 : decide ((bt a0 x3_2) < 97) = false := decide_eq_false c10
                      clear c10
                      by_cases c11 : (bt a0 x3_2) > 122
                      · rw [if_pos c11] at H
                        have c11b0 : decide (122 < (bt a0 x3_2)) = true := decide_eq_true c11
                        clear c11
                        obtain rfl := Option.some.inj H
                        have p7 : 0 ≤ (x3_2 : Int) := of_decide_eq_true (by first | (with_reducible assumption) | assumption)
                        have q7 : x3_2 < (a0.size : Int) := of_decide_eq_true (by first | (with_reducible assumption) | assumption)
                        have hx7 := bt_at a0 x3_2
                        replace p7 := eq_true p7
                        replace q7 := eq_true q7
                        go_wp2
                        go_ret
                        exact ⟨by first | rfl | (simp; done) | (simp [*]; done), by repeat (first | exact Drawn0.refl _ | apply Drawn0.step)⟩
                      · rw [if_neg c11] at H
                        have c11b0 : decide (122 < (bt a0 x3_2)) = false := decide_eq_false c11
                        clear c11
                        have H' := Aside0.mk H
                        clear H
                        have p7 : 0 ≤ (x3_2 : Int) := of_decide_eq_true (by first | (with_reducible assumption) | assumption)
                        have q7 : x3_2 < (a0.size : Int) := of_decide_eq_true (by first | (with_reducible assumption) | assumption)
                        have hx7 := bt_at a0 x3_2
                        replace p7 := eq_true p7
                        replace q7 := eq_true q7
                        go_wp2
                        go_roundg k2
                        case measure => have := HJ1.out; have := HK2.out; omega
                        case rel => exact ⟨(wrap64 (x3_2 + 1)), (by first | rfl | (simp; done) | (simp [*]; done)), H', ⟨by have := HJ1.out; have := HK2.out; omega⟩, by repeat (first | exact Drawn0.refl _ | apply Drawn0.step)⟩
                  · rw [if_neg c9] at H
                    have c9b0 : decide ((bt a0 x3_2) < 48) = false := decide_eq_false c9
                    clear c9
                    by_cases c12 : (bt a0 x3_2) > 57
                    · rw [if_pos c12] at H
                      have c12b0 : decide (57 < (bt a0 x3_2)) = true := decide_eq_true c12
                      clear c12
                      by_cases c13 : (bt a0 x3_2) < 97
                      · rw [if_pos c13] at H
                        have c13b0 : decide ((bt a0 x3_2) < 97) = true := decide_eq_true c13
                        clear c13
                        obtain rfl := Option.some.inj H
                        have p7 : 0 ≤ (x3_2 : Int) := of_decide_eq_true (by first | (with_reducible assumption) | assumption)
                        have q7 : x3_2 < (a0.size : Int) := of_decide_eq_true (by first | (with_reducible assumption) | assumption)
                        have hx7 := bt_at a0 x3_2
                        replace p7 := eq_true p7
                        replace q7 := eq_true q7
                        go_wp2
                        go_ret
                        exact ⟨by first | rfl | (simp; done) | (simp [*]; done), by repeat (first | exact Drawn0.refl _ | apply Drawn0.step)⟩
                      · rw [if_neg c13] at H
                        have c13b0 : decide ((bt a0 x3_2) < 97) = false := decide_eq_false c13
                        clear c13
                        by_cases c14 : (bt a0 x3_2) > 122
                        · rw [if_pos c14] at H
                          have c14b0 : decide (122 < (bt a0 x3_2)) = true := decide_eq_true c14
                          clear c14
                          obtain rfl := Option.some.inj H
                          have p7 : 0 ≤ (x3_2 : Int) := of_decide_eq_true (by first | (with_reducible assumption) | assumption)
                          have q7 : x3_2 < (a0.size : Int) := of_decide_eq_true (by first | (with_reducible assumption) | assumption)
                          have hx7 := bt_at a0 x3_2
                          replace p7 := eq_true p7
                          replace q7 := eq_true q7
                          go_wp2
                          go_ret
                          exact ⟨by first | rfl | (simp; done) | (simp [*]; done), by repeat (first | exact Drawn0.refl _ | apply Drawn0.step)⟩
                        · rw [if_neg c14] at H
                          have c14b0 : decide (122 < (bt a0 x3_2)) = false := decide_eq_false c14
                          clear c14
                          have H' := Aside0.mk H
                          clear H
                          have p7 : 0 ≤ (x3_2 : Int) := of_decide_eq_true (by first | (with_reducible assumption) | assumption)
                          have q7 : x3_2 < (a0.size : Int) := of_decide_eq_true (by first | (with_reducible assumption) | assumption)
                          have hx7 := bt_at a0 x3_2
                          replace p7 := eq_true p7
                          replace q7 := eq_true q7
                          go_wp2
                          go_roundg k2
                          case measure => have := HJ1.out; have := HK2.out; omega
                          case rel => exact ⟨(wrap64 (x3_2 + 1)), (by first | rfl | (simp; done) | (simp [*]; done)), H', ⟨by have := HJ1.out; have := HK2.out; omega⟩, by repeat (first | exact Drawn0.refl _ | apply Drawn0.step)⟩
                    · rw [if_neg c12] at H
                      have c12b0 : decide (57 < (bt a0 x3_2)) = false := decide_eq_false c12
                      clear c12
                      have H' := Aside0.mk H
                      clear H
                      have p7 : 0 ≤ (x3_2 : Int) := of_decide_eq_true (by first | (with_reducible assumption) | assumption)
                      have q7 : x3_2 < (a0.size : Int) := of_decide_eq_true (by first | (with_reducible assumption) | assumption)
                      have hx7 := bt_at a0 x3_2
                      replace p7 := eq_true p7
                      replace q7 := eq_true q7
                      go_wp2
                      go_roundg k2
                      case measure => have := HJ1.out; have := HK2.out; omega
                      case rel => exact ⟨(wrap64 (x3_2 + 1)), (by first | rfl | (simp; done) | (simp [*]; done)), H', ⟨by have := HJ1.out; have := HK2.out; omega⟩, by repeat (first | exact Drawn0.refl _ | apply Drawn0.step)⟩
              · rw [if_neg c6] at H
                exact absurd H (by simp)
            · rw [if_neg c5] at H
              have c5b0 : decide (x3_2 < (a0.size : Int)) = false := decide_eq_false c5
              clear c5
              obtain rfl := Option.some.inj H
              go_wp2
              go_ret
              exact ⟨by first | rfl | (simp; done) | (simp [*]; done), by repeat (first | exact Drawn0.refl _ | apply Drawn0.step)⟩

/-! ### porterref05_Find: function 84 -/
def porterref05_Find.l0 : Nat → ByteArray → Int → Int → Option (Int)
  | 0, _, _, _ => none
  | k + 1, x0, x1, x5 => if x5 < (x0.size : Int) then (if 0 ≤ x5 then (if (bt x0 x5) = x1 then (some x5) else (porterref05_Find.l0 k x0 x1 (wrap64 (x5 + 1)))) else (none)) else (some (-1))
def porterref05_Find.f (k : Nat) (a0 : ByteArray) (a1 : Int) : Option (Int) := porterref05_Find.l0 k a0 a1 0
theorem porterref05_Find.mono_l : ∀ k, (∀ y0 y1 y2, LeO (porterref05_Find.l0 k y0 y1 y2) (porterref05_Find.l0 (k + 1) y0 y1 y2))
  | 0 => fun _ _ _ r h => by simp [porterref05_Find.l0] at h
  | k + 1 => by
    have ih0 := porterref05_Find.mono_l k
    · intro y0 y1 y2
      unfold porterref05_Find.l0
      repeat' first
      | (with_reducible exact ih0 _ _ _)
      | (with_reducible exact LeO.refl _)
      | (with_reducible exact LeO.none _)
      | (with_reducible refine LeO.ite ?_ ?_)
      | (with_reducible refine LeO.bind ?_ (fun _ => ?_))
      | exact ih0 _ _ _
      | exact LeO.none _
      | refine LeO.ite ?_ ?_
      | refine LeO.bind ?_ (fun _ => ?_)
theorem porterref05_Find.mono : ∀ a0 a1 k, LeO (porterref05_Find.f k a0 a1) (porterref05_Find.f (k + 1) a0 a1) := by
  intro a0 a1 k
  have ih0 := porterref05_Find.mono_l k
  unfold porterref05_Find.f
  repeat' first
      | (with_reducible exact ih0 _ _ _)
      | (with_reducible exact LeO.refl _)
      | (with_reducible exact LeO.none _)
      | (with_reducible refine LeO.ite ?_ ?_)
      | (with_reducible refine LeO.bind ?_ (fun _ => ?_))
      | exact ih0 _ _ _
      | exact LeO.none _
      | refine LeO.ite ?_ ?_
      | refine LeO.bind ?_ (fun _ => ?_)
set_option maxHeartbeats 8000000 in
set_option maxRecDepth 100000 in
theorem porterref05_Find.calls (k : Nat) (a0 : ByteArray) (a1 : Int) (r : Int) (w : World) (h : porterref05_Find.f k a0 a1 = some r) :
    Calls Tryz.prog 84 #[.string a0, .int .u8 a1] w fun e w' => e = .returned (.int .i64 r) ∧ Drawn0 w w' := by
  have H : (porterref05_Find.l0 k a0 a1 0) = some r := h
  clear h
  have H' := Aside0.mk H
  clear H
  go_enter Tryz.func84, Tryz.ntmps84
  go_wp2
  go_loopg [5] k (fun kq v5 w' => ∃ (x5_1 : Int), v5 = .int .i64 x5_1 ∧ Aside0 (porterref05_Find.l0 kq a0 a1 x5_1 = some r) ∧ Aside0 (kq ≤ k) ∧ Drawn0 w w')
  case atStart => exact ⟨(0), (by first | rfl | (simp; done) | (simp [*]; done)), H', ⟨Nat.le_refl _⟩, by repeat (first | exact Drawn0.refl _ | apply Drawn0.step)⟩
  case round =>
    clear H'
    try clear p2
    obtain ⟨x5_1, rfl, HA, HK1, ⟨m1, rfl⟩⟩ := hrel
    cases gk with
    | zero => exact absurd HA.out (by simp [porterref05_Find.l0])
    | succ k1 =>
      have H := HA.out
      clear HA
      simp only [porterref05_Find.l0] at H
      by_cases c3 : x5_1 < (a0.size : Int)
      · rw [if_pos c3] at H
        have c3b0 : decide (x5_1 < (a0.size : Int)) = true := decide_eq_true c3
        clear c3
        by_cases c4 : 0 ≤ x5_1
        · rw [if_pos c4] at H
          have c4b0 : decide (0 ≤ x5_1) = true := decide_eq_true c4
          clear c4
          by_cases c6 : (bt a0 x5_1) = a1
          · rw [if_pos c6] at H
            have c6b0 : ((bt a0 x5_1) == a1) = true := beq_iff_eq.mpr c6
            have c6b1 : ((bt a0 x5_1) != a1) = false := bne_eq_false_iff_eq.mpr c6
            clear c6
            obtain rfl := Option.some.inj H
            have p5 : 0 ≤ (x5_1 : Int) := of_decide_eq_true (by first | (with_reducible assumption) | assumption)
            have q5 : x5_1 < (a0.size : Int) := of_decide_eq_true (by first | (with_reducible assumption) | assumption)
            have hx5 := bt_at a0 x5_1
            replace p5 := eq_true p5
            replace q5 := eq_true q5
            go_wp2
            go_ret
            exact ⟨by first | rfl | (simp; done) | (simp [*]; done), by repeat (first | exact Drawn0.refl _ | apply Drawn0.step)⟩
          · rw [if_neg c6] at H
            have c6b0 : ((bt a0 x5_1) == a1) = false := beq_eq_false_iff_ne.mpr c6
            have c6b1 : ((bt a0 x5_1) != a1) = true := bne_iff_ne.mpr c6
            have H' := Aside0.mk H
            clear H
            have p5 : 0 ≤ (x5_1 : Int) := of_decide_eq_true (by first | (with_reducible assumption) | assumption)
            have q5 : x5_1 < (a0.size : Int) := of_decide_eq_true (by first | (with_reducible assumption) | assumption)
            have hx5 := bt_at a0 x5_1
            replace p5 := eq_true p5
            replace q5 := eq_true q5
            go_wp2
            go_roundg k1
            case measure => have := HK1.out; omega
            case rel => exact ⟨(wrap64 (x5_1 + 1)), (by first | rfl | (simp; done) | (simp [*]; done)), H', ⟨by have := HK1.out; omega⟩, by repeat (first | exact Drawn0.refl _ | apply Drawn0.step)⟩
        · rw [if_neg c4] at H
          exact absurd H (by simp)
      · rw [if_neg c3] at H
        have c3b0 : decide (x5_1 < (a0.size : Int)) = false := decide_eq_false c3
        clear c3
        obtain rfl := Option.some.inj H
        go_wp2
        go_ret
        exact ⟨by first | rfl | (simp; done) | (simp [*]; done), by repeat (first | exact Drawn0.refl _ | apply Drawn0.step)⟩

/-! ### porterref05_Object: function 49 -/
def porterref05_Object.f (k : Nat) (a0 : ByteArray) : Option (ByteArray × ByteArray × Int) := (porterref05_Find.f k a0 58).bind fun t138 => (if t138 < 0 then (some ((⟨#[]⟩ : ByteArray), (⟨#[]⟩ : ByteArray), 51)) else (if 0 ≤ t138 then (if t138 ≤ (a0.size : Int) then ((porterref05_Name.f k (a0.extract 0 (t138 : Int).toNat)).bind fun t139 => (if t139 = true then (if 0 ≤ (wrap64 (t138 + 1)) then (if (wrap64 (t138 + 1)) ≤ (a0.size : Int) then ((porterref05_Name.f k (a0.extract ((wrap64 (t138 + 1)) : Int).toNat a0.size)).bind fun t140 => (if t140 = true then (some (a0.extract 0 (t138 : Int).toNat, a0.extract ((wrap64 (t138 + 1)) : Int).toNat a0.size, 0)) else (some ((⟨#[]⟩ : ByteArray), (⟨#[]⟩ : ByteArray), 50)))) else (none)) else (none)) else (some ((⟨#[]⟩ : ByteArray), (⟨#[]⟩ : ByteArray), 50)))) else (none)) else (none)))
theorem porterref05_Object.mono : ∀ a0 k, LeO (porterref05_Object.f k a0) (porterref05_Object.f (k + 1) a0) := by
  intro a0 k
  unfold porterref05_Object.f
  repeat' first
      | (with_reducible exact porterref05_Find.mono _ _ _)
      | (with_reducible exact porterref05_Name.mono _ _)
      | (with_reducible exact LeO.refl _)
      | (with_reducible exact LeO.none _)
      | (with_reducible refine LeO.ite ?_ ?_)
      | (with_reducible refine LeO.bind ?_ (fun _ => ?_))
      | exact porterref05_Find.mono _ _ _
      | exact porterref05_Name.mono _ _
      | exact LeO.none _
      | refine LeO.ite ?_ ?_
      | refine LeO.bind ?_ (fun _ => ?_)
set_option maxHeartbeats 8000000 in
set_option maxRecDepth 100000 in
theorem porterref05_Object.calls (k : Nat) (a0 : ByteArray) (r1 : ByteArray) (r2 : ByteArray) (r3 : Int) (w : World) (h : porterref05_Object.f k a0 = some (r1, r2, r3)) :
    Calls Tryz.prog 49 #[.string a0] w fun e w' => e = .returned (.tuple #[.string r1, .string r2, .int .i64 r3]) ∧ Drawn0 w w' := by
  have H : ((porterref05_Find.f k a0 58).bind fun t138 => (if t138 < 0 then (some ((⟨#[]⟩ : ByteArray), (⟨#[]⟩ : ByteArray), 51)) else (if 0 ≤ t138 then (if t138 ≤ (a0.size : Int) then ((porterref05_Name.f k (a0.extract 0 (t138 : Int).toNat)).bind fun t139 => (if t139 = true then (if 0 ≤ (wrap64 (t138 + 1)) then (if (wrap64 (t138 + 1)) ≤ (a0.size : Int) then ((porterref05_Name.f k (a0.extract ((wrap64 (t138 + 1)) : Int).toNat a0.size)).bind fun t140 => (if t140 = true then (some (a0.extract 0 (t138 : Int).toNat, a0.extract ((wrap64 (t138 + 1)) : Int).toNat a0.size, 0)) else (some ((⟨#[]⟩ : ByteArray), (⟨#[]⟩ : ByteArray), 50)))) else (none)) else (none)) else (some ((⟨#[]⟩ : ByteArray), (⟨#[]⟩ : ByteArray), 50)))) else (none)) else (none)))) = some (r1, r2, r3) := h
  clear h
  replace H := Option.bind_eq_some_iff.mp H
  obtain ⟨t138, A20, H⟩ := H
  replace H : (if t138 < 0 then (some ((⟨#[]⟩ : ByteArray), (⟨#[]⟩ : ByteArray), 51)) else (if 0 ≤ t138 then (if t138 ≤ (a0.size : Int) then ((porterref05_Name.f k (a0.extract 0 (t138 : Int).toNat)).bind fun t139 => (if t139 = true then (if 0 ≤ (wrap64 (t138 + 1)) then (if (wrap64 (t138 + 1)) ≤ (a0.size : Int) then ((porterref05_Name.f k (a0.extract ((wrap64 (t138 + 1)) : Int).toNat a0.size)).bind fun t140 => (if t140 = true then (some (a0.extract 0 (t138 : Int).toNat, a0.extract ((wrap64 (t138 + 1)) : Int).toNat a0.size, 0)) else (some ((⟨#[]⟩ : ByteArray), (⟨#[]⟩ : ByteArray), 50)))) else (none)) else (none)) else (some ((⟨#[]⟩ : ByteArray), (⟨#[]⟩ : ByteArray), 50)))) else (none)) else (none))) = some (r1, r2, r3) := H
  have A2 := Aside0.mk A20
  clear A20
  by_cases c3 : t138 < 0
  · rw [if_pos c3] at H
    have c3b0 : decide (t138 < 0) = true := decide_eq_true c3
    clear c3
    simp only [Option.some.injEq, Prod.mk.injEq] at H
    obtain ⟨rfl, rfl, rfl⟩ := H
    go_enter Tryz.func49, Tryz.ntmps49
    go_wp2_with (first | (go_at_call 84; (with_reducible refine (porterref05_Find.calls k a0 58 t138 _ A2.out).mono ?_); rintro e w' ⟨rfl, ⟨nd, rfl⟩⟩; (try first | exact ⟨rfl, _, World.drewN_drewN _ _ _⟩ | exact ⟨rfl, _, Eq.trans (World.drewN_drewN _ _ _) (congrArg (World.drewN _) (Nat.add_assoc _ _ _))⟩)))
    repeat (go_quiet (first | (go_at_call 84; (with_reducible refine (porterref05_Find.calls k a0 58 t138 _ A2.out).mono ?_); rintro e w' ⟨rfl, ⟨nd, rfl⟩⟩; (try first | exact ⟨rfl, _, World.drewN_drewN _ _ _⟩ | exact ⟨rfl, _, Eq.trans (World.drewN_drewN _ _ _) (congrArg (World.drewN _) (Nat.add_assoc _ _ _))⟩))); try go_wp2_with (first | (go_at_call 84; (with_reducible refine (porterref05_Find.calls k a0 58 t138 _ A2.out).mono ?_); rintro e w' ⟨rfl, ⟨nd, rfl⟩⟩; (try first | exact ⟨rfl, _, World.drewN_drewN _ _ _⟩ | exact ⟨rfl, _, Eq.trans (World.drewN_drewN _ _ _) (congrArg (World.drewN _) (Nat.add_assoc _ _ _))⟩))))
    go_ret3
    exact ⟨by first | rfl | (simp; done) | (simp [*]; done), by repeat (first | exact Drawn0.refl _ | apply Drawn0.step)⟩
  · rw [if_neg c3] at H
    have c3b0 : decide (t138 < 0) = false := decide_eq_false c3
    clear c3
    by_cases c4 : 0 ≤ t138
    · rw [if_pos c4] at H
      have c4b0 := eq_true c4
      have c4b1 : decide (0 ≤ t138) = true := decide_eq_true c4
      clear c4
      by_cases c5 : t138 ≤ (a0.size : Int)
      · rw [if_pos c5] at H
        have c5b0 := eq_true c5
        have c5b1 : decide (t138 ≤ (a0.size : Int)) = true := decide_eq_true c5
        clear c5
        replace H := Option.bind_eq_some_iff.mp H
        obtain ⟨t139, A60, H⟩ := H
        replace H : (if t139 = true then (if 0 ≤ (wrap64 (t138 + 1)) then (if (wrap64 (t138 + 1)) ≤ (a0.size : Int) then ((porterref05_Name.f k (a0.extract ((wrap64 (t138 + 1)) : Int).toNat a0.size)).bind fun t140 => (if t140 = true then (some (a0.extract 0 (t138 : Int).toNat, a0.extract ((wrap64 (t138 + 1)) : Int).toNat a0.size, 0)) else (some ((⟨#[]⟩ : ByteArray), (⟨#[]⟩ : ByteArray), 50)))) else (none)) else (none)) else (some ((⟨#[]⟩ : ByteArray), (⟨#[]⟩ : ByteArray), 50))) = some (r1, r2, r3) := H
        have A6 := Aside0.mk A60
        clear A60
        by_cases c7 : t139 = true
        · subst c7
          have H1 : (if 0 ≤ (wrap64 (t138 + 1)) then (if (wrap64 (t138 + 1)) ≤ (a0.size : Int) then ((porterref05_Name.f k (a0.extract ((wrap64 (t138 + 1)) : Int).toNat a0.size)).bind fun t140 => (if t140 = true then (some (a0.extract 0 (t138 : Int).toNat, a0.extract ((wrap64 (t138 + 1)) : Int).toNat a0.size, 0)) else (some ((⟨#[]⟩ : ByteArray), (⟨#[]⟩ : ByteArray), 50)))) else (none)) else (none)) = some (r1, r2, r3) := by rw [if_pos rfl] at H; exact H
          clear H
          have H := H1
          clear H1
          obtain ⟨ji8, hji8⟩ : ∃ j_ : Int, (wrap64 (t138 + 1)) = j_ := ⟨_, rfl⟩
          replace H : (if 0 ≤ (ji8) then (if (ji8) ≤ (a0.size : Int) then ((porterref05_Name.f k (a0.extract ((ji8) : Int).toNat a0.size)).bind fun t140 => (if t140 = true then (some (a0.extract 0 (t138 : Int).toNat, a0.extract ((ji8) : Int).toNat a0.size, 0)) else (some ((⟨#[]⟩ : ByteArray), (⟨#[]⟩ : ByteArray), 50)))) else (none)) else (none)) = some (r1, r2, r3) := by first | (rw [hji8] at H; exact H) | (simp only [hji8] at H ⊢; exact H)
          (try rw [hji8] at A2)
          (try rw [hji8] at A6)
          have hji8w : (IntKind.i64.wrap (t138 + 1)) = ji8 := (i64_w _).trans hji8
          by_cases c9 : 0 ≤ (ji8)
          · rw [if_pos c9] at H
            have c9b0 := eq_true c9
            have c9b1 : decide (0 ≤ (ji8)) = true := decide_eq_true c9
            clear c9
            by_cases c10 : (ji8) ≤ (a0.size : Int)
            · rw [if_pos c10] at H
              have c10b0 := eq_true c10
              have c10b1 : decide ((ji8) ≤ (a0.size : Int)) = true := decide_eq_true c10
              clear c10
              replace H := Option.bind_eq_some_iff.mp H
              obtain ⟨t140, A110, H⟩ := H
              replace H : (if t140 = true then (some (a0.extract 0 (t138 : Int).toNat, a0.extract ((ji8) : Int).toNat a0.size, 0)) else (some ((⟨#[]⟩ : ByteArray), (⟨#[]⟩ : ByteArray), 50))) = some (r1, r2, r3) := H
              have A11 := Aside0.mk A110
              clear A110
              by_cases c12 : t140 = true
              · subst c12
                have H1 : (some (a0.extract 0 (t138 : Int).toNat, a0.extract ((ji8) : Int).toNat a0.size, 0)) = some (r1, r2, r3) := by rw [if_pos rfl] at H; exact H
                clear H
                have H := H1
                clear H1
                have c13b0 := eq_true (of_decide_eq_true (by first | (with_reducible assumption) | assumption) : 0 ≤ t138)
                have c14b0 := eq_true (of_decide_eq_true (by first | (with_reducible assumption) | assumption) : t138 ≤ (a0.size : Int))
                have c15b0 := eq_true (of_decide_eq_true (by first | (with_reducible assumption) | assumption) : 0 ≤ (ji8))
                have c16b0 := eq_true (of_decide_eq_true (by first | (with_reducible assumption) | assumption) : (ji8) ≤ (a0.size : Int))
                simp only [Option.some.injEq, Prod.mk.injEq] at H
                obtain ⟨rfl, rfl, rfl⟩ := H
                go_enter Tryz.func49, Tryz.ntmps49
                go_wp2_with (first | (go_at_call 84; (with_reducible refine (porterref05_Find.calls k a0 58 t138 _ A2.out).mono ?_); rintro e w' ⟨rfl, ⟨nd, rfl⟩⟩; (try first | exact ⟨rfl, _, World.drewN_drewN _ _ _⟩ | exact ⟨rfl, _, Eq.trans (World.drewN_drewN _ _ _) (congrArg (World.drewN _) (Nat.add_assoc _ _ _))⟩)) | (go_at_call 50; (with_reducible refine (porterref05_Name.calls k (a0.extract 0 (t138 : Int).toNat) true _ A6.out).mono ?_); rintro e w' ⟨rfl, ⟨nd, rfl⟩⟩; (try first | exact ⟨rfl, _, World.drewN_drewN _ _ _⟩ | exact ⟨rfl, _, Eq.trans (World.drewN_drewN _ _ _) (congrArg (World.drewN _) (Nat.add_assoc _ _ _))⟩)) | (go_at_call 50; (with_reducible refine (porterref05_Name.calls k (a0.extract ((ji8) : Int).toNat a0.size) true _ A11.out).mono ?_); rintro e w' ⟨rfl, ⟨nd, rfl⟩⟩; (try first | exact ⟨rfl, _, World.drewN_drewN _ _ _⟩ | exact ⟨rfl, _, Eq.trans (World.drewN_drewN _ _ _) (congrArg (World.drewN _) (Nat.add_assoc _ _ _))⟩)))
                repeat (go_quiet (first | (go_at_call 84; (with_reducible refine (porterref05_Find.calls k a0 58 t138 _ A2.out).mono ?_); rintro e w' ⟨rfl, ⟨nd, rfl⟩⟩; (try first | exact ⟨rfl, _, World.drewN_drewN _ _ _⟩ | exact ⟨rfl, _, Eq.trans (World.drewN_drewN _ _ _) (congrArg (World.drewN _) (Nat.add_assoc _ _ _))⟩)) | (go_at_call 50; (with_reducible refine (porterref05_Name.calls k (a0.extract 0 (t138 : Int).toNat) true _ A6.out).mono ?_); rintro e w' ⟨rfl, ⟨nd, rfl⟩⟩; (try first | exact ⟨rfl, _, World.drewN_drewN _ _ _⟩ | exact ⟨rfl, _, Eq.trans (World.drewN_drewN _ _ _) (congrArg (World.drewN _) (Nat.add_assoc _ _ _))⟩)) | (go_at_call 50; (with_reducible refine (porterref05_Name.calls k (a0.extract ((ji8) : Int).toNat a0.size) true _ A11.out).mono ?_); rintro e w' ⟨rfl, ⟨nd, rfl⟩⟩; (try first | exact ⟨rfl, _, World.drewN_drewN _ _ _⟩ | exact ⟨rfl, _, Eq.trans (World.drewN_drewN _ _ _) (congrArg (World.drewN _) (Nat.add_assoc _ _ _))⟩))); try go_wp2_with (first | (go_at_call 84; (with_reducible refine (porterref05_Find.calls k a0 58 t138 _ A2.out).mono ?_); rintro e w' ⟨rfl, ⟨nd, rfl⟩⟩; (try first | exact ⟨rfl, _, World.drewN_drewN _ _ _⟩ | exact ⟨rfl, _, Eq.trans (World.drewN_drewN _ _ _) (congrArg (World.drewN _) (Nat.add_assoc _ _ _))⟩)) | (go_at_call 50; (with_reducible refine (porterref05_Name.calls k (a0.extract 0 (t138 : Int).toNat) true _ A6.out).mono ?_); rintro e w' ⟨rfl, ⟨nd, rfl⟩⟩; (try first | exact ⟨rfl, _, World.drewN_drewN _ _ _⟩ | exact ⟨rfl, _, Eq.trans (World.drewN_drewN _ _ _) (congrArg (World.drewN _) (Nat.add_assoc _ _ _))⟩)) | (go_at_call 50; (with_reducible refine (porterref05_Name.calls k (a0.extract ((ji8) : Int).toNat a0.size) true _ A11.out).mono ?_); rintro e w' ⟨rfl, ⟨nd, rfl⟩⟩; (try first | exact ⟨rfl, _, World.drewN_drewN _ _ _⟩ | exact ⟨rfl, _, Eq.trans (World.drewN_drewN _ _ _) (congrArg (World.drewN _) (Nat.add_assoc _ _ _))⟩))))
                go_ret3
                exact ⟨by first | rfl | (simp; done) | (simp only [← hji8] <;> (first | rfl | simp)) | (simp [*]; done), by repeat (first | exact Drawn0.refl _ | apply Drawn0.step)⟩
              · replace c12 := Bool.eq_false_iff.mpr c12
                subst c12
                have H1 : (some ((⟨#[]⟩ : ByteArray), (⟨#[]⟩ : ByteArray), 50)) = some (r1, r2, r3) := by rw [if_neg (show ¬ (false = true) by decide)] at H; exact H
                clear H
                have H := H1
                clear H1
                simp only [Option.some.injEq, Prod.mk.injEq] at H
                obtain ⟨rfl, rfl, rfl⟩ := H
                go_enter Tryz.func49, Tryz.ntmps49
                go_wp2_with (first | (go_at_call 84; (with_reducible refine (porterref05_Find.calls k a0 58 t138 _ A2.out).mono ?_); rintro e w' ⟨rfl, ⟨nd, rfl⟩⟩; (try first | exact ⟨rfl, _, World.drewN_drewN _ _ _⟩ | exact ⟨rfl, _, Eq.trans (World.drewN_drewN _ _ _) (congrArg (World.drewN _) (Nat.add_assoc _ _ _))⟩)) | (go_at_call 50; (with_reducible refine (porterref05_Name.calls k (a0.extract 0 (t138 : Int).toNat) true _ A6.out).mono ?_); rintro e w' ⟨rfl, ⟨nd, rfl⟩⟩; (try first | exact ⟨rfl, _, World.drewN_drewN _ _ _⟩ | exact ⟨rfl, _, Eq.trans (World.drewN_drewN _ _ _) (congrArg (World.drewN _) (Nat.add_assoc _ _ _))⟩)) | (go_at_call 50; (with_reducible refine (porterref05_Name.calls k (a0.extract ((ji8) : Int).toNat a0.size) false _ A11.out).mono ?_); rintro e w' ⟨rfl, ⟨nd, rfl⟩⟩; (try first | exact ⟨rfl, _, World.drewN_drewN _ _ _⟩ | exact ⟨rfl, _, Eq.trans (World.drewN_drewN _ _ _) (congrArg (World.drewN _) (Nat.add_assoc _ _ _))⟩)))
                repeat (go_quiet (first | (go_at_call 84; (with_reducible refine (porterref05_Find.calls k a0 58 t138 _ A2.out).mono ?_); rintro e w' ⟨rfl, ⟨nd, rfl⟩⟩; (try first | exact ⟨rfl, _, World.drewN_drewN _ _ _⟩ | exact ⟨rfl, _, Eq.trans (World.drewN_drewN _ _ _) (congrArg (World.drewN _) (Nat.add_assoc _ _ _))⟩)) | (go_at_call 50; (with_reducible refine (porterref05_Name.calls k (a0.extract 0 (t138 : Int).toNat) true _ A6.out).mono ?_); rintro e w' ⟨rfl, ⟨nd, rfl⟩⟩; (try first | exact ⟨rfl, _, World.drewN_drewN _ _ _⟩ | exact ⟨rfl, _, Eq.trans (World.drewN_drewN _ _ _) (congrArg (World.drewN _) (Nat.add_assoc _ _ _))⟩)) | (go_at_call 50; (with_reducible refine (porterref05_Name.calls k (a0.extract ((ji8) : Int).toNat a0.size) false _ A11.out).mono ?_); rintro e w' ⟨rfl, ⟨nd, rfl⟩⟩; (try first | exact ⟨rfl, _, World.drewN_drewN _ _ _⟩ | exact ⟨rfl, _, Eq.trans (World.drewN_drewN _ _ _) (congrArg (World.drewN _) (Nat.add_assoc _ _ _))⟩))); try go_wp2_with (first | (go_at_call 84; (with_reducible refine (porterref05_Find.calls k a0 58 t138 _ A2.out).mono ?_); rintro e w' ⟨rfl, ⟨nd, rfl⟩⟩; (try first | exact ⟨rfl, _, World.drewN_drewN _ _ _⟩ | exact ⟨rfl, _, Eq.trans (World.drewN_drewN _ _ _) (congrArg (World.drewN _) (Nat.add_assoc _ _ _))⟩)) | (go_at_call 50; (with_reducible refine (porterref05_Name.calls k (a0.extract 0 (t138 : Int).toNat) true _ A6.out).mono ?_); rintro e w' ⟨rfl, ⟨nd, rfl⟩⟩; (try first | exact ⟨rfl, _, World.drewN_drewN _ _ _⟩ | exact ⟨rfl, _, Eq.trans (World.drewN_drewN _ _ _) (congrArg (World.drewN _) (Nat.add_assoc _ _ _))⟩)) | (go_at_call 50; (with_reducible refine (porterref05_Name.calls k (a0.extract ((ji8) : Int).toNat a0.size) false _ A11.out).mono ?_); rintro e w' ⟨rfl, ⟨nd, rfl⟩⟩; (try first | exact ⟨rfl, _, World.drewN_drewN _ _ _⟩ | exact ⟨rfl, _, Eq.trans (World.drewN_drewN _ _ _) (congrArg (World.drewN _) (Nat.add_assoc _ _ _))⟩))))
                go_ret3
                exact ⟨by first | rfl | (simp; done) | (simp only [← hji8] <;> (first | rfl | simp)) | (simp [*]; done), by repeat (first | exact Drawn0.refl _ | apply Drawn0.step)⟩
            · rw [if_neg c10] at H
              exact absurd H (by simp)
          · rw [if_neg c9] at H
            exact absurd H (by simp)
        · replace c7 := Bool.eq_false_iff.mpr c7
          subst c7
          have H1 : (some ((⟨#[]⟩ : ByteArray), (⟨#[]⟩ : ByteArray), 50)) = some (r1, r2, r3) := by rw [if_neg (show ¬ (false = true) by decide)] at H; exact H
          clear H
          have H := H1
          clear H1
          simp only [Option.some.injEq, Prod.mk.injEq] at H
          obtain ⟨rfl, rfl, rfl⟩ := H
          go_enter Tryz.func49, Tryz.ntmps49
          go_wp2_with (first | (go_at_call 84; (with_reducible refine (porterref05_Find.calls k a0 58 t138 _ A2.out).mono ?_); rintro e w' ⟨rfl, ⟨nd, rfl⟩⟩; (try first | exact ⟨rfl, _, World.drewN_drewN _ _ _⟩ | exact ⟨rfl, _, Eq.trans (World.drewN_drewN _ _ _) (congrArg (World.drewN _) (Nat.add_assoc _ _ _))⟩)) | (go_at_call 50; (with_reducible refine (porterref05_Name.calls k (a0.extract 0 (t138 : Int).toNat) false _ A6.out).mono ?_); rintro e w' ⟨rfl, ⟨nd, rfl⟩⟩; (try first | exact ⟨rfl, _, World.drewN_drewN _ _ _⟩ | exact ⟨rfl, _, Eq.trans (World.drewN_drewN _ _ _) (congrArg (World.drewN _) (Nat.add_assoc _ _ _))⟩)))
          repeat (go_quiet (first | (go_at_call 84; (with_reducible refine (porterref05_Find.calls k a0 58 t138 _ A2.out).mono ?_); rintro e w' ⟨rfl, ⟨nd, rfl⟩⟩; (try first | exact ⟨rfl, _, World.drewN_drewN _ _ _⟩ | exact ⟨rfl, _, Eq.trans (World.drewN_drewN _ _ _) (congrArg (World.drewN _) (Nat.add_assoc _ _ _))⟩)) | (go_at_call 50; (with_reducible refine (porterref05_Name.calls k (a0.extract 0 (t138 : Int).toNat) false _ A6.out).mono ?_); rintro e w' ⟨rfl, ⟨nd, rfl⟩⟩; (try first | exact ⟨rfl, _, World.drewN_drewN _ _ _⟩ | exact ⟨rfl, _, Eq.trans (World.drewN_drewN _ _ _) (congrArg (World.drewN _) (Nat.add_assoc _ _ _))⟩))); try go_wp2_with (first | (go_at_call 84; (with_reducible refine (porterref05_Find.calls k a0 58 t138 _ A2.out).mono ?_); rintro e w' ⟨rfl, ⟨nd, rfl⟩⟩; (try first | exact ⟨rfl, _, World.drewN_drewN _ _ _⟩ | exact ⟨rfl, _, Eq.trans (World.drewN_drewN _ _ _) (congrArg (World.drewN _) (Nat.add_assoc _ _ _))⟩)) | (go_at_call 50; (with_reducible refine (porterref05_Name.calls k (a0.extract 0 (t138 : Int).toNat) false _ A6.out).mono ?_); rintro e w' ⟨rfl, ⟨nd, rfl⟩⟩; (try first | exact ⟨rfl, _, World.drewN_drewN _ _ _⟩ | exact ⟨rfl, _, Eq.trans (World.drewN_drewN _ _ _) (congrArg (World.drewN _) (Nat.add_assoc _ _ _))⟩))))
          go_ret3
          exact ⟨by first | rfl | (simp; done) | (simp [*]; done), by repeat (first | exact Drawn0.refl _ | apply Drawn0.step)⟩
      · rw [if_neg c5] at H
        exact absurd H (by simp)
    · rw [if_neg c4] at H
      exact absurd H (by simp)

/-! ### porterref05_User: function 51 -/
def porterref05_User.j0 : Nat → ByteArray → Int → ByteArray → Option (ByteArray × ByteArray × Int)
  | 0, _, _, _ => none
  | k + 1, x0, x5, x6 => (porterref05_Object.f k x6).bind fun bt142 => (if bt142.2.2 = 0 then (if x5 < 0 then (some (x6, (⟨#[]⟩ : ByteArray), 0)) else (if 0 ≤ (wrap64 (x5 + 1)) then (if (wrap64 (x5 + 1)) ≤ (x0.size : Int) then ((porterref05_Name.f k (x0.extract ((wrap64 (x5 + 1)) : Int).toNat x0.size)).bind fun t145 => (if t145 = true then (some (x6, x0.extract ((wrap64 (x5 + 1)) : Int).toNat x0.size, 0)) else (some ((⟨#[]⟩ : ByteArray), (⟨#[]⟩ : ByteArray), 50)))) else (none)) else (none))) else (some ((⟨#[]⟩ : ByteArray), (⟨#[]⟩ : ByteArray), bt142.2.2)))
def porterref05_User.f (k : Nat) (a0 : ByteArray) : Option (ByteArray × ByteArray × Int) := (porterref05_Find.f k a0 35).bind fun t141 => (if t141 ≥ 0 then (if 0 ≤ t141 then (if t141 ≤ (a0.size : Int) then (porterref05_User.j0 k a0 t141 (a0.extract 0 (t141 : Int).toNat)) else (none)) else (none)) else (porterref05_User.j0 k a0 t141 a0))
theorem porterref05_User.mono_l : ∀ k, (∀ y0 y1 y2, LeO (porterref05_User.j0 k y0 y1 y2) (porterref05_User.j0 (k + 1) y0 y1 y2))
  | 0 => fun _ _ _ r h => by simp [porterref05_User.j0] at h
  | k + 1 => by
    have ih0 := porterref05_User.mono_l k
    · intro y0 y1 y2
      unfold porterref05_User.j0
      repeat' first
      | (with_reducible exact ih0 _ _ _)
      | (with_reducible exact porterref05_Find.mono _ _ _)
      | (with_reducible exact porterref05_Name.mono _ _)
      | (with_reducible exact porterref05_Object.mono _ _)
      | (with_reducible exact LeO.refl _)
      | (with_reducible exact LeO.none _)
      | (with_reducible refine LeO.ite ?_ ?_)
      | (with_reducible refine LeO.bind ?_ (fun _ => ?_))
      | exact ih0 _ _ _
      | exact porterref05_Find.mono _ _ _
      | exact porterref05_Name.mono _ _
      | exact porterref05_Object.mono _ _
      | exact LeO.none _
      | refine LeO.ite ?_ ?_
      | refine LeO.bind ?_ (fun _ => ?_)
theorem porterref05_User.mono : ∀ a0 k, LeO (porterref05_User.f k a0) (porterref05_User.f (k + 1) a0) := by
  intro a0 k
  have ih0 := porterref05_User.mono_l k
  unfold porterref05_User.f
  repeat' first
      | (with_reducible exact ih0 _ _ _)
      | (with_reducible exact porterref05_Find.mono _ _ _)
      | (with_reducible exact porterref05_Name.mono _ _)
      | (with_reducible exact porterref05_Object.mono _ _)
      | (with_reducible exact LeO.refl _)
      | (with_reducible exact LeO.none _)
      | (with_reducible refine LeO.ite ?_ ?_)
      | (with_reducible refine LeO.bind ?_ (fun _ => ?_))
      | exact ih0 _ _ _
      | exact porterref05_Find.mono _ _ _
      | exact porterref05_Name.mono _ _
      | exact porterref05_Object.mono _ _
      | exact LeO.none _
      | refine LeO.ite ?_ ?_
      | refine LeO.bind ?_ (fun _ => ?_)
set_option maxHeartbeats 8000000 in
set_option maxRecDepth 100000 in
theorem porterref05_User.calls (k : Nat) (a0 : ByteArray) (r1 : ByteArray) (r2 : ByteArray) (r3 : Int) (w : World) (h : porterref05_User.f k a0 = some (r1, r2, r3)) :
    Calls Tryz.prog 51 #[.string a0] w fun e w' => e = .returned (.tuple #[.string r1, .string r2, .int .i64 r3]) ∧ Drawn0 w w' := by
  have H : ((porterref05_Find.f k a0 35).bind fun t141 => (if t141 ≥ 0 then (if 0 ≤ t141 then (if t141 ≤ (a0.size : Int) then (porterref05_User.j0 k a0 t141 (a0.extract 0 (t141 : Int).toNat)) else (none)) else (none)) else (porterref05_User.j0 k a0 t141 a0))) = some (r1, r2, r3) := h
  clear h
  replace H := Option.bind_eq_some_iff.mp H
  obtain ⟨t141, A20, H⟩ := H
  replace H : (if t141 ≥ 0 then (if 0 ≤ t141 then (if t141 ≤ (a0.size : Int) then (porterref05_User.j0 k a0 t141 (a0.extract 0 (t141 : Int).toNat)) else (none)) else (none)) else (porterref05_User.j0 k a0 t141 a0)) = some (r1, r2, r3) := H
  have A2 := Aside0.mk A20
  clear A20
  have HC3 := Aside0.mk H
  clear H
  go_enter Tryz.func51, Tryz.ntmps51
  go_upto_if 14 with (first | (go_at_call 84; (with_reducible refine (porterref05_Find.calls k a0 35 t141 _ A2.out).mono ?_); rintro e w' ⟨rfl, ⟨nd, rfl⟩⟩; (try first | exact ⟨rfl, _, World.drewN_drewN _ _ _⟩ | exact ⟨rfl, _, Eq.trans (World.drewN_drewN _ _ _) (congrArg (World.drewN _) (Nat.add_assoc _ _ _))⟩)))
  repeat (go_quiet (first | (go_at_call 84; (with_reducible refine (porterref05_Find.calls k a0 35 t141 _ A2.out).mono ?_); rintro e w' ⟨rfl, ⟨nd, rfl⟩⟩; (try first | exact ⟨rfl, _, World.drewN_drewN _ _ _⟩ | exact ⟨rfl, _, Eq.trans (World.drewN_drewN _ _ _) (congrArg (World.drewN _) (Nat.add_assoc _ _ _))⟩))); go_upto_if 14 with (first | (go_at_call 84; (with_reducible refine (porterref05_Find.calls k a0 35 t141 _ A2.out).mono ?_); rintro e w' ⟨rfl, ⟨nd, rfl⟩⟩; (try first | exact ⟨rfl, _, World.drewN_drewN _ _ _⟩ | exact ⟨rfl, _, Eq.trans (World.drewN_drewN _ _ _) (congrArg (World.drewN _) (Nat.add_assoc _ _ _))⟩))))
  (try simp only [Act.put, List.setIfInBounds_toArray, List.set_cons_zero, List.set_cons_succ])
  go_cut [6] (fun v6 wc => ∃ (kq : Nat) (x6_2 : ByteArray), v6 = .string x6_2 ∧ Aside0 (porterref05_User.j0 kq a0 t141 x6_2 = some (r1, r2, r3)) ∧ Aside0 (kq ≤ k) ∧ Drawn0 w wc)
  case first =>
    have H := HC3.out
    clear HC3
    by_cases c4 : t141 ≥ 0
    · rw [if_pos c4] at H
      have c4b0 : decide (0 ≤ t141) = true := decide_eq_true c4
      clear c4
      (first | rw [c4b0] | (simp only [i64_w, i32_w]; rw [c4b0]) | skip)
      by_cases c5 : 0 ≤ t141
      · rw [if_pos c5] at H
        have c5b0 := eq_true c5
        have c5b1 : decide (0 ≤ t141) = true := decide_eq_true c5
        clear c5
        by_cases c6 : t141 ≤ (a0.size : Int)
        · rw [if_pos c6] at H
          have c6b0 := eq_true c6
          have c6b1 : decide (t141 ≤ (a0.size : Int)) = true := decide_eq_true c6
          clear c6
          have H' := Aside0.mk H
          clear H
          go_wp2
          repeat (go_quiet (fail); try go_wp2)
          go_meet
          case rel => exact ⟨_, (a0.extract 0 (t141 : Int).toNat), (by first | rfl | (simp; done) | (simp [*]; done)), H', ⟨by first | omega | exact Nat.le_refl _⟩, by repeat (first | exact Drawn0.refl _ | apply Drawn0.step)⟩
        · rw [if_neg c6] at H
          exact absurd H (by simp)
      · rw [if_neg c5] at H
        exact absurd H (by simp)
    · rw [if_neg c4] at H
      have c4b0 : decide (0 ≤ t141) = false := decide_eq_false c4
      clear c4
      (first | rw [c4b0] | (simp only [i64_w, i32_w]; rw [c4b0]) | skip)
      have H' := Aside0.mk H
      clear H
      go_wp2
      repeat (go_quiet (fail); try go_wp2)
      go_meet
      case rel => exact ⟨_, (a0), (by first | rfl | (simp; done) | (simp [*]; done)), H', ⟨by first | omega | exact Nat.le_refl _⟩, by repeat (first | exact Drawn0.refl _ | apply Drawn0.step)⟩
  case rest =>
    clear HC3
    try clear p2
    try clear c4
    try clear c4b0
    try clear c5
    try clear c5b0
    try clear c5b1
    try clear c6
    try clear c6b0
    try clear c6b1
    obtain ⟨kq, x6_2, rfl, HA, HJ2, ⟨mc2, rfl⟩⟩ := hcut
    cases kq with
    | zero => exact absurd HA.out (by simp [porterref05_User.j0])
    | succ kj2 =>
      have H := HA.out
      clear HA
      simp only [porterref05_User.j0] at H
      replace H := Option.bind_eq_some_iff.mp H
      obtain ⟨⟨t142, t143, t144⟩, A70, H⟩ := H
      replace H : (if t144 = 0 then (if t141 < 0 then (some (x6_2, (⟨#[]⟩ : ByteArray), 0)) else (if 0 ≤ (wrap64 (t141 + 1)) then (if (wrap64 (t141 + 1)) ≤ (a0.size : Int) then ((porterref05_Name.f kj2 (a0.extract ((wrap64 (t141 + 1)) : Int).toNat a0.size)).bind fun t145 => (if t145 = true then (some (x6_2, a0.extract ((wrap64 (t141 + 1)) : Int).toNat a0.size, 0)) else (some ((⟨#[]⟩ : ByteArray), (⟨#[]⟩ : ByteArray), 50)))) else (none)) else (none))) else (some ((⟨#[]⟩ : ByteArray), (⟨#[]⟩ : ByteArray), t144))) = some (r1, r2, r3) := H
      have A7 := Aside0.mk A70
      clear A70
      by_cases c8 : t144 = 0
      · rw [if_pos c8] at H
        have c8b0 : (t144 == 0) = true := beq_iff_eq.mpr c8
        have c8b1 : (t144 != 0) = false := bne_eq_false_iff_eq.mpr c8
        clear c8
        by_cases c9 : t141 < 0
        · rw [if_pos c9] at H
          have c9b0 : decide (t141 < 0) = true := decide_eq_true c9
          clear c9
          simp only [Option.some.injEq, Prod.mk.injEq] at H
          obtain ⟨rfl, rfl, rfl⟩ := H
          go_wp2_with (first | (go_at_call 49; (with_reducible refine (porterref05_Object.calls kj2 x6_2 t142 t143 t144 _ A7.out).mono ?_); rintro e w' ⟨rfl, ⟨nd, rfl⟩⟩; (try first | exact ⟨rfl, _, World.drewN_drewN _ _ _⟩ | exact ⟨rfl, _, Eq.trans (World.drewN_drewN _ _ _) (congrArg (World.drewN _) (Nat.add_assoc _ _ _))⟩)))
          repeat (go_quiet (first | (go_at_call 49; (with_reducible refine (porterref05_Object.calls kj2 x6_2 t142 t143 t144 _ A7.out).mono ?_); rintro e w' ⟨rfl, ⟨nd, rfl⟩⟩; (try first | exact ⟨rfl, _, World.drewN_drewN _ _ _⟩ | exact ⟨rfl, _, Eq.trans (World.drewN_drewN _ _ _) (congrArg (World.drewN _) (Nat.add_assoc _ _ _))⟩))); try go_wp2_with (first | (go_at_call 49; (with_reducible refine (porterref05_Object.calls kj2 x6_2 t142 t143 t144 _ A7.out).mono ?_); rintro e w' ⟨rfl, ⟨nd, rfl⟩⟩; (try first | exact ⟨rfl, _, World.drewN_drewN _ _ _⟩ | exact ⟨rfl, _, Eq.trans (World.drewN_drewN _ _ _) (congrArg (World.drewN _) (Nat.add_assoc _ _ _))⟩))))
          go_ret3
          exact ⟨by first | rfl | (simp; done) | (simp [*]; done), by repeat (first | exact Drawn0.refl _ | apply Drawn0.step)⟩
        · rw [if_neg c9] at H
          have c9b0 : decide (t141 < 0) = false := decide_eq_false c9
          clear c9
          obtain ⟨ji10, hji10⟩ : ∃ j_ : Int, (wrap64 (t141 + 1)) = j_ := ⟨_, rfl⟩
          replace H : (if 0 ≤ (ji10) then (if (ji10) ≤ (a0.size : Int) then ((porterref05_Name.f kj2 (a0.extract ((ji10) : Int).toNat a0.size)).bind fun t145 => (if t145 = true then (some (x6_2, a0.extract ((ji10) : Int).toNat a0.size, 0)) else (some ((⟨#[]⟩ : ByteArray), (⟨#[]⟩ : ByteArray), 50)))) else (none)) else (none)) = some (r1, r2, r3) := by first | (rw [hji10] at H; exact H) | (simp only [hji10] at H ⊢; exact H)
          (try rw [hji10] at A7)
          have hji10w : (IntKind.i64.wrap (t141 + 1)) = ji10 := (i64_w _).trans hji10
          by_cases c11 : 0 ≤ (ji10)
          · rw [if_pos c11] at H
            have c11b0 := eq_true c11
            have c11b1 : decide (0 ≤ (ji10)) = true := decide_eq_true c11
            clear c11
            by_cases c12 : (ji10) ≤ (a0.size : Int)
            · rw [if_pos c12] at H
              have c12b0 := eq_true c12
              have c12b1 : decide ((ji10) ≤ (a0.size : Int)) = true := decide_eq_true c12
              clear c12
              replace H := Option.bind_eq_some_iff.mp H
              obtain ⟨t145, A130, H⟩ := H
              replace H : (if t145 = true then (some (x6_2, a0.extract ((ji10) : Int).toNat a0.size, 0)) else (some ((⟨#[]⟩ : ByteArray), (⟨#[]⟩ : ByteArray), 50))) = some (r1, r2, r3) := H
              have A13 := Aside0.mk A130
              clear A130
              by_cases c14 : t145 = true
              · subst c14
                have H1 : (some (x6_2, a0.extract ((ji10) : Int).toNat a0.size, 0)) = some (r1, r2, r3) := by rw [if_pos rfl] at H; exact H
                clear H
                have H := H1
                clear H1
                have c15b0 := eq_true (of_decide_eq_true (by first | (with_reducible assumption) | assumption) : 0 ≤ (ji10))
                have c16b0 := eq_true (of_decide_eq_true (by first | (with_reducible assumption) | assumption) : (ji10) ≤ (a0.size : Int))
                simp only [Option.some.injEq, Prod.mk.injEq] at H
                obtain ⟨rfl, rfl, rfl⟩ := H
                go_wp2_with (first | (go_at_call 49; (with_reducible refine (porterref05_Object.calls kj2 x6_2 t142 t143 t144 _ A7.out).mono ?_); rintro e w' ⟨rfl, ⟨nd, rfl⟩⟩; (try first | exact ⟨rfl, _, World.drewN_drewN _ _ _⟩ | exact ⟨rfl, _, Eq.trans (World.drewN_drewN _ _ _) (congrArg (World.drewN _) (Nat.add_assoc _ _ _))⟩)) | (go_at_call 50; (with_reducible refine (porterref05_Name.calls kj2 (a0.extract ((ji10) : Int).toNat a0.size) true _ A13.out).mono ?_); rintro e w' ⟨rfl, ⟨nd, rfl⟩⟩; (try first | exact ⟨rfl, _, World.drewN_drewN _ _ _⟩ | exact ⟨rfl, _, Eq.trans (World.drewN_drewN _ _ _) (congrArg (World.drewN _) (Nat.add_assoc _ _ _))⟩)))
                repeat (go_quiet (first | (go_at_call 49; (with_reducible refine (porterref05_Object.calls kj2 x6_2 t142 t143 t144 _ A7.out).mono ?_); rintro e w' ⟨rfl, ⟨nd, rfl⟩⟩; (try first | exact ⟨rfl, _, World.drewN_drewN _ _ _⟩ | exact ⟨rfl, _, Eq.trans (World.drewN_drewN _ _ _) (congrArg (World.drewN _) (Nat.add_assoc _ _ _))⟩)) | (go_at_call 50; (with_reducible refine (porterref05_Name.calls kj2 (a0.extract ((ji10) : Int).toNat a0.size) true _ A13.out).mono ?_); rintro e w' ⟨rfl, ⟨nd, rfl⟩⟩; (try first | exact ⟨rfl, _, World.drewN_drewN _ _ _⟩ | exact ⟨rfl, _, Eq.trans (World.drewN_drewN _ _ _) (congrArg (World.drewN _) (Nat.add_assoc _ _ _))⟩))); try go_wp2_with (first | (go_at_call 49; (with_reducible refine (porterref05_Object.calls kj2 x6_2 t142 t143 t144 _ A7.out).mono ?_); rintro e w' ⟨rfl, ⟨nd, rfl⟩⟩; (try first | exact ⟨rfl, _, World.drewN_drewN _ _ _⟩ | exact ⟨rfl, _, Eq.trans (World.drewN_drewN _ _ _) (congrArg (World.drewN _) (Nat.add_assoc _ _ _))⟩)) | (go_at_call 50; (with_reducible refine (porterref05_Name.calls kj2 (a0.extract ((ji10) : Int).toNat a0.size) true _ A13.out).mono ?_); rintro e w' ⟨rfl, ⟨nd, rfl⟩⟩; (try first | exact ⟨rfl, _, World.drewN_drewN _ _ _⟩ | exact ⟨rfl, _, Eq.trans (World.drewN_drewN _ _ _) (congrArg (World.drewN _) (Nat.add_assoc _ _ _))⟩))))
                go_ret3
                exact ⟨by first | rfl | (simp; done) | (simp only [← hji10] <;> (first | rfl | simp)) | (simp [*]; done), by repeat (first | exact Drawn0.refl _ | apply Drawn0.step)⟩
              · replace c14 := Bool.eq_false_iff.mpr c14
                subst c14
                have H1 : (some ((⟨#[]⟩ : ByteArray), (⟨#[]⟩ : ByteArray), 50)) = some (r1, r2, r3) := by rw [if_neg (show ¬ (false = true) by decide)] at H; exact H
                clear H
                have H := H1
                clear H1
                simp only [Option.some.injEq, Prod.mk.injEq] at H
                obtain ⟨rfl, rfl, rfl⟩ := H
                go_wp2_with (first | (go_at_call 49; (with_reducible refine (porterref05_Object.calls kj2 x6_2 t142 t143 t144 _ A7.out).mono ?_); rintro e w' ⟨rfl, ⟨nd, rfl⟩⟩; (try first | exact ⟨rfl, _, World.drewN_drewN _ _ _⟩ | exact ⟨rfl, _, Eq.trans (World.drewN_drewN _ _ _) (congrArg (World.drewN _) (Nat.add_assoc _ _ _))⟩)) | (go_at_call 50; (with_reducible refine (porterref05_Name.calls kj2 (a0.extract ((ji10) : Int).toNat a0.size) false _ A13.out).mono ?_); rintro e w' ⟨rfl, ⟨nd, rfl⟩⟩; (try first | exact ⟨rfl, _, World.drewN_drewN _ _ _⟩ | exact ⟨rfl, _, Eq.trans (World.drewN_drewN _ _ _) (congrArg (World.drewN _) (Nat.add_assoc _ _ _))⟩)))
                repeat (go_quiet (first | (go_at_call 49; (with_reducible refine (porterref05_Object.calls kj2 x6_2 t142 t143 t144 _ A7.out).mono ?_); rintro e w' ⟨rfl, ⟨nd, rfl⟩⟩; (try first | exact ⟨rfl, _, World.drewN_drewN _ _ _⟩ | exact ⟨rfl, _, Eq.trans (World.drewN_drewN _ _ _) (congrArg (World.drewN _) (Nat.add_assoc _ _ _))⟩)) | (go_at_call 50; (with_reducible refine (porterref05_Name.calls kj2 (a0.extract ((ji10) : Int).toNat a0.size) false _ A13.out).mono ?_); rintro e w' ⟨rfl, ⟨nd, rfl⟩⟩; (try first | exact ⟨rfl, _, World.drewN_drewN _ _ _⟩ | exact ⟨rfl, _, Eq.trans (World.drewN_drewN _ _ _) (congrArg (World.drewN _) (Nat.add_assoc _ _ _))⟩))); try go_wp2_with (first | (go_at_call 49; (with_reducible refine (porterref05_Object.calls kj2 x6_2 t142 t143 t144 _ A7.out).mono ?_); rintro e w' ⟨rfl, ⟨nd, rfl⟩⟩; (try first | exact ⟨rfl, _, World.drewN_drewN _ _ _⟩ | exact ⟨rfl, _, Eq.trans (World.drewN_drewN _ _ _) (congrArg (World.drewN _) (Nat.add_assoc _ _ _))⟩)) | (go_at_call 50; (with_reducible refine (porterref05_Name.calls kj2 (a0.extract ((ji10) : Int).toNat a0.size) false _ A13.out).mono ?_); rintro e w' ⟨rfl, ⟨nd, rfl⟩⟩; (try first | exact ⟨rfl, _, World.drewN_drewN _ _ _⟩ | exact ⟨rfl, _, Eq.trans (World.drewN_drewN _ _ _) (congrArg (World.drewN _) (Nat.add_assoc _ _ _))⟩))))
                go_ret3
                exact ⟨by first | rfl | (simp; done) | (simp only [← hji10] <;> (first | rfl | simp)) | (simp [*]; done), by repeat (first | exact Drawn0.refl _ | apply Drawn0.step)⟩
            · rw [if_neg c12] at H
              exact absurd H (by simp)
          · rw [if_neg c11] at H
            exact absurd H (by simp)
      · rw [if_neg c8] at H
        have c8b0 : (t144 == 0) = false := beq_eq_false_iff_ne.mpr c8
        have c8b1 : (t144 != 0) = true := bne_iff_ne.mpr c8
        simp only [Option.some.injEq, Prod.mk.injEq] at H
        obtain ⟨rfl, rfl, rfl⟩ := H
        go_wp2_with (first | (go_at_call 49; (with_reducible refine (porterref05_Object.calls kj2 x6_2 t142 t143 t144 _ A7.out).mono ?_); rintro e w' ⟨rfl, ⟨nd, rfl⟩⟩; (try first | exact ⟨rfl, _, World.drewN_drewN _ _ _⟩ | exact ⟨rfl, _, Eq.trans (World.drewN_drewN _ _ _) (congrArg (World.drewN _) (Nat.add_assoc _ _ _))⟩)))
        repeat (go_quiet (first | (go_at_call 49; (with_reducible refine (porterref05_Object.calls kj2 x6_2 t142 t143 t144 _ A7.out).mono ?_); rintro e w' ⟨rfl, ⟨nd, rfl⟩⟩; (try first | exact ⟨rfl, _, World.drewN_drewN _ _ _⟩ | exact ⟨rfl, _, Eq.trans (World.drewN_drewN _ _ _) (congrArg (World.drewN _) (Nat.add_assoc _ _ _))⟩))); try go_wp2_with (first | (go_at_call 49; (with_reducible refine (porterref05_Object.calls kj2 x6_2 t142 t143 t144 _ A7.out).mono ?_); rintro e w' ⟨rfl, ⟨nd, rfl⟩⟩; (try first | exact ⟨rfl, _, World.drewN_drewN _ _ _⟩ | exact ⟨rfl, _, Eq.trans (World.drewN_drewN _ _ _) (congrArg (World.drewN _) (Nat.add_assoc _ _ _))⟩))))
        go_ret3
        exact ⟨by first | rfl | (simp; done) | (simp [*]; done), by repeat (first | exact Drawn0.refl _ | apply Drawn0.step)⟩

end Go.Proofs.YtelmbimmkdobaaaGreatDoor.Pr

namespace Go.Proofs.YtelmbimmkdobaaaGreatDoor.Pr
open Go.Shelf Go.RowKit Go.Lib Go.Sort Go.Proofs.YtelmbimmkdobaaaGreatDoor
open Go.Proofs.YtelmbimmkdobaaaGreatDoorW.PrintWords Go.Proofs.YtelmbimmkdobaaaGreatDoorW.PrintLast Go.Proofs.YtelmbimmkdobaaaGreatDoorW.PrintMore

theorem set_iff (x : UInt8) : nameSet.contains x = decide (x.toNat = 95 ∨ (48 ≤ x.toNat ∧ x.toNat ≤ 57) ∨ (97 ≤ x.toNat ∧ x.toNat ≤ 122)) := by
  have h : ∀ n : Fin 256, nameSet.contains (UInt8.ofNat n.val) = decide (n.val = 95 ∨ (48 ≤ n.val ∧ n.val ≤ 57) ∨ (97 ≤ n.val ∧ n.val ≤ 122)) := by decide +kernel
  have h2 := h ⟨x.toNat, x.toNat_lt⟩
  simpa using h2
theorem bt_get (s : ByteArray) (i : Nat) (x : UInt8) (h : (bl s)[i]? = some x) : bt s (i : Int) = (x.toNat : Int) := by
  obtain ⟨h1, h2⟩ := List.getElem?_eq_some_iff.1 h
  have h3 : i < s.size := h1
  unfold bt
  have e : ((i : Int)).toNat = i := by omega
  rw [dif_pos (by omega)]
  rw [← h2]
  simp only [e]
  rfl
theorem drop_at {l : List UInt8} {i : Nat} (h : i < l.length) : ∃ x, l[i]? = some x ∧ l.drop i = x :: l.drop (i + 1) := ⟨l[i], List.getElem?_eq_getElem h, by rw [← List.getElem_cons_drop h]⟩
theorem Name_l0 (s : ByteArray) (hs : s.size ≤ 4611686018427387904) : ∀ d i k : Nat, s.size - i = d → d < k → i ≤ s.size → porterref05_Name.l0 k s (i : Int) = some (((bl s).drop i).all (nameSet.contains ·))
  | 0, i, k + 1, hd, hk, hi => by
    have e : i = s.size := by omega
    rw [porterref05_Name.l0, if_neg (by omega), List.drop_of_length_le (by rw [bl_len]; omega)]; rfl
  | d + 1, i, k + 1, hd, hk, hi => by
    have hlt : i < (bl s).length := by rw [bl_len]; omega
    obtain ⟨x, h1, h2⟩ := drop_at hlt
    have ih := Name_l0 s hs d (i + 1) k (by omega) (by omega) (by omega)
    have hw : wrap64 ((i : Int) + 1) = ((i + 1 : Nat) : Int) := by unfold wrap64; omega
    rw [porterref05_Name.l0, if_pos (by omega), if_pos (by omega), bt_get s i x h1, hw, ih, h2, List.all_cons, set_iff]
    have hx := x.toNat_lt
    by_cases c1 : (x.toNat : Int) = 95
    · rw [if_pos c1, decide_eq_true (by omega), Bool.true_and]
    · rw [if_neg c1]
      by_cases c2 : (x.toNat : Int) < 48
      · rw [if_pos c2, if_pos (by omega), decide_eq_false (by omega), Bool.false_and]
      · rw [if_neg c2]
        by_cases c3 : (x.toNat : Int) > 57
        · rw [if_pos c3]
          by_cases c4 : (x.toNat : Int) < 97
          · rw [if_pos c4, decide_eq_false (by omega), Bool.false_and]
          · rw [if_neg c4]
            by_cases c5 : (x.toNat : Int) > 122
            · rw [if_pos c5, decide_eq_false (by omega), Bool.false_and]
            · rw [if_neg c5, decide_eq_true (by omega), Bool.true_and]
        · rw [if_neg c3, decide_eq_true (by omega), Bool.true_and]
theorem Name_f (s : ByteArray) (hs : s.size ≤ 4611686018427387904) (k : Nat) (hk : s.size + 3 ≤ k) : porterref05_Name.f k s = some (nameL (bl s)) := by
  obtain ⟨k, rfl⟩ : ∃ k', k = k' + 1 := ⟨k - 1, by omega⟩
  have h0 := Name_l0 s hs s.size 0 k (by omega) (by omega) (by omega)
  rw [List.drop_zero] at h0
  have h0' : porterref05_Name.l0 k s 0 = some ((bl s).all (nameSet.contains ·)) := h0
  unfold porterref05_Name.f nameL
  rw [bl_len]
  by_cases c : (s.size : Int) < 1
  · rw [if_pos c, porterref05_Name.j0, if_pos rfl]
    have : bl s = [] := List.length_eq_zero_iff.1 (by rw [bl_len]; omega)
    rw [this]; rfl
  · rw [if_neg c, porterref05_Name.j0, h0']
    have hne : (bl s).isEmpty = false := by
      cases hb : bl s with
      | nil => have := bl_len s; rw [hb] at this; simp at this; omega
      | cons _ _ => rfl
    rw [hne]
    by_cases c2 : (s.size : Int) > 32
    · rw [if_pos (decide_eq_true c2), decide_eq_false (show ¬ s.size ≤ 32 by omega)]; rfl
    · rw [if_neg (by rw [decide_eq_false c2]; simp), decide_eq_true (show s.size ≤ 32 by omega)]; rfl
theorem Find_l0 (s : ByteArray) (c : UInt8) (hs : s.size ≤ 4611686018427387904) : ∀ d i k : Nat, s.size - i = d → d < k → i ≤ s.size → porterref05_Find.l0 k s (c.toNat : Int) (i : Int) = some (if Lib.indexByte ((bl s).drop i) c < 0 then -1 else (i : Int) + Lib.indexByte ((bl s).drop i) c)
  | 0, i, k + 1, hd, hk, hi => by
    have e : i = s.size := by omega
    rw [porterref05_Find.l0, if_neg (by omega), List.drop_of_length_le (by rw [bl_len]; omega)]; rfl
  | d + 1, i, k + 1, hd, hk, hi => by
    have hlt : i < (bl s).length := by rw [bl_len]; omega
    obtain ⟨x, h1, h2⟩ := drop_at hlt
    have ih := Find_l0 s c hs d (i + 1) k (by omega) (by omega) (by omega)
    have hw : wrap64 ((i : Int) + 1) = ((i + 1 : Nat) : Int) := by unfold wrap64; omega
    rw [porterref05_Find.l0, if_pos (by omega), if_pos (by omega), bt_get s i x h1, hw, ih, h2]
    rw [Lib.indexByte]
    by_cases q : x = c
    · subst q
      simp
    · have q2 : ¬ (x.toNat : Int) = (c.toNat : Int) := fun e => q (UInt8.toNat_inj.1 (by omega))
      have q4 : (x == c) = false := by simpa using q
      rw [if_neg q2, q4]
      have hge := Lib.indexByte_ge ((bl s).drop (i + 1)) c
      generalize Lib.indexByte ((bl s).drop (i + 1)) c = v at hge
      by_cases q3 : v = -1
      · subst q3; simp
      · have q5 : (v == -1) = false := by simpa using q3
        have q6 : ¬ v < 0 := by omega
        have q7 : ¬ v + 1 < 0 := by omega
        simp only [q5, q6, q7, if_false, Bool.false_eq_true]
        congr 1; omega
theorem Find_f (s : ByteArray) (c : UInt8) (hs : s.size ≤ 4611686018427387904) (k : Nat) (hk : s.size + 1 ≤ k) : porterref05_Find.f k s (c.toNat : Int) = some (Lib.indexByte (bl s) c) := by
  have h0 := Find_l0 s c hs s.size 0 k (by omega) (by omega) (by omega)
  rw [List.drop_zero] at h0
  have h1 : porterref05_Find.l0 k s (c.toNat : Int) 0 = some (if Lib.indexByte (bl s) c < 0 then -1 else 0 + Lib.indexByte (bl s) c) := h0
  unfold porterref05_Find.f
  rw [h1]
  have hge := Lib.indexByte_ge (bl s) c
  split
  · congr 1; omega
  · congr 1; omega
theorem Object_f (s : ByteArray) (hs : s.size ≤ 4611686018427387904) (k : Nat) (hk : s.size + 3 ≤ k) : ∃ a b, porterref05_Object.f k s = some (a, b, objL (bl s)) := by
  have hF : porterref05_Find.f k s 58 = some (Lib.indexByte (bl s) 58) := Find_f s 58 hs k (by omega)
  unfold porterref05_Object.f objL
  rw [hF, Option.bind_some]
  rcases ib_lt 58 (bl s) with hneg | ⟨n, hn, hlt⟩
  · rw [if_pos hneg, if_pos hneg]; exact ⟨_, _, rfl⟩
  · rw [hn]
    rw [bl_len] at hlt
    have hw : wrap64 ((n : Int) + 1) = ((n + 1 : Nat) : Int) := by unfold wrap64; omega
    have e1 : ((n : Int)).toNat = n := by omega
    have e2 : (((n + 1 : Nat) : Int)).toNat = n + 1 := by omega
    rw [if_neg (show ¬ (n : Int) < 0 by omega), if_pos (show 0 ≤ (n : Int) by omega), if_pos (show (n : Int) ≤ (s.size : Int) by omega), if_neg (show ¬ (n : Int) < 0 by omega), hw, e1, e2]
    rw [Name_f _ (by have := ext_size s 0 n; omega) k (by have := ext_size s 0 n; omega), Option.bind_some, bl_take]
    cases h1 : nameL ((bl s).take n)
    · rw [if_neg (by simp), Bool.false_and, if_neg (by simp)]; exact ⟨_, _, rfl⟩
    · rw [if_pos rfl, if_pos (by omega), if_pos (by omega)]
      rw [Name_f _ (by have := ext_size s (n + 1) s.size; omega) k (by have := ext_size s (n + 1) s.size; omega), Option.bind_some, bl_drop]
      cases h2 : nameL ((bl s).drop (n + 1))
      · rw [if_neg (by simp), if_neg (by simp)]; exact ⟨_, _, rfl⟩
      · rw [if_pos rfl, if_pos (by simp)]; exact ⟨_, _, rfl⟩
theorem User_f (s : ByteArray) (hs : s.size ≤ 4611686018427387904) (k : Nat) (hk : s.size + 4 ≤ k) : ∃ a b, porterref05_User.f k s = some (a, b, userL (bl s)) := by
  have hF : porterref05_Find.f k s 35 = some (Lib.indexByte (bl s) 35) := Find_f s 35 hs k (by omega)
  obtain ⟨k, rfl⟩ : ∃ k', k = k' + 1 := ⟨k - 1, by omega⟩
  unfold porterref05_User.f userL
  rw [hF, Option.bind_some]
  rcases ib_lt 35 (bl s) with hneg | ⟨n, hn, hlt⟩
  · obtain ⟨a, b, hO⟩ := Object_f s hs k (by omega)
    rw [if_pos hneg, if_neg (by omega), porterref05_User.j0, hO, Option.bind_some]
    dsimp only
    by_cases h0 : objL (bl s) = 0
    · rw [h0, if_pos rfl, if_pos hneg]; exact ⟨_, _, rfl⟩
    · rw [if_neg h0]; exact ⟨_, _, rfl⟩
  · rw [hn]
    rw [bl_len] at hlt
    have hw : wrap64 ((n : Int) + 1) = ((n + 1 : Nat) : Int) := by unfold wrap64; omega
    have e1 : ((n : Int)).toNat = n := by omega
    have e2 : (((n + 1 : Nat) : Int)).toNat = n + 1 := by omega
    obtain ⟨a, b, hO⟩ := Object_f (s.extract 0 n) (by have := ext_size s 0 n; omega) k (by have := ext_size s 0 n; omega)
    rw [bl_take] at hO
    rw [if_pos (by omega), if_pos (by omega), if_pos (by omega), if_neg (by omega), e1, porterref05_User.j0, hO, Option.bind_some, hw, e2]
    dsimp only
    by_cases h0 : objL ((bl s).take n) = 0
    · rw [h0, if_pos rfl, if_neg (by omega), if_pos (by omega), if_pos (by omega)]
      rw [Name_f _ (by have := ext_size s (n + 1) s.size; omega) k (by have := ext_size s (n + 1) s.size; omega), Option.bind_some, bl_drop, if_neg (show ¬ (0 : Int) ≠ 0 by simp)]
      cases h2 : nameL ((bl s).drop (n + 1))
      · rw [if_neg (by simp), if_neg (by simp)]; exact ⟨_, _, rfl⟩
      · rw [if_pos rfl, if_pos rfl]; exact ⟨_, _, rfl⟩
    · rw [if_neg h0, if_pos h0]; exact ⟨_, _, rfl⟩

theorem ref_Object (s : ByteArray) (w : World) (hs : s.size ≤ 4611686018427387904) : Calls Tryz.prog 49 #[.string s] w (Tells (objL (bl s)) w) := by
  obtain ⟨a, b, h⟩ := Object_f s hs (s.size + 3) (Nat.le_refl _)
  refine (porterref05_Object.calls _ s a b _ w h).mono ?_
  rintro e w' ⟨rfl, hd⟩
  exact ⟨⟨a, b, rfl⟩, hd.below⟩
theorem ref_User (s : ByteArray) (w : World) (hs : s.size ≤ 4611686018427387904) : Calls Tryz.prog 51 #[.string s] w (Tells (userL (bl s)) w) := by
  obtain ⟨a, b, h⟩ := User_f s hs (s.size + 4) (Nat.le_refl _)
  refine (porterref05_User.calls _ s a b _ w h).mono ?_
  rintro e w' ⟨rfl, hd⟩
  exact ⟨⟨a, b, rfl⟩, hd.below⟩
theorem ref_Name (s : ByteArray) (w : World) (hs : s.size ≤ 4611686018427387904) : Calls Tryz.prog 50 #[.string s] w fun e w' => e = .returned (.bool (nameL (bl s))) ∧ Below w.heap.size w w' := by
  refine (porterref05_Name.calls _ s _ w (Name_f s hs (s.size + 3) (Nat.le_refl _))).mono ?_
  rintro e w' ⟨rfl, hd⟩
  exact ⟨rfl, hd.below⟩

set_option maxHeartbeats 16000000 in
set_option maxRecDepth 100000 in
theorem ref_Check (t0 t1 t2 : ByteArray) (w : World) (hz : SzT ⟨t0, t1, t2⟩) : Calls Tryz.prog 23 #[.agg #[.string t0, .string t1, .string t2]] w fun e w' => e = .returned (.int .i64 (checkT ⟨t0, t1, t2⟩)) ∧ Below w.heap.size w w' := by
  have HTa := BoxT.new w ⟨t0, t1, t2⟩
  have hO := fun W => ref_Object t0 W hz.1
  have hN := fun W => ref_Name t1 W hz.2.1
  have hU := fun W => ref_User t2 W hz.2.2
  have HBa : Aside (Below w.heap.size w (w.alloc (.cells #[.string t0, .string t1, .string t2] 41))) := (Below.refl _ w).alloc (Nat.le_refl _) _
  have HT : Aside (BoxT (w.alloc (.cells #[.string t0, .string t1, .string t2] 41)) w.heap.size ⟨t0, t1, t2⟩) := HTa
  have hV : checkT ⟨t0, t1, t2⟩ = if objL (bl t0) ≠ 0 then objL (bl t0) else if nameL (bl t1) then userL (bl t2) else 50 := rfl
  rw [hV]
  clear HTa hz hV
  by_cases c1 : objL (bl t0) = 0
  · rw [c1] at hO
    rw [if_neg (by simp [c1])]
    have HO : Aside (type_of% hO) := hO
    cases c2 : nameL (bl t1)
    · rw [c2] at hN
      rw [if_neg (by simp)]
      have HN : Aside (type_of% hN) := hN
      clear hO hN hU c1 c2
      go_enter Tryz.func23, Tryz.ntmps23
      go_wp2_with (first | (go_at_call 49; refine (HO.out _).mono ?_; rintro e w2 ⟨⟨a2, b2, rfl⟩, hb⟩; obtain ⟨e0, e1, e2⟩ := BoxT.below HT.out hb; have HT2 : Aside (BoxT w2 w.heap.size ⟨t0, t1, t2⟩) := BoxT.below HT.out hb; have HB2 : Aside _ := hb; clear hb) | (go_at_call 50; refine (HN.out _).mono ?_; rintro e w3 ⟨rfl, hb⟩; obtain ⟨f0, f1, f2⟩ := BoxT.below HT2.out hb; have HB3 : Aside _ := hb; clear hb))
      go_ret
      exact ⟨rfl, (HBa.out.trans (HB2.out.mono HBa.out.size)).trans (HB3.out.mono (HBa.out.trans (HB2.out.mono HBa.out.size)).size)⟩
    · rw [c2] at hN
      rw [if_pos rfl]
      have HN : Aside (type_of% hN) := hN
      generalize userL (bl t2) = v at hU ⊢
      have HU : Aside (type_of% hU) := hU
      clear hO hN hU c1 c2
      go_enter Tryz.func23, Tryz.ntmps23
      go_wp2_with (first | (go_at_call 49; refine (HO.out _).mono ?_; rintro e w2 ⟨⟨a2, b2, rfl⟩, hb⟩; obtain ⟨e0, e1, e2⟩ := BoxT.below HT.out hb; have HT2 : Aside (BoxT w2 w.heap.size ⟨t0, t1, t2⟩) := BoxT.below HT.out hb; have HB2 : Aside _ := hb; clear hb) | (go_at_call 50; refine (HN.out _).mono ?_; rintro e w3 ⟨rfl, hb⟩; obtain ⟨f0, f1, f2⟩ := BoxT.below HT2.out hb; have HB3 : Aside _ := hb; clear hb) | (go_at_call 51; refine (HU.out _).mono ?_; rintro e w4 ⟨⟨a4, b4, rfl⟩, hb⟩; have HB4 : Aside _ := hb; clear hb))
      go_ret
      exact ⟨rfl, ((HBa.out.trans (HB2.out.mono HBa.out.size)).trans (HB3.out.mono (HBa.out.trans (HB2.out.mono HBa.out.size)).size)).trans (HB4.out.mono ((HBa.out.trans (HB2.out.mono HBa.out.size)).trans (HB3.out.mono (HBa.out.trans (HB2.out.mono HBa.out.size)).size)).size)⟩
  · have d : (objL (bl t0) == 0) = false := by simp [c1]
    rw [if_pos c1]
    generalize objL (bl t0) = v at hO d ⊢
    have HO : Aside (type_of% hO) := hO
    clear hO hN hU c1
    go_enter Tryz.func23, Tryz.ntmps23
    go_wp2_with (go_at_call 49; refine (HO.out _).mono ?_; rintro e w2 ⟨⟨a2, b2, rfl⟩, hb⟩; obtain ⟨e0, e1, e2⟩ := BoxT.below HT.out hb; have HT2 : Aside (BoxT w2 w.heap.size ⟨t0, t1, t2⟩) := BoxT.below HT.out hb; have HB2 : Aside _ := hb; clear hb)
    go_ret
    exact ⟨rfl, HBa.out.trans (HB2.out.mono HBa.out.size)⟩
end Go.Proofs.YtelmbimmkdobaaaGreatDoor.Pr

namespace Go.Proofs.YtelmbimmkdobaaaGreatDoor.Pr
open Go.Shelf Go.RowKit Go.Lib Go.Sort Go.Proofs.YtelmbimmkdobaaaGreatDoor
open Go.Proofs.YtelmbimmkdobaaaGreatDoorW.PrintWords Go.Proofs.YtelmbimmkdobaaaGreatDoorW.PrintLast Go.Proofs.YtelmbimmkdobaaaGreatDoorW.PrintMore
attribute [local go_sem ↓] Go.wp_at_zero Go.wp_at_succ

theorem el_bool {w : World} {A : Option Addr} {n : Nat} {xs : List Bool} (h : Kd.bool.C w A n xs) (hn : xs.length = n) (i : Nat) (hi : i < n) : ∃ ad x, A = some ad ∧ xs[i]? = some x ∧ w.cell? (ad.add i) = some (.bool x) := by
  obtain ⟨ad, e, h0⟩ := Kd.at_bool h i (by omega) (by omega)
  refine ⟨ad, xs[i]'(by omega), e, List.getElem?_eq_getElem (by omega), ?_⟩
  rw [show (i : Int).toNat = i by omega] at h0
  rw [h0]
  simp [rdOf, hn, hi]
/-- The law's store, at base B behind w0. -/
def Idl (w : World) (W : World) (p i : Nat) (sp : List Sp) (th : Bool) (t0 t1 t2 : ByteArray) : Prop :=
  SS (w.heap.size + 1) (w.alloc (.cells #[.string t0, .string t1, .string t2] 41)) W p (mk1 ⟨t0, t1, t2⟩ sp) 0 ∧ Gd i sp th
theorem Idl.box {w W : World} {p i : Nat} {sp : List Sp} {th : Bool} {t0 t1 t2 : ByteArray} (h : Idl w W p i sp th t0 t1 t2) : BoxT W w.heap.size ⟨t0, t1, t2⟩ := by
  have hb := (SS.bel h.1).1
  rw [show w.heap.size + 1 = (w.alloc (.cells #[.string t0, .string t1, .string t2] 41)).heap.size by simp] at hb
  exact (BoxT.new w ⟨t0, t1, t2⟩).below hb
theorem Idl.bel {w W : World} {p i : Nat} {sp : List Sp} {th : Bool} {t0 t1 t2 : ByteArray} (h : Idl w W p i sp th t0 t1 t2) : Below w.heap.size w W :=
  ((Below.refl w.heap.size w).alloc (Nat.le_refl _) _).trans ((SS.bel h.1).1.mono (by omega))
theorem Idl.below {w W W' : World} {p i : Nat} {sp : List Sp} {th : Bool} {t0 t1 t2 : ByteArray} (h : Idl w W p i sp th t0 t1 t2) (hb : Below W.heap.size W W') : Idl w W' p i sp th t0 t1 t2 := ⟨h.1.below hb, h.2⟩

set_option maxHeartbeats 32000000 in
set_option maxRecDepth 100000 in
theorem law_StoreIdles (t0 t1 t2 : ByteArray) (A : Option Addr) (c : Nat) (l : List Bool) (w : World) (hr : Kd.bool.C w A l.length l) (hl : l.length ≤ 1048576) (hz : SzT ⟨t0, t1, t2⟩) :
    Calls Tryz.prog 6 #[.agg #[.string t0, .string t1, .string t2], .slice A l.length c] w fun e w' => e = .returned (.bool true) ∧ Below w.heap.size w w' := by
  have HR : Aside (Kd.bool.C w A l.length l) := hr
  have HZ : Aside (SzT ⟨t0, t1, t2⟩) := hz
  have HL : Hid (l.length ≤ 1048576) := hl
  clear hr hz hl
  have hck := fun W => ref_Check t0 t1 t2 W HZ.out
  go_enter Tryz.func6, Tryz.ntmps6
  go_wp2_with (first
    | (go_at_call 29; refine (awake07 _).mono ?_; rintro e w2 ⟨rfl, hb⟩; have HB0 : Aside _ := hb; clear hb)
    | (go_at_call 24; refine (ss_New (w.alloc (.cells #[.string t0, .string t1, .string t2] 41)) _ (w.heap.size + 1) (by have h := HB0.out; rw [show (w.alloc (.cells #[.string t0, .string t1, .string t2] 41)).heap.size = w.heap.size + 1 by simp] at h; exact h) (by have h := HB0.out.size; simpa using h)).mono ?_; rintro e w3 ⟨p, rfl, hs⟩; have HS : Aside (Idl w w3 p 0 [] false t0 t1 t2) := ⟨hs, gd_zero⟩; clear hs))
  go_loopg [6, 7, 18] l.length (fun gk s6 s7 s18 wr => ∃ (i : Nat) (th : Bool) (sp : List Sp), s6 = .bool th ∧ s7 = .int .i64 sp.length ∧ s18 = .int .i64 i ∧ i ≤ l.length ∧ l.length - i ≤ gk ∧ Hid (i = 0 ∨ checkT ⟨t0, t1, t2⟩ = 0) ∧ Aside (Idl w wr p i sp th t0 t1 t2))
  case atStart => exact ⟨0, false, [], rfl, rfl, rfl, Nat.zero_le _, Nat.le_refl _, .inl rfl, HS.out⟩
  case round =>
    clear HS
    obtain ⟨i, th, sp, rfl, rfl, rfl, hi, hg, HP, HS⟩ := hrel
    by_cases hlt : i < l.length
    · have hltz : (i : Int) < (l.length : Int) := by omega
      obtain ⟨ad, del, rfl, hx, h0⟩ := el_bool HR.out rfl i hlt
      replace h0 := cell_below HS.out.bel h0
      obtain ⟨b0, b1, b2⟩ := HS.out.box
      have hi2 : i ≤ 1048576 := by have := HL.out; omega
      have hw : IntKind.i64.wrap ((i : Int) + 1) = (i : Int) + 1 := by rw [i64_w]; unfold wrap64; omega
      clear hx
      by_cases hc : checkT ⟨t0, t1, t2⟩ = 0
      · rw [hc] at hck
        have HC : Aside (type_of% hck) := hck
        have HCZ : Hid (checkT ⟨t0, t1, t2⟩ = 0) := hc
        have HG : Hid (Gd (i + 1) (stp ((i : Int) + 1) sp del) (!del) ∧ (stp ((i : Int) + 1) sp del).length = sp.length + (if (!del && !th) = true then 1 else 0) ∧ (stp ((i : Int) + 1) sp del).any (spHas ((i : Int) + 1)) = !del) := gd_stp HS.out.2 del
        have HA := id_ap HS.out.1 HS.out.2 hi2 hc HZ.out del
        have hn : IntKind.i64.wrap ((sp.length : Int) + 1) = (sp.length : Int) + 1 := by rw [i64_w]; unfold wrap64; have := gd_len HS.out.2; omega
        have hi4 : ¬ (i : Int) + 1 < 0 := by omega
        have hi3 : i + 1 ≤ 1048577 := by omega
        generalize stp ((i : Int) + 1) sp del = sq at HA HG
        have HAp : Aside (type_of% HA) := HA
        have HI3 : Hid (i + 1 ≤ 1048577) := hi3
        clear HA hc hck HP HB0 hi3
        cases del <;> cases th
        all_goals
          replace HG := HG.out
          simp only [Bool.not_false, Bool.not_true, Bool.and_true, Bool.and_false, if_true, Bool.false_eq_true, if_false, Nat.add_zero] at HG
          obtain ⟨g1, g2, g3⟩ := HG
          have G1 : Hid (type_of% g1) := g1
          have G2 : Hid (type_of% g2) := g2
          have G3 : Hid (type_of% g3) := g3
          clear g1 g2 g3
          go_wp2_with (first
            | (go_at_call 26; refine HAp.out.mono ?_; rintro e w4 ⟨rfl, hs⟩; have HS4 : Aside (Idl w w4 p (i + 1) sq _ t0 t1 t2) := ⟨hs, G1.out⟩; obtain ⟨e0, e1, e2⟩ := HS4.out.box; clear hs)
            | (go_at_call 23; refine (HC.out _).mono ?_; rintro e w5 ⟨rfl, hb⟩; have HS5 : Aside (Idl w w5 p (i + 1) sq _ t0 t1 t2) := Idl.below HS4.out hb; obtain ⟨f0, f1, f2⟩ := HS5.out.box; clear hb)
            | (go_at_call 27; refine (id_has HS5.out.1 (by have := gd_len HS5.out.2; have := HI3.out; omega) _ _ (by omega) G3.out).mono ?_; rintro e w6 ⟨rfl, hs⟩; have HS6 : Aside (Idl w w6 p (i + 1) sq _ t0 t1 t2) := ⟨hs, G1.out⟩; obtain ⟨k0, k1, k2⟩ := HS6.out.box; clear hs)
            | (go_at_call 28; refine (id_rows HS6.out.1 HS6.out.2 HI3.out G2.out).mono ?_; rintro e w7 ⟨A7, c7, rfl, hs⟩; have HS7 : Aside (Idl w w7 p (i + 1) sq _ t0 t1 t2) := ⟨hs, G1.out⟩; clear hs))
          go_roundg (l.length - (i + 1))
          case measure => omega
          case rel => exact ⟨i + 1, _, sq, rfl, by rw [G2.out] <;> first | rfl | go_num, by first | rfl | go_num, by omega, Nat.le_refl _, .inr HCZ.out, HS7.out⟩
      · have hi0 : i = 0 := HP.out.resolve_right hc
        subst hi0
        have hsp := gd_nil HS.out.2
        subst hsp
        have h00 : wr.cell? ad = some (.bool del) := by have e : ad.add 0 = ad := by (cases ad; rfl)
                                                        rw [e] at h0; exact h0
        clear h0
        have HA := id_bad HS.out.1 hc HZ.out del
        have d : (checkT ⟨t0, t1, t2⟩ != 0) = true := by simp [hc]
        generalize checkT ⟨t0, t1, t2⟩ = v at HA d hck
        have HAp : Aside (type_of% HA) := HA
        have HC : Aside (type_of% hck) := hck
        have HTH : Hid (Gd 0 [] th) := HS.out.2
        clear HA hc hck HP HB0 HS
        go_wp2_with (first
          | (go_at_call 26; refine HAp.out.mono ?_; rintro e w4 ⟨rfl, hs⟩; have HS4 : Aside (Idl w w4 p 0 [] th t0 t1 t2) := ⟨hs, HTH.out⟩; obtain ⟨e0, e1, e2⟩ := HS4.out.box; clear hs)
          | (go_at_call 23; refine (HC.out _).mono ?_; rintro e w5 ⟨rfl, hb⟩; have HS5 : Aside (Idl w w5 p 0 [] th t0 t1 t2) := Idl.below HS4.out hb; obtain ⟨f0, f1, f2⟩ := HS5.out.box; clear hb)
          | (go_at_call 28; refine (id_rows (n := 0) HS5.out.1 HS5.out.2 (by decide) rfl).mono ?_; rintro e w7 ⟨A7, c7, rfl, hs⟩; have HS7 : Aside (Idl w w7 p 0 [] th t0 t1 t2) := ⟨hs, HTH.out⟩; clear hs))
        go_ret
        exact ⟨rfl, HS7.out.bel⟩
    · have hltz : ¬ (i : Int) < (l.length : Int) := by omega
      go_wp2
      go_ret
      exact ⟨rfl, HS.out.bel⟩
end Go.Proofs.YtelmbimmkdobaaaGreatDoor.Pr

namespace Go.Proofs.YtelmbimmkdobaaaGreatDoor.storeIdles
open Go.ChangeShapes Go.WideShapes Go.ChangeAt Go.RowKit Go.Proofs.YtelmbimmkdobaaaGreatDoor.Pr

theorem own : ownKnob Tryz.prog.godebug = none := by kernel_rfl
theorem laidOut : laidOutB Tryz.prog = true := by kernel_rfl

set_option maxRecDepth 1000000 in
theorem contract (H : Type) (enc : TypeId × Value → H) (W : World) (base : Nat) (args : Array Value) (ds gs : List (DataW H)) (before : List MemPlace)
    (hval : ∀ (j : Nat) t v, Tryz.f6.params[j]? = some t → args[j]? = some v → Value.okWide Tryz.prog W .any base t v)
    (hW : DataW.Whole enc Tryz.prog Tryz.f6.params.toList Rows.storeIdlesSpec.vars false W args.toList ds gs before) (hk : Rows.uptoSmall H (ds ++ gs) = true) :
    Calls Tryz.prog 6 args W fun e W' => ∃ v, e = .returned v ∧ Rows.storeIdlesSpec.post enc Tryz.prog Tryz.f6 false true false false W args v W' := by
  have hW' := hW
  obtain ⟨p, q, hA0, hV, rfl, hfz, hnd⟩ := hW
  have hA : DataW.TrodAll enc Tryz.prog W 0 (fun _ => true) true Tryz.f6.params.toList args.toList ds p := hA0
  rw [Tryz.params6] at hA hval
  obtain ⟨v0, vs0, d0, ds0, p0, q0, hargs, rfl, rfl, h0, r0⟩ := trodAll_cons hA
  obtain ⟨v1, vs1, d1, ds1, p1, q1, rfl, rfl, rfl, h1, r1⟩ := trodAll_cons r0
  obtain ⟨rfl, rfl, rfl⟩ := trodAll_nil r1
  obtain rfl : args = #[v0, v1] := by cases args; simp_all
  obtain ⟨rfl, rfl⟩ := trodVars_none hV
  have k0 := h0
  have k1 := h1
  have lt0 : ∀ x ∈ p0, x.block < W.heap.size := by obtain ⟨m, hm⟩ := k0; exact DataW.trod_lt m _ _ _ hm
  have lt1 : ∀ x ∈ p1, x.block < W.heap.size := by obtain ⟨m, hm⟩ := k1; exact DataW.trod_lt m _ _ _ hm
  obtain ⟨t0, t1, t2, rfl, hs0, hs1, hs2⟩ := open_tup (hval 0 41 v0 rfl rfl) h0
  obtain ⟨a1, len1, cap1, rfl⟩ := okWide_slice Tryz.underlying54 (hval 1 54 v1 rfl rfl)
  obtain ⟨l, rfl, hc1, hb1, hC1⟩ := open_bl h1
  have hu : Rows.uptoBulk d0 ≤ 1048576 ∧ Rows.uptoBulk d1 ≤ 1048576 := by
    have h1 := of_decide_eq_true hk
    have h2 := bulk_mem (H := H) (d := d0) (l := [d0, d1]) (by simp)
    have h3 := bulk_mem (H := H) (d := d1) (l := [d0, d1]) (by simp)
    simp only [List.append_nil] at h1
    exact ⟨Nat.le_trans h2 h1, Nat.le_trans h3 h1⟩
  clear hA0 hk
  refine (law_StoreIdles t0 t1 t2 a1 cap1 l W hC1 (by omega) ⟨by dsimp only; omega, by dsimp only; omega, by dsimp only; omega⟩).mono fun e W' ⟨he, bel⟩ => ?_
  subst he
  exact ⟨_, rfl, _, _, _, [], _, [], hW', trodAll_mk1 (shut_bool Tryz.underlying4 _), (trodAll_cons_mk (Below.trod laidOut (by kernel_rfl) (of_decide_eq_true (by kernel_rfl)) k0 bel lt0) (trodAll_cons_mk (Below.trod laidOut (by kernel_rfl) (of_decide_eq_true (by kernel_rfl)) k1 bel lt1) trodAll_mk0)), rfl, bel.frame _, fun h => by cases h⟩

def cell1 : DataW Unit → List Value
  | .lit (.int k n) => [.int k n]
  | _ => []
def cell2 : DataW Unit → List Value
  | .agg l => l.flatMap cell1
  | d => cell1 d
def cell3 : DataW Unit → List Value
  | .agg l => l.flatMap cell2
  | d => cell1 d
def setCells (cs : Array Value) : Obj → Obj
  | .cells _ t frozen => .cells cs t frozen
  | o => o
/-- A world for the witness: the settled one, the two tables holding what their texts lay. -/
noncomputable def laidWorld (os : Os) : World :=
  { World.holding Tryz.prog os ⟨#[], #[], []⟩ with heap := ((World.holding Tryz.prog os ⟨#[], #[], []⟩).heap.modify 1 (setCells (cell3 Rows.laid_unicode_utf8_first).toArray)).modify 2 (setCells (cell3 Rows.laid_unicode_utf8_acceptRanges).toArray) }
def wArgs : Array Value := #[.agg #[.string ⟨#[]⟩, .string ⟨#[]⟩, .string ⟨#[]⟩], .slice none 0 0]
set_option maxRecDepth 100000 in
theorem laid_met (os : Os) : laidMet Tryz.prog Rows.storeIdlesUptoRow.laid ((laidWorld os).forCall (fun _ _ => 0) ⟨#[], wArgs, []⟩).memory :=
  laidMet_of_run3 8 (by kernel_rfl) (by kernel_rfl) (by kernel_rfl)
theorem reads (os : Os) {H : Type} (enc : TypeId × Value → H) : ∃ places, DataW.whole enc Tryz.prog ((laidWorld os).forCall (fun _ _ => 0) ⟨#[], wArgs, []⟩).memory Tryz.f6.params.toList Rows.storeIdlesSpec.vars false wArgs.toList 8 = some ([.agg [.lit (.string []), .lit (.string []), .lit (.string [])], .nil], [], places) :=
  ⟨[], by kernel_rfl⟩

set_option maxRecDepth 100000 in
theorem lifted (os : Os) (started : os.Started) (H : Type) (enc : TypeId × Value → H) (F : Stop.Interp) :
    ReturnsInHanded {} Tryz.checked os 6 .any ((Rows.OpenSpec.upto Rows.storeIdlesSpec).preRow enc Tryz.prog Tryz.f6 Rows.storeIdlesUptoRow.domain false Rows.storeIdlesUptoRow.laid) (((Rows.OpenSpec.upto Rows.storeIdlesSpec).at F).post enc Tryz.prog Tryz.f6 false true false false) := by
  obtain ⟨places, hx⟩ := reads os enc
  refine returnsInHanded_of_row (C := Tryz.checked) (s := Rows.OpenSpec.upto Rows.storeIdlesSpec) own started (by kernel_rfl) Tryz.func6
    (witness_row_at (enc := enc) (C := Tryz.checked) false (laidWorld os) wArgs rfl (by kernel_rfl) (by kernel_rfl) (by kernel_rfl)
      (OpenSpec.preRow_of_cond 8 hx (by kernel_rfl) (fun k hk => by cases hk; kernel_rfl) (by kernel_rfl) (laid_met os))) ?_
  intro W base args ds gs before hval hW _ hcond _ _ _ _
  exact contract H enc W base args ds gs before hval hW (hcond _ rfl)

theorem saidUpto : Rows.StoreIdlesUptoSaid :=
  OpenClaim.holds_of_cond 6 Tryz.f6 rfl rfl rfl rfl rfl rfl rfl ⟨rfl, rfl, rfl, rfl, rfl⟩ rfl rfl rfl rfl rfl (by kernel_rfl) Tryz.func6 (by kernel_rfl)
    (of_decide_eq_true (by kernel_rfl)) (by unfold Func.isWrapper; first | (rw [if_pos (by decide +kernel)]; kernel_rfl) | (rw [if_neg (by decide +kernel)]; exact ⟨rfl, rfl⟩))
    (fun os started H enc _ F => by rw [OpenClaim.pre_eq_preRow]; exact lifted os started H enc F)

theorem plain (f : FuncId) (fn : Func) (hf : Tryz.pinned.checked.prog.funcNamed "porter/porterlaw07.StoreIdles" = some f) (hfn : Tryz.pinned.checked.prog.funcs[f]? = some fn) :
    false = Tryz.pinned.checked.prog.looks [] ∧ ∀ (j : Nat) t, fn.params[j]? = some t → Tryz.pinned.checked.prog.wantsStandIn t = false := by
  obtain rfl : f = 6 := Option.some.inj ((show Tryz.prog.funcNamed "porter/porterlaw07.StoreIdles" = some 6 by kernel_rfl).symm.trans hf) |>.symm
  obtain rfl : fn = Tryz.f6 := (Option.some.inj (Tryz.func6.symm.trans hfn)).symm
  refine ⟨by kernel_rfl, fun j t ht => ?_⟩
  rw [Tryz.params6] at ht
  have hm : t = 41 ∨ t = 54 := by simpa using Array.mem_of_getElem? ht
  rcases hm with rfl | rfl
  · exact (show Tryz.prog.wantsStandIn 41 = false by kernel_rfl)
  · exact (show Tryz.prog.wantsStandIn 54 = false by kernel_rfl)

theorem card : Rows.StoreIdlesUptoCardSaid :=
  Claim7.holds_tied_plain_at .later [] _ _ _ _ saidUpto (fun _ h => by cases h) (by kernel_rfl) (fun _ h => by cases h) storeIdlesUpto_row_tie rfl ⟨rfl, rfl⟩ (by kernel_rfl) rfl plain (by kernel_rfl)
end Go.Proofs.YtelmbimmkdobaaaGreatDoor.storeIdles
namespace Go.Proofs.YtelmbimmkdobaaaGreatDoor
/-- The card, under a short name, for the claim. -/
theorem storeIdlesUpto_holds : Rows.StoreIdlesUptoCardSaid := storeIdles.card
end Go.Proofs.YtelmbimmkdobaaaGreatDoor
