/- The law StoreApart, second form: whatever it reads of bulk at most 2^20, it returns true and what it reads is as it was. Condition: the form's own bound. -/
import Derived.Test.YtelmbimmkdobaaaDoorAp2
import Derived.Test.YtelmbimmkdobaaaDoorCards
import Derived.Test.YtelmbimmkdobaaaDoorTie
import Derived.Deep.DeepHandedRow
import Derived.Deep.DeepLaidRun
set_option linter.unusedVariables false
set_option linter.unusedSimpArgs false
namespace Go.Proofs.YtelmbimmkdobaaaDoor.Pr
open Go.Shelf Go.RowKit Go.Lib Go.Sort Go.Proofs.YtelmbimmkdobaaaDoor
open Go.Proofs.YtelmbimmkdobaaaDoorW.PrintWords Go.Proofs.YtelmbimmkdobaaaDoorW.PrintLast Go.Proofs.YtelmbimmkdobaaaDoorW.PrintMore

theorem infoStr : (Tryd.prog.info? 9).map (fun i => (i.zero, i.size, i.bytes)) = some (some (.string ⟨#[]⟩), 1, 16) := by kernel_rfl
theorem R_S {e base : Nat} {w : World} {v : Value} {l : List ByteArray} (h : w.ownsRow base e 1 v l.length (l.flatMap enS)) : Kd.R Kd.string e w base (fun _ => True) v l := R_of_flat (enc := enS) (fun _ => rfl) rfl (fun _ _ _ _ => rfl) h
theorem fl_S {e base : Nat} {w : World} {v : Value} {l : List ByteArray} {ok : Nat → Prop} (h : Kd.R Kd.string e w base ok v l) : w.ownsRow base e 1 v l.length (l.flatMap enS) := flat_of_R (enc := enS) (fun _ => rfl) rfl (fun _ _ _ _ _ h => h) h
section
variable {ops : Array Oper} {rest : List Oper} {o : Oper} {a : Act} {Q : Exit → Act → World → Prop}
theorem app_S {w0 W : World} (base : Nat) (hgd : o.guard = none) (s x : Operand) (ho : o.op = .call { callee := .builtin .append, args := #[s, x], argTypes := #[42, 42] })
    (v : Value) (xs : List ByteArray) (p : ByteArray) (hs : a.eval s = v) (hx : a.eval x = .slice (some ⟨W.heap.size, 0, none⟩) 1 1) (HO : Kd.R Kd.string 9 W base (fun _ => True) v xs) (HB : Below base w0 W) (hbase : base ≤ W.heap.size) (hl : xs.length < 4294967296)
    (h : ∀ v1 w1, Kd.R Kd.string 9 w1 base (fun _ => True) v1 (xs ++ [p]) → Below base w0 w1 → W.grownBy w1 v.ownBlock → (v1.ownBlock = v.ownBlock ∨ ∃ b, v1.ownBlock = some b ∧ W.heap.size ≤ b) → wpList Tryd.prog ops Q rest (a.put o.dst v1) w1) :
    wpList Tryd.prog ops Q (o :: rest) a (W.alloc (.cells #[.string p] 9)) :=
  Kd.R_append Kd.string (w0 := w0) base hgd s x 42 9 _ _ ho Tryd.underlying42 infoStr rfl (by decide) (by omega) v xs p [.string p] (fun _ => True) (fun _ => False) hs hx rfl (fun _ hk => hk.elim) (fun _ _ => trivial) HO HB hbase (by omega) h
end

theorem idx_perm {κ : Type} [DecidableEq κ] {key : T → κ} {ks : List T} {ls : List (κ × List T)} (h : IdxOK key ks ls) (hn : ks.Nodup) (k : κ) : (getL k ls).Perm (ks.filter (fun t => decide (key t = k))) := by
  refine (List.perm_ext_iff_of_nodup (h k).1 (hn.sublist List.filter_sublist)).2 (fun t => ?_)
  rw [(h k).2 t, List.mem_filter]
  simp [and_comm]
def usersM (m : List (T × List Sp)) (k : PK) (rev : Int) : List ByteArray := msort ltS (((m.map Prod.fst).filter (fun t => decide (keyO t = k) && (getL t m).any (spHas rev))).map (·.f2))
def ofM (m : List (T × List Sp)) (u : ByteArray) (rev : Int) : List T := msort ltT ((m.map Prod.fst).filter (fun t => decide (keyU t = u) && (getL t m).any (spHas rev)))
theorem swoS : SWO ltS := cmp_S.swo
theorem msort_permS {a b : List ByteArray} (h : a.Perm b) : msort ltS a = msort ltS b := by
  refine sorted_perm_eq swoS (msort_sorted swoS _) (msort_sorted swoS _) ((msort_perm _ _).trans (h.trans (msort_perm _ _).symm)) ?_
  intro x _ y _ h1 h2
  have q := cmp_S.anti x y
  unfold ltS ltOf at h1 h2
  rw [decide_eq_false_iff_not] at h1 h2
  exact cmpS_zero.1 (by omega)
theorem msort_permT {a b : List T} (h : a.Perm b) : msort ltT a = msort ltT b := by
  refine sorted_perm_eq cmp_T.swo (msort_sorted cmp_T.swo _) (msort_sorted cmp_T.swo _) ((msort_perm _ _).trans (h.trans (msort_perm _ _).symm)) ?_
  intro x _ y _ h1 h2
  have q := cmp_T.anti x y
  unfold ltOf at h1 h2
  rw [decide_eq_false_iff_not] at h1 h2
  exact cmpT_zero.1 (by omega)
theorem users_eq {m : List (T × List Sp)} {ls : List (PK × List T)} (h : IdxOK keyO (m.map Prod.fst) ls) (hn : (m.map Prod.fst).Nodup) (k : PK) (rev : Int) : msort ltS (((getL k ls).filter (fun t => (getL t m).any (spHas rev))).map (·.f2)) = usersM m k rev := by
  unfold usersM
  refine msort_permS (List.Perm.map _ ?_)
  have h1 := (idx_perm h hn k).filter (fun t => (getL t m).any (spHas rev))
  rw [List.filter_filter] at h1
  refine h1.trans (List.Perm.of_eq (List.filter_congr (fun t _ => by rw [Bool.and_comm])))
theorem of_eq {m : List (T × List Sp)} {ls : List (ByteArray × List T)} (h : IdxOK keyU (m.map Prod.fst) ls) (hn : (m.map Prod.fst).Nodup) (u : ByteArray) (rev : Int) : msort ltT ((getL u ls).filter (fun t => (getL t m).any (spHas rev))) = ofM m u rev := by
  unfold ofM
  refine msort_permT ?_
  have h1 := (idx_perm h hn u).filter (fun t => (getL t m).any (spHas rev))
  rw [List.filter_filter] at h1
  refine h1.trans (List.Perm.of_eq (List.filter_congr (fun t _ => by rw [Bool.and_comm])))
def readCode (wm rev : Int) : Int := if rev < 0 then 1 else if rev < wm then 71 else 0
/-- What a look-up in an index gives. -/
theorem IdxAt.look {κ : Type} [DecidableEq κ] {ke : κ → Value} {tI c : Nat} {w : World} {q : Nat} {ls : List (κ × List T)} {o : Own} {mt kt : TypeId} (h : IdxAt ke tI c w q ls o) (K : KeyLaw Tryd.prog kt κ ke) (ht : Tryd.prog.underlying mt = some (.map kt 63)) (k : κ) :
    ∃ bL x, w.cell? ⟨q, 0, none⟩ = some (.map (some bL)) ∧ ownTs w x (getL k ls) ∧ (∀ W, Below w.heap.size w W → Sem.run Tryd.prog (Instr.lookup mt (.map (some bL)) (ke k) false) W = .ok x W) := by
  obtain ⟨bL, v, h1, h2, h3, _⟩ := h
  exact ⟨bL, _, (blk_cell h1 0).trans rfl, h3.get (ownTs_nil w) k, fun W hW => look1 K ht zeroTs (h2.kept (hW.block _ h2.lt)) k⟩

set_option maxHeartbeats 32000000 in
set_option maxRecDepth 100000 in
theorem store_Users (p : Nat) (ob rl : ByteArray) (rev : Int) (w : World) {m : List (T × List Sp)} {wm : Int} {o : Own} (h : StoreAt w p m wm o) (hm : m.length < 1073741824) (hs : ∀ t, (getL t m).length < 4294967296) :
    Calls Tryd.prog 12 #[.pointer (some ⟨p, 0, none⟩), .string ob, .string rl, .int .i64 rev] w fun e w' => ∃ v0_ : Value, e = .returned (.tuple #[v0_, .int .i64 (readCode wm rev)]) ∧ Kd.R Kd.string 9 w' w.heap.size (fun _ => True) v0_ (if readCode wm rev = 0 then usersM m (ob, rl) rev else []) ∧ Below w.heap.size w w' := by
  have h1 := store_readable p rev w h
  obtain ⟨bS, bO, bU, lO, lU, hH, hS, hO, hU, hkO, hkU, hl⟩ := h.open
  have hn := h.nodup
  change Calls _ _ _ _ (fun e w' => e = .returned (.int .i64 (readCode wm rev)) ∧ _) at h1
  by_cases c1 : readCode wm rev = 0
  · rw [if_pos c1]
    rw [c1] at h1 ⊢
    obtain ⟨bL, x, hcl, hx, hlk⟩ := hO.look keyP Tryd.underlying64 (ob, rl)
    obtain ⟨L, hL⟩ : ∃ L, L = getL (ob, rl) lO := ⟨_, rfl⟩
    rw [← hL] at hx
    obtain ⟨A, c, rfl⟩ := own_form hx
    have heq := users_eq hkO hn (ob, rl) rev
    rw [← hL] at heq
    have hll : L.length < 1073741824 := by have := (hkO).len (ob, rl); rw [← hL] at this; simp at this; omega
    have hat := fun (t : T) (W : World) (hW : Below w.heap.size w W) => store_at p t rev W (h.below hW) (hs t)
    have HE : Hid (type_of% heq) := heq
    have HX : Aside (ownTs w (.slice A L.length c) L) := hx
    have HA : Aside (type_of% hat) := hat
    have H1 : Aside (type_of% h1) := h1
    have HLk : Aside (type_of% hlk) := hlk
    have HC : Aside (w.cell? ⟨p, 1, none⟩ = some (.pointer (some ⟨bO, 0, none⟩)) ∧ w.cell? ⟨bO, 0, none⟩ = some (.map (some bL))) := ⟨hH.cells.2.1, hcl⟩
    clear h h1 hH hS hO hU hkO hkU hl hn hcl hx hlk hL heq hat hm hs c1
    go_enter Tryd.func12, Tryd.ntmps12
    go_wp2_with (go_at_call 21; refine H1.out.mono ?_; rintro e w1 ⟨rfl, hb⟩; have q1 := cell_below hb HC.out.1; have q2 := cell_below hb HC.out.2; have hlk := HLk.out w1 hb; simp only [kp] at hlk; have HB1 : Aside _ := hb; clear hb)
    clear q1 q2 hlk
    go_loopg [11, 32] L.length (fun gk so sx wr => ∃ (i : Nat) (acc : List ByteArray), sx = .int .i64 i ∧ i ≤ L.length ∧ L.length - i ≤ gk ∧ Hid (acc = ((L.take i).filter (fun t => (getL t m).any (spHas rev))).map (·.f2)) ∧ Aside (Kd.R Kd.string 9 wr w.heap.size (fun _ => True) so acc) ∧ Aside (Below w.heap.size w wr))
    case atStart => exact ⟨0, [], rfl, Nat.zero_le _, Nat.le_refl _, rfl, Kd.R_nil _ _ _ _ _, HB1.out⟩
    case round =>
      clear HB1
      obtain ⟨i, acc, rfl, hi, hg, HQ, HO, HB⟩ := hrel
      by_cases hlt : i < L.length
      · have hltz : (i : Int) < (L.length : Int) := by omega
        obtain ⟨g, x, rfl, hx, g0, g1, g2⟩ := el_Ts HX.out rfl i hlt
        replace g0 := cell_below HB.out g0
        replace g1 := cell_below HB.out g1
        replace g2 := cell_below HB.out g2
        have hst : ((L.take (i + 1)).filter (fun t => (getL t m).any (spHas rev))).map (·.f2) = acc ++ (if (getL x m).any (spHas rev) = true then [x.f2] else []) := by
          rw [HQ.out, take_step L i x hx, List.filter_append, List.map_append]
          congr 1
          cases hq : (getL x m).any (spHas rev) <;> simp [hq]
        have hal : acc.length < 2147483648 := by
          rw [HQ.out, List.length_map]
          have q1 := List.length_filter_le (fun t => (getL t m).any (spHas rev)) (L.take i)
          have q2 := List.length_take_le i L
          omega
        have hB2 := HB.out.alloc HB.out.size (.cells #[.string x.f0, .string x.f1, .string x.f2] 27)
        have hA2 := HA.out x _ hB2
        have HT := BoxT.new wr x
        have HST : Hid (type_of% hst) := hst
        have HL : Aside (acc.length < 2147483648 ∧ w.heap.size ≤ wr.heap.size) := ⟨hal, HB.out.size⟩
        clear hst hal hx HQ
        obtain ⟨t0, t1, t2⟩ := x
        dsimp only at g0 g1 g2 hA2 HT
        cases hav : (getL (⟨t0, t1, t2⟩ : T) m).any (spHas rev)
        · rw [hav] at hA2
          have HA2 : Aside (type_of% hA2) := hA2
          have hq : Hid (acc = ((L.take (i + 1)).filter (fun t => (getL t m).any (spHas rev))).map (·.f2)) := by show _ = _; rw [HST.out, hav]; simp
          clear hA2 hav HST hB2
          obtain ⟨e0, e1, e2⟩ := HT
          go_wp2_with (go_at_call 22; refine HA2.out.mono ?_; rintro e w2 ⟨rfl, hb⟩; have HB2 : Aside _ := hb; clear hb)
          go_roundg (L.length - (i + 1))
          case measure => omega
          case rel => exact ⟨i + 1, acc, by first | rfl | go_num, by omega, Nat.le_refl _, hq.out, Kd.R_below (Kd.R_alloc HO.out _) HB2.out, (HB.out.alloc HL.out.2 _).trans (HB2.out.mono (HB.out.alloc HL.out.2 _).size)⟩
        · rw [hav] at hA2
          have HA2 : Aside (type_of% hA2) := hA2
          have hq : Hid (acc ++ [t2] = ((L.take (i + 1)).filter (fun t => (getL t m).any (spHas rev))).map (·.f2)) := by show _ = _; rw [HST.out, hav]; rfl
          have HTA : Aside (BoxT (wr.alloc (.cells #[.string t0, .string t1, .string t2] 27)) wr.heap.size ⟨t0, t1, t2⟩) := HT
          clear hA2 hav HST hB2
          obtain ⟨e0, e1, e2⟩ := HT
          go_wp2_with (first | (go_at_call 22; refine HA2.out.mono ?_; rintro e w2 ⟨rfl, hb⟩; have HB2 : Aside _ := hb; obtain ⟨f0, f1, f2⟩ := BoxT.below HTA.out hb; clear hb) | (at_builtin; refine app_S (w0 := w) w.heap.size rfl (.tmp 40) (.tmp 43) rfl u11 acc t2 rfl (by first | (go_simp; done) | (go_simp; rfl)) ?aO ?aB ?aS (by have := HL.out.1; omega) ?_; (case aO => exact Kd.R_below (Kd.R_alloc HO.out _) HB2.out); (case aB => exact (HB.out.alloc HL.out.2 _).trans (HB2.out.mono (HB.out.alloc HL.out.2 _).size)); (case aS => have := HL.out.2; have := HB2.out.size; simp at *; omega); intro v1 w3 ho hb hg1 hat; have HO3 : Aside _ := ho; have HB3 : Aside _ := hb; clear ho hb hg1 hat))
          go_roundg (L.length - (i + 1))
          case measure => omega
          case rel => exact ⟨i + 1, _, by first | rfl | go_num, by omega, Nat.le_refl _, hq.out, HO3.out, HB3.out⟩
      · have hltz : ¬ (i : Int) < (L.length : Int) := by omega
        have hacc : acc = (L.filter (fun t => (getL t m).any (spHas rev))).map (·.f2) := by rw [HQ.out, List.take_of_length_le (by omega)]
        have hal : acc.length < 4611686018427387904 := by
          rw [hacc, List.length_map]
          have q1 := List.length_filter_le (fun t => (getL t m).any (spHas rev)) L
          omega
        have hs := sort_S w.heap.size u11 acc wr (fl_S HO.out) hal
        have HACC : Hid (msort ltS acc = usersM m (ob, rl) rev) := by show _ = _; rw [hacc]; exact HE.out
        have HSo : Aside (type_of% hs) := hs
        have HF : Aside (wr.heap.size = wr.heap.size ∧ type_of% (fl_S HO.out)) := ⟨rfl, fl_S HO.out⟩
        clear hs hal hacc HQ
        go_wp2_with (go_at_call 23; refine HSo.out.mono ?_; rintro e w2 ⟨rfl, ho1, hg1⟩; have HO1 : Aside _ := ho1; have HG1 : Aside _ := hg1; clear ho1 hg1)
        go_ret2
        exact ⟨_, rfl, by rw [← HACC.out]; exact R_S HO1.out, below_grown HB.out HG1.out HB.out.size HF.out.2⟩
  · rw [if_neg c1]
    have d : (readCode wm rev != 0) = true := by simp [c1]
    generalize readCode wm rev = cd at h1 d ⊢
    have H1 : Aside (type_of% h1) := h1
    clear h h1 hH hS hO hU hkO hkU hl hn hm hs c1
    go_enter Tryd.func12, Tryd.ntmps12
    go_wp2_with (go_at_call 21; refine H1.out.mono ?_; rintro e w1 ⟨rfl, hb⟩; have HB1 : Aside _ := hb; clear hb)
    go_ret2
    exact ⟨_, rfl, Kd.R_nil _ _ _ _ _, HB1.out⟩

end Go.Proofs.YtelmbimmkdobaaaDoor.Pr

namespace Go.Proofs.YtelmbimmkdobaaaDoor.Pr
open Go.Shelf Go.RowKit Go.Lib Go.Sort Go.Proofs.YtelmbimmkdobaaaDoor
open Go.Proofs.YtelmbimmkdobaaaDoorW.PrintWords Go.Proofs.YtelmbimmkdobaaaDoorW.PrintLast Go.Proofs.YtelmbimmkdobaaaDoorW.PrintMore

def RevOk (r : Ro) : Prop := 0 ≤ r.f1 ∧ r.f1 ≤ 1125899906842624
/-- Rows whose first revision is within bounds. -/
structure RoB where
  val : Ro
  ok : RevOk val
instance inhRoB : Inhabited RoB := ⟨⟨z36, by unfold RevOk z36; simp⟩⟩
def enRoB (r : RoB) : List Value := enRo r.val
def cmpRoB (a b : RoB) : Int := cmpRo a.val b.val
theorem cmp_RoB : Cmp cmpRoB := cmp_Ro.comap (fun a : RoB => a.val)
theorem clamp_cmp (a b : Int) : min (max (a - b) (-1)) 1 = Lib.compareInt a b := by
  unfold Lib.compareInt
  by_cases h1 : a < b
  · rw [if_pos h1]; omega
  · rw [if_neg h1]
    by_cases h2 : a = b
    · subst h2; simp; omega
    · split <;> omega
theorem ret_i64 {a b : Int} (h : a = b) : Ending.returned (.int .i64 a) = .returned (.int .i64 b) := by rw [h]
section
attribute [local go_sem] max2_int min2_int max_two min_two
set_option maxHeartbeats 4000000 in
set_option maxRecDepth 100000 in
theorem store_Rows1 (a b : Ro) (ha : RevOk a) (hb : RevOk b) (w : World) : Calls Tryd.prog 19 #[.agg (enRo a).toArray, .agg (enRo b).toArray] w fun e w' => e = .returned (.int .i64 (cmpRo a b)) ∧ Gr w w' := by
  obtain ⟨⟨a0, a1, a2⟩, a3, a4⟩ := a
  obtain ⟨⟨b0, b1, b2⟩, b3, b4⟩ := b
  simp only [enRo, enT, List.cons_append, List.nil_append]
  unfold RevOk at ha hb
  dsimp only at ha hb
  obtain ⟨ha1, ha2⟩ := ha
  obtain ⟨hb1, hb2⟩ := hb
  have hI := clamp_cmp a3 b3
  have hT := fun W => tuple_Compare ⟨a0, a1, a2⟩ ⟨b0, b1, b2⟩ W
  have hr : cmpRo ⟨⟨a0, a1, a2⟩, a3, a4⟩ ⟨⟨b0, b1, b2⟩, b3, b4⟩ = if cmpT ⟨a0, a1, a2⟩ ⟨b0, b1, b2⟩ = 0 then Lib.compareInt a3 b3 else cmpT ⟨a0, a1, a2⟩ ⟨b0, b1, b2⟩ := rfl
  rw [hr]
  clear hr
  dsimp only at hT
  generalize cmpT ⟨a0, a1, a2⟩ ⟨b0, b1, b2⟩ = c1 at *
  have HT : Hid (type_of% hT) := hT
  have HI : Hid (type_of% hI) := hI
  clear hT hI
  have kx : ∀ k v, (#[.string a0, .string a1, .string a2, .int .i64 a3, .int .i64 a4] : Array Value)[k]? = some v → ((w.alloc (.cells #[.string a0, .string a1, .string a2, .int .i64 a3, .int .i64 a4] 36)).alloc (.cells #[.string b0, .string b1, .string b2, .int .i64 b3, .int .i64 b4] 36)).cell? ⟨w.heap.size, k, none⟩ = some v := fun k v hk => alloc_cell _ ((blk_cell (blk_new w _) k).trans hk)
  have HK : Aside (type_of% kx) := kx
  have g0 : Aside (Gr w ((w.alloc (.cells #[.string a0, .string a1, .string a2, .int .i64 a3, .int .i64 a4] 36)).alloc (.cells #[.string b0, .string b1, .string b2, .int .i64 b3, .int .i64 b4] 36))) := ((Gr.refl w).alloc _).alloc _
  clear kx
  by_cases c : c1 = 0
  · rw [if_pos c]
    subst c
    go_enter Tryd.func19, Tryd.ntmps19
    go_wp2_with (go_at_call 20; refine (HT.out _).mono ?_; rintro e w3 ⟨rfl, hG⟩; have e3 : w3.cell? ⟨w.heap.size, 3, none⟩ = some (.int .i64 a3) := hG.cell (HK.out 3 _ rfl); have e4 : w3.cell? ⟨w.heap.size + 1, 3, none⟩ = some (.int .i64 b3) := hG.cell (by go_simp); have G3 : Aside _ := hG; clear hG)
    all_goals go_ret
    all_goals (refine ⟨?_, g0.out.trans G3.out⟩; rw [← HI.out]; exact ret_i64 (by omega))
  · rw [if_neg c]
    have d : (c1 != 0) = true := by simp [c]
    go_enter Tryd.func19, Tryd.ntmps19
    go_wp2_with (go_at_call 20; refine (HT.out _).mono ?_; rintro e w3 ⟨rfl, hG⟩; have G3 : Aside _ := hG; clear hG)
    go_ret
    exact ⟨rfl, g0.out.trans G3.out⟩
end
theorem store_RowsB (x y : RoB) (W : World) : Calls Tryd.prog 19 #[.agg (enRoB x).toArray, .agg (enRoB y).toArray] W fun e w' => e = .returned (.int .i64 (cmpRoB x y)) ∧ Gr W w' := store_Rows1 x.val y.val x.ok y.ok W

/-- Rows whose tuples and first revisions are unlike. -/
def Unlike (l : List Ro) : Prop := ∀ x ∈ l, ∀ y ∈ l, x.f0 = y.f0 → x.f1 = y.f1 → x = y
theorem cmpRo_zero {x y : Ro} (h : cmpRo x y = 0) : x.f0 = y.f0 ∧ x.f1 = y.f1 := by
  unfold cmpRo at h
  rw [lexi_eq_zero] at h
  refine ⟨cmpT_zero.1 h.1, ?_⟩
  have h2 := h.2
  unfold Lib.compareInt at h2
  split at h2
  · omega
  · split at h2 <;> omega
theorem map_attach (l : List Ro) (h : ∀ x ∈ l, RevOk x) : ∃ l' : List RoB, l'.map (fun x : RoB => x.val) = l := by
  induction l with
  | nil => exact ⟨[], rfl⟩
  | cons x l ih =>
    obtain ⟨l', hl'⟩ := ih (fun y hy => h y (by simp [hy]))
    exact ⟨⟨x, h x (by simp)⟩ :: l', by rw [List.map_cons, hl']⟩
theorem flat_map {α β γ : Type} (f : α → β) (g : β → List γ) (l : List α) : (l.map f).flatMap g = l.flatMap (fun x => g (f x)) := by
  induction l with
  | nil => rfl
  | cons x l ih => rw [List.map_cons, List.flatMap_cons, List.flatMap_cons, ih]
theorem sort_Ro (base : Nat) (v : Value) (l : List Ro) (w : World) (h : w.ownsRow base 36 5 v l.length (l.flatMap enRo)) (hl : l.length < 4611686018427387904) (hb : ∀ x ∈ l, RevOk x) (hu : Unlike l) :
    Calls Tryd.prog 18 #[v, .func (.func 19) #[] #[]] w fun r w' => r = .returned (.tuple #[]) ∧ w'.ownsRow base 36 5 v (msort ltRo l).length ((msort ltRo l).flatMap enRo) ∧ w.grownBy w' v.ownBlock := by
  obtain ⟨l', rfl⟩ := map_attach l hb
  have hun : ∀ x ∈ l', ∀ y ∈ l', ltOf cmpRoB x y = false → ltOf cmpRoB y x = false → x = y := by
    intro x hx y hy h1 h2
    have a := cmp_RoB.anti x y
    unfold ltOf at h1 h2
    rw [decide_eq_false_iff_not] at h1 h2
    have h0 : cmpRo x.val y.val = 0 := show cmpRoB x y = 0 by omega
    obtain ⟨e1, e2⟩ := cmpRo_zero h0
    have h5 := hu x.val (List.mem_map_of_mem (f := fun x : RoB => x.val) hx) y.val (List.mem_map_of_mem (f := fun x : RoB => x.val) hy) e1 e2
    cases x; cases y; cases h5; rfl
  rw [List.length_map, flat_map] at h
  refine (sortF_of Tryd.sortRow 36 5 Tryd.isAgg36 Tryd.sizeOf36 enRoB (fun _ => rfl) (fun x => enRo_one x.val) cmpRoB cmp_RoB.swo 19 (enters_of Tryd.func19 (by kernel_rfl) rfl) store_RowsB base v l' w h (by simpa using hl) hun).mono ?_
  rintro r w' ⟨rfl, h2, h3⟩
  refine ⟨rfl, ?_, h3⟩
  have hperm : (msort ltRo (l'.map (fun x : RoB => x.val))) = (msort (ltOf cmpRoB) l').map (fun x : RoB => x.val) := by
    refine sorted_perm_eq cmp_Ro.swo (msort_sorted cmp_Ro.swo _) ?_ ?_ ?_
    · have := msort_sorted cmp_RoB.swo l'
      unfold SortedL at this ⊢
      rw [List.pairwise_map]
      exact this
    · exact (msort_perm _ _).trans ((msort_perm _ l').map _).symm
    · intro x hx y hy h1 h2
      have hx' := (msort_perm _ _).mem_iff.1 hx
      have hy' := (msort_perm _ _).mem_iff.1 hy
      have a := cmp_Ro.anti x y
      unfold ltOf at h1 h2
      rw [decide_eq_false_iff_not] at h1 h2
      obtain ⟨e1, e2⟩ := cmpRo_zero (x := x) (y := y) (by omega)
      exact hu x hx' y hy' e1 e2
  rw [hperm, List.length_map, flat_map]
  exact h2
end Go.Proofs.YtelmbimmkdobaaaDoor.Pr

namespace Go.Proofs.YtelmbimmkdobaaaDoor.Pr
open Go.Shelf Go.RowKit Go.Lib Go.Sort Go.Proofs.YtelmbimmkdobaaaDoor
open Go.Proofs.YtelmbimmkdobaaaDoorW.PrintWords Go.Proofs.YtelmbimmkdobaaaDoorW.PrintLast Go.Proofs.YtelmbimmkdobaaaDoorW.PrintMore

def spRow (t : T) (s : Sp) : Ro := ⟨t, s.1, s.2⟩
def rowsOf (m : List (T × List Sp)) (t : T) : List Ro := (getL t m).map (spRow t)
def rowsM (m : List (T × List Sp)) : List Ro := (m.map Prod.fst).flatMap (rowsOf m)
theorem flat_split {α β : Type} (f : α → List β) (a : List β) (L1 L2 : List α) (t : α) : ((a ++ f t) ++ (L1 ++ L2).flatMap f).Perm (a ++ (L1 ++ t :: L2).flatMap f) := by
  rw [List.flatMap_append, List.flatMap_append, List.flatMap_cons, List.append_assoc]
  refine List.Perm.append_left _ ?_
  rw [← List.append_assoc, ← List.append_assoc]
  exact List.Perm.append_right _ List.perm_append_comm
theorem grow_row {w W w' : World} {b : Nat} (h : Below w.heap.size w W) (hb : w.heap.size ≤ b) (hg : W.grownBy w' (some b)) : Below w.heap.size w w' := h.grown hg h.size (fun k e => by injection e with e; omega)

set_option maxHeartbeats 32000000 in
set_option maxRecDepth 100000 in
theorem store_Rows (p : Nat) (w : World) {m : List (T × List Sp)} {wm : Int} {o : Own} (h : StoreAt w p m wm o) (hl : (rowsM m).length < 1073741824) (hb : ∀ x ∈ rowsM m, RevOk x) (hu : Unlike (rowsM m)) :
    Calls Tryd.prog 9 #[.pointer (some ⟨p, 0, none⟩)] w fun e w' => ∃ v0_ : Value, e = .returned v0_ ∧ Kd.R k36 36 w' w.heap.size (fun _ => True) v0_ (msort ltRo (rowsM m)) ∧ Below w.heap.size w w' := by
  obtain ⟨bS, bO, bU, lO, lU, hH, hS, _⟩ := h.open
  obtain ⟨v, hM, hR, hoS, hoT⟩ := hS
  have hc := hH.cells.1
  obtain ⟨ob, hrange, hrng⟩ := g_start Tryd.underlying45 hM
  obtain ⟨rb, hrb⟩ : ∃ rb, rb = w.heap.size := ⟨_, rfl⟩
  rw [← hrb] at hrange hrng
  have S0 : Aside (GRng kv (w.alloc ob) rb bS v (v.map Prod.fst) ∧ Below w.heap.size w (w.alloc ob)) := ⟨hrng, (Below.refl _ w).alloc (Nat.le_refl _) _⟩
  have HW : Aside (type_of% hR ∧ (rowsM m).length < 1073741824 ∧ (∀ x ∈ rowsM m, RevOk x) ∧ Unlike (rowsM m) ∧ w.heap.size ≤ rb ∧ bS < w.heap.size ∧ (v.map Prod.fst = m.map Prod.fst)) := ⟨hR, hl, hb, hu, by omega, hM.lt, hR.1⟩
  clear h hH hM hR hoS hoT hl hb hu hrng hrb
  go_enter Tryd.func9, Tryd.ntmps9
  go_wp2
  clear hrange hc
  go_loopg [3] (v.map Prod.fst).length (fun gk s3 wr => ∃ (acc : List Ro) (L : List T), L.length ≤ gk ∧ Hid ((acc ++ L.flatMap (rowsOf m)).Perm (rowsM m)) ∧ Aside (GRng kv wr rb bS v L ∧ Below w.heap.size w wr) ∧ Aside (Kd.R k36 36 wr w.heap.size (fun _ => True) s3 acc))
  case atStart => exact ⟨[], v.map Prod.fst, Nat.le_refl _, by show List.Perm _ _; rw [HW.out.2.2.2.2.2.2]; exact List.Perm.refl _, S0, Kd.R_nil _ _ _ _ _⟩
  case round =>
    clear S0
    obtain ⟨acc, L, hn, HP, S1, HO⟩ := hrel
    rcases g_next keyT S1.out.1 with ⟨rfl, hnx⟩ | ⟨t, x, w1, L1, L2, rfl, hget, hnx, hen, hr1, hg1⟩
    · have hper : acc.Perm (rowsM m) := by have h := HP.out; simpa using h
      have hms : msort ltRo acc = msort ltRo (rowsM m) := by
        refine sorted_perm_eq cmp_Ro.swo (msort_sorted cmp_Ro.swo _) (msort_sorted cmp_Ro.swo _) ((msort_perm _ _).trans (hper.trans (msort_perm _ _).symm)) ?_
        intro a ha b hb h1 h2
        have ha' := hper.mem_iff.1 ((msort_perm _ _).mem_iff.1 ha)
        have hb' := hper.mem_iff.1 ((msort_perm _ _).mem_iff.1 hb)
        have q := cmp_Ro.anti a b
        unfold ltOf at h1 h2
        rw [decide_eq_false_iff_not] at h1 h2
        obtain ⟨e1, e2⟩ := cmpRo_zero (x := a) (y := b) (by omega)
        exact HW.out.2.2.2.1 a ha' b hb' e1 e2
      have hal : acc.length < 4611686018427387904 := by have := hper.length_eq; have := HW.out.2.1; omega
      have hs := sort_Ro w.heap.size u3 acc wr (fl_Ro HO.out) hal (fun a ha => HW.out.2.2.1 a (hper.mem_iff.1 ha)) (fun a ha b hb => HW.out.2.2.2.1 a (hper.mem_iff.1 ha) b (hper.mem_iff.1 hb))
      have HMS : Hid (type_of% hms) := hms
      have HSo : Aside (type_of% hs) := hs
      have HF : Aside (wr.ownsRow w.heap.size 36 5 u3 acc.length (acc.flatMap enRo)) := fl_Ro HO.out
      clear hs hal hms hper
      go_wp2_with (go_at_call 18; refine HSo.out.mono ?_; rintro e w1 ⟨rfl, ho1, hg1⟩; have HO1 : Aside _ := ho1; have HG1 : Aside _ := hg1; clear ho1 hg1)
      go_ret
      exact ⟨_, rfl, by rw [← HMS.out]; exact R_Ro HO1.out, below_grown S1.out.2 HG1.out S1.out.2.size HF.out⟩
    · have hL : (L1 ++ L2).length < (L1 ++ t :: L2).length := by simp
      have hlen : (L1 ++ t :: L2).length ≤ gk := hn
      have hP2 : ((acc ++ rowsOf m t) ++ (L1 ++ L2).flatMap (rowsOf m)).Perm (rowsM m) := (flat_split _ _ _ _ _).trans HP.out
      obtain ⟨ly, hly⟩ : ∃ l, aget t m = some l := by
        cases hq : aget t m with
        | none => rw [(HW.out.1.none_iff t).2 hq] at hget; cases hget
        | some l => exact ⟨l, rfl⟩
      have hox : ownSp w x ly := HW.out.1.2 t ly x hly hget
      obtain ⟨Ax, cx, rfl⟩ := own_form hox
      have hB1 : Below w.heap.size w w1 := grow_row S1.out.2 HW.out.2.2.2.2.1 hg1
      have hro : rowsOf m t = ly.map (spRow t) := by unfold rowsOf getL; rw [hly]; rfl
      have htot : (acc ++ rowsOf m t).length < 1073741824 := by
        have h1 := hP2.length_eq
        have h2 := HW.out.2.1
        rw [List.length_append] at h1; omega
      rw [hro] at hP2 htot
      have hne := fun b (hb : u3.ownBlock = some b) => (fl_Ro HO.out).lt b hb
      have hO1 := Kd.R_grown1 HO.out rfl hg1 (ne_row (fl_Ro HO.out) (fun cs q fr => S1.out.1.no_cells cs q fr))
      have HX : Aside (ownSp w (.slice Ax ly.length cx) ly ∧ (acc ++ ly.map (spRow t)).length < 1073741824) := ⟨hox, htot⟩
      have HPn : Hid (type_of% hP2) := hP2
      have HW1 : Aside (GRng kv w1 rb bS v (L1 ++ L2) ∧ Below w.heap.size w w1) := ⟨hr1, hB1⟩
      have HO1 : Aside (type_of% hO1) := hO1
      have hgk : (L1 ++ L2).length < gk := by omega
      have hgk2 : Hid ((L1 ++ L2).length < gk) := hgk
      clear hne hO1 hr1 hB1 hox htot hP2 hro hly hget hL hn hg1 HP S1 HO hlen hgk
      have HT : Hid (t = t) := rfl
      obtain ⟨t0, t1, t2⟩ := t
      simp only [kv] at hnx hen
      have hllen : ly.length < 1073741824 := by have := HX.out.2; simp at this; omega
      go_wp2
      go_loopg [3, 20] ly.length (fun gj s3 s20 wq => ∃ (j : Nat) (ac : List Ro), s20 = .int .i64 j ∧ j ≤ ly.length ∧ ly.length - j ≤ gj ∧ Hid (ac = acc ++ (ly.take j).map (spRow ⟨t0, t1, t2⟩)) ∧ Aside (GRng kv wq rb bS v (L1 ++ L2) ∧ Below w.heap.size w wq ∧ BoxT wq w1.heap.size ⟨t0, t1, t2⟩ ∧ w1.heap.size < wq.heap.size ∧ s3.ownBlock ≠ some w1.heap.size) ∧ Aside (Kd.R k36 36 wq w.heap.size (fun _ => True) s3 ac))
      case atStart => exact ⟨0, acc, rfl, Nat.zero_le _, Nat.le_refl _, by show _ = _; simp, ⟨HW1.out.1.alloc _, below_alloc HW1.out.2 _, BoxT.new w1 ⟨t0, t1, t2⟩, by simp, fun e => by have := ((fl_Ro HO1.out).lt _ e).2; omega⟩, Kd.R_alloc HO1.out _⟩
      case round =>
        obtain ⟨j, ac, rfl, hj, hgj, HA, S2, HO2⟩ := hrel
        by_cases hjt : j < ly.length
        · have hjz : (j : Int) < (ly.length : Int) := by omega
          obtain ⟨g, s, rfl, hs, g0, g1⟩ := el_Sp HX.out.1 rfl j hjt
          replace g0 := cell_below S2.out.2.1 g0
          replace g1 := cell_below S2.out.2.1 g1
          have hst : ac ++ [spRow ⟨t0, t1, t2⟩ s] = acc ++ (ly.take (j + 1)).map (spRow ⟨t0, t1, t2⟩) := by
            rw [HA.out, take_step ly j s hs, List.map_append, List.append_assoc]; rfl
          have hacl : ac.length < 2147483648 := by
            have h1 := HX.out.2
            rw [HA.out]
            rw [List.length_append, List.length_map] at h1 ⊢
            have := List.length_take_le j ly
            omega
          have HST : Hid (type_of% hst) := hst
          have HL : Aside (ac.length < 2147483648 ∧ w.heap.size ≤ wr.heap.size) := ⟨hacl, S2.out.2.1.size⟩
          have hbx := blk_new wr (.cells #[.int .i64 s.1, .int .i64 s.2] 56)
          obtain ⟨b0, b1, b2⟩ := S2.out.2.2.1
          have HN : Aside (some rb ≠ u3.ownBlock ∧ some bS ≠ u3.ownBlock) := ⟨ne_row (fl_Ro HO2.out) (fun cs q fr => S2.out.1.no_cells cs q fr), ne_row (fl_Ro HO2.out) (fun cs q fr => S2.out.1.toMap.no_cells cs q fr)⟩
          clear hs hst hacl HA hbx
          obtain ⟨a, b⟩ := s
          dsimp only at g0 g1 b0 b1 b2
          have c0 := alloc_cell (.cells #[.int .i64 a, .int .i64 b] 56) b0
          have c1 := alloc_cell (.cells #[.int .i64 a, .int .i64 b] 56) b1
          have c2 := alloc_cell (.cells #[.int .i64 a, .int .i64 b] 56) b2
          go_wp2_with (at_builtin; refine app_Ro (w0 := w) w.heap.size rfl (.tmp 24) (.tmp 31) rfl u3 ac ⟨⟨t0, t1, t2⟩, a, b⟩ rfl (by first | (go_simp; done) | (go_simp; rfl)) ?aO ?aB ?aS HL.out.1 ?_; (case aO => exact Kd.R_alloc HO2.out _); (case aB => exact S2.out.2.1.alloc HL.out.2 _); (case aS => have := HL.out.2; simp; omega); intro v1 w2 ho hb hg1 hat; have HO3 : Aside _ := ho; have HB3 : Aside _ := hb; have HG3 : Aside _ := hg1; have HAt : Aside _ := hat; clear ho hb hg1 hat)
          go_roundg (ly.length - (j + 1))
          case measure => omega
          case rel =>
            refine ⟨j + 1, _, by first | rfl | go_num, by omega, Nat.le_refl _, HST.out, ⟨(S2.out.1.alloc (.cells #[.int .i64 a, .int .i64 b] 56)).grown HG3.out HN.out.2 HN.out.1, HB3.out, ⟨HG3.out.cell c0 (Ne.symm S2.out.2.2.2.2), HG3.out.cell c1 (Ne.symm S2.out.2.2.2.2), HG3.out.cell c2 (Ne.symm S2.out.2.2.2.2)⟩, ?_, ?_⟩, HO3.out⟩
            · have := HG3.out.size; have := S2.out.2.2.2.1; simp at *; omega
            · rcases HAt.out with h | ⟨b', h, hb'⟩
              · rw [h]; exact S2.out.2.2.2.2
              · rw [h]; intro e; injection e with e; have := S2.out.2.2.2.1; simp at hb'; omega
        · have hjz : ¬ (j : Int) < (ly.length : Int) := by omega
          have HAc : Hid (ac = acc ++ ly.map (spRow ⟨t0, t1, t2⟩)) := by
            show _ = _
            rw [HA.out, List.take_of_length_le (by omega)]
          clear HA
          go_wp2
          go_roundg ((L1 ++ L2).length)
          case measure => exact hgk2.out
          case rel => exact ⟨ac, L1 ++ L2, Nat.le_refl _, by show List.Perm _ _; rw [HAc.out]; exact HPn.out, ⟨S2.out.1, S2.out.2.1⟩, HO2.out⟩
end Go.Proofs.YtelmbimmkdobaaaDoor.Pr

namespace Go.Proofs.YtelmbimmkdobaaaDoor.Pr
open Go.Shelf Go.RowKit Go.Lib Go.Sort Go.Proofs.YtelmbimmkdobaaaDoor
open Go.Proofs.YtelmbimmkdobaaaDoorW.PrintWords Go.Proofs.YtelmbimmkdobaaaDoorW.PrintLast Go.Proofs.YtelmbimmkdobaaaDoorW.PrintMore

/-- One store, all of it new since w; nothing below B has turned. -/
def SS (B : Nat) (w W : World) (p : Nat) (m : List (T × List Sp)) (wm : Int) : Prop := ∃ o, StoreAt W p m wm o ∧ Below B w W ∧ B ≤ W.heap.size ∧ ∀ b g, o b = some g → B ≤ b
theorem SS.bel {B : Nat} {w W : World} {p : Nat} {m : List (T × List Sp)} {wm : Int} (h : SS B w W p m wm) : Below B w W ∧ B ≤ W.heap.size := by
  obtain ⟨o, h1, h2, h3, h4⟩ := h
  exact ⟨h2, h3⟩
theorem SS.below {B : Nat} {w W W' : World} {p : Nat} {m : List (T × List Sp)} {wm : Int} (h : SS B w W p m wm) (hb : Below W.heap.size W W') : SS B w W' p m wm := by
  obtain ⟨o, h1, h2, h3, h4⟩ := h
  exact ⟨o, h1.below hb, h2.trans (hb.mono h3), Nat.le_trans h3 hb.size, h4⟩
theorem below_moves {B a b : Nat} {w W W' : World} {o o' : Own} (h : Below B w W) (hB : B ≤ W.heap.size) (ho : ∀ b g, o b = some g → B ≤ b) (hm : Moves a b o o' W W') : Below B w W' ∧ B ≤ W'.heap.size ∧ ∀ b g, o' b = some g → B ≤ b := by
  refine ⟨h.trans ⟨hm.os, hm.tape, hm.output, hm.size, fun k hk => hm.block k (by omega) (fun g hg => by have := ho k g hg; omega)⟩, Nat.le_trans hB hm.size, fun k g hg => ?_⟩
  by_cases hk : k < W.heap.size
  · exact ho k g (by rw [← hm.same k hk]; exact hg)
  · omega
theorem SS.moves {B a b : Nat} {w W W' : World} {p : Nat} {m' : List (T × List Sp)} {wm' : Int} {o o' : Own} (h2 : Below B w W) (h3 : B ≤ W.heap.size) (h4 : ∀ b g, o b = some g → B ≤ b) (hs : StoreAt W' p m' wm' o') (hm : Moves a b o o' W W') : SS B w W' p m' wm' := by
  obtain ⟨q1, q2, q3⟩ := below_moves h2 h3 h4 hm
  exact ⟨o', hs, q1, q2, q3⟩
theorem ss_New (w W : World) (B : Nat) (h : Below B w W) (hB : B ≤ W.heap.size) : Calls Tryd.prog 6 #[] W fun e w' => ∃ p, e = .returned (.pointer (some ⟨p, 0, none⟩)) ∧ SS B w w' p [] 0 := by
  refine (store_New W).mono ?_
  rintro e w' ⟨p, o, rfl, h1, h2, h3⟩
  exact ⟨p, rfl, o, h1, h.trans (h2.mono hB), Nat.le_trans hB h2.size, fun b g hg => Nat.le_trans hB (h3 b g hg)⟩
/-- A row of one mutation, new. -/
theorem C_oneM {W : World} {b : Nat} {x0 : Bool} {t0 t1 t2 : ByteArray} (h : W.heap[b]? = some (.cells #[.bool x0, .string t0, .string t1, .string t2] 30)) : Kd.C k30 W (some ⟨b, 0, none⟩) 1 [⟨x0, ⟨t0, t1, t2⟩⟩] := by
  refine ⟨rfl, by decide, fun _ => ⟨⟨b, 0, none⟩, rfl, fun j y hy => ?_⟩⟩
  cases j with
  | zero =>
    have hy' : (⟨x0, ⟨t0, t1, t2⟩⟩ : Mu) = y := by simpa using hy
    subst hy'
    refine ⟨[.bool x0, .string t0, .string t1, .string t2], rfl, k30_mk W _, fun i u hu => ?_⟩
    rw [Addr.add_lit, blk_cell h]
    match i, hu with
    | 0, hu => exact hu
    | 1, hu => exact hu
    | 2, hu => exact hu
    | 3, hu => exact hu
  | succ j => simp at hy
theorem apply_one {W : World} {p : Nat} {m : List (T × List Sp)} {wm : Int} {o : Own} (h : StoreAt W p m wm o) (rev : Int) (x0 : Bool) (t0 t1 t2 : ByteArray) (hm : m.length + 1 < 2147483648) (hs : ∀ t, (getL t m).length + 1 < 2147483648) (hz : SzT ⟨t0, t1, t2⟩) :
    Calls Tryd.prog 8 #[.pointer (some ⟨p, 0, none⟩), .int .i64 rev, .slice (some ⟨W.heap.size, 0, none⟩) 1 1] (W.alloc (.cells #[.bool x0, .string t0, .string t1, .string t2] 30)) fun e w' => e = .returned (.int .i64 (storeCheck m wm rev [⟨x0, ⟨t0, t1, t2⟩⟩])) ∧ ∃ o', StoreAt w' p (if storeCheck m wm rev [⟨x0, ⟨t0, t1, t2⟩⟩] = 0 then applyMu rev m ⟨x0, ⟨t0, t1, t2⟩⟩ else m) wm o' ∧ Moves 0 8 o o' W w' := by
  have hb : Below W.heap.size W (W.alloc (.cells #[.bool x0, .string t0, .string t1, .string t2] 30)) := (Below.refl _ _).alloc (Nat.le_refl _) _
  refine (store_Apply p rev (some ⟨W.heap.size, 0, none⟩) 1 [⟨x0, ⟨t0, t1, t2⟩⟩] _ (h.below hb) (by simpa using hm) (by simpa using hs) (C_oneM (blk_new W _)) (fun ad e g hg => by injection e with e; subst e; have := h.lives _ g hg; simp at this) (by intro x hx; rw [List.mem_singleton] at hx; rw [hx]; exact hz)).mono ?_
  rintro e w' ⟨rfl, o', h5, h6⟩
  exact ⟨rfl, o', h5, (Moves.of_below 0 8 h.lives hb).trans h6⟩
theorem ss_one {B : Nat} {w W : World} {p : Nat} {m : List (T × List Sp)} {wm : Int} (h : SS B w W p m wm) (rev : Int) (x0 : Bool) (t0 t1 t2 : ByteArray) (hm : m.length + 1 < 2147483648) (hs : ∀ t, (getL t m).length + 1 < 2147483648) (hz : SzT ⟨t0, t1, t2⟩) :
    Calls Tryd.prog 8 #[.pointer (some ⟨p, 0, none⟩), .int .i64 rev, .slice (some ⟨W.heap.size, 0, none⟩) 1 1] (W.alloc (.cells #[.bool x0, .string t0, .string t1, .string t2] 30)) fun e w' => e = .returned (.int .i64 (storeCheck m wm rev [⟨x0, ⟨t0, t1, t2⟩⟩])) ∧ SS B w w' p (if storeCheck m wm rev [⟨x0, ⟨t0, t1, t2⟩⟩] = 0 then applyMu rev m ⟨x0, ⟨t0, t1, t2⟩⟩ else m) wm := by
  obtain ⟨o, h1, h2, h3, h4⟩ := h
  refine (apply_one h1 rev x0 t0 t1 t2 hm hs hz).mono ?_
  rintro e w' ⟨rfl, o', h5, h6⟩
  exact ⟨rfl, SS.moves h2 h3 h4 h5 h6⟩
theorem ss_Has {B : Nat} {w W : World} {p : Nat} {m : List (T × List Sp)} {wm : Int} (h : SS B w W p m wm) (t0 t1 t2 : ByteArray) (rev : Int) (hs : ∀ t, (getL t m).length < 4294967296) :
    Calls Tryd.prog 11 #[.pointer (some ⟨p, 0, none⟩), .agg #[.string t0, .string t1, .string t2], .int .i64 rev] W fun e w' => e = .returned (.tuple #[.bool (if rev < 0 then false else if rev < wm then false else (getL ⟨t0, t1, t2⟩ m).any (spHas rev)), .int .i64 (readCode wm rev)]) ∧ SS B w w' p m wm := by
  have h' := h
  obtain ⟨o, h1, h2, h3, h4⟩ := h
  refine (store_Has p ⟨t0, t1, t2⟩ rev W h1 (hs _)).mono ?_
  rintro e w' ⟨rfl, hb⟩
  exact ⟨rfl, h'.below hb⟩
theorem ss_Users {B : Nat} {w W : World} {p : Nat} {m : List (T × List Sp)} {wm : Int} (h : SS B w W p m wm) (ob rl : ByteArray) (rev : Int) (hm : m.length < 1073741824) (hs : ∀ t, (getL t m).length < 4294967296) :
    Calls Tryd.prog 12 #[.pointer (some ⟨p, 0, none⟩), .string ob, .string rl, .int .i64 rev] W fun e w' => ∃ A c, e = .returned (.tuple #[.slice A (if readCode wm rev = 0 then usersM m (ob, rl) rev else []).length c, .int .i64 (readCode wm rev)]) ∧ (if readCode wm rev = 0 then usersM m (ob, rl) rev else []).length ≤ c ∧ Kd.C Kd.string w' A (if readCode wm rev = 0 then usersM m (ob, rl) rev else []).length (if readCode wm rev = 0 then usersM m (ob, rl) rev else []) ∧ SS B w w' p m wm ∧ Below W.heap.size W w' := by
  have h' := h
  obtain ⟨o, h1, h2, h3, h4⟩ := h
  refine (store_Users p ob rl rev W h1 hm hs).mono ?_
  rintro e w' ⟨v, rfl, hR, hb⟩
  obtain ⟨A, c, rfl⟩ := Kd.R_slice hR
  exact ⟨A, c, rfl, (Kd.R_reads' hR).2.1, (Kd.R_reads' hR).2.2, h'.below hb, hb⟩
/-- Rows that may be handed out. -/
def RowsFit (m : List (T × List Sp)) : Prop := (rowsM m).length < 1073741824 ∧ (∀ x ∈ rowsM m, RevOk x) ∧ Unlike (rowsM m)
theorem ss_Rows {B : Nat} {w W : World} {p : Nat} {m : List (T × List Sp)} {wm : Int} (h : SS B w W p m wm) (hf : RowsFit m) :
    Calls Tryd.prog 9 #[.pointer (some ⟨p, 0, none⟩)] W fun e w' => ∃ A c, e = .returned (.slice A (msort ltRo (rowsM m)).length c) ∧ (msort ltRo (rowsM m)).length ≤ c ∧ Kd.C k36 w' A (msort ltRo (rowsM m)).length (msort ltRo (rowsM m)) ∧ SS B w w' p m wm ∧ Below W.heap.size W w' := by
  have h' := h
  obtain ⟨o, h1, h2, h3, h4⟩ := h
  refine (store_Rows p W h1 hf.1 hf.2.1 hf.2.2).mono ?_
  rintro e w' ⟨v, rfl, hR, hb⟩
  obtain ⟨A, c, rfl⟩ := Kd.R_slice hR
  exact ⟨A, c, rfl, (Kd.R_reads' hR).2.1, (Kd.R_reads' hR).2.2, h'.below hb, hb⟩

/-- Two stores that share nothing. -/
def SS2 (B : Nat) (w W : World) (p1 : Nat) (m1 : List (T × List Sp)) (wm1 : Int) (p2 : Nat) (m2 : List (T × List Sp)) (wm2 : Int) : Prop :=
  ∃ o1 o2, StoreAt W p1 m1 wm1 o1 ∧ StoreAt W p2 m2 wm2 o2 ∧ Below B w W ∧ B ≤ W.heap.size ∧ (∀ b g, o1 b = some g → B ≤ b) ∧ (∀ b g, o2 b = some g → B ≤ b) ∧ ∀ b g1 g2, o1 b = some g1 → o2 b = some g2 → False
theorem SS2.swap {B : Nat} {w W : World} {p1 : Nat} {m1 : List (T × List Sp)} {wm1 : Int} {p2 : Nat} {m2 : List (T × List Sp)} {wm2 : Int} (h : SS2 B w W p1 m1 wm1 p2 m2 wm2) : SS2 B w W p2 m2 wm2 p1 m1 wm1 := by
  obtain ⟨o1, o2, h1, h2, h3, h4, h5, h6, h7⟩ := h
  exact ⟨o2, o1, h2, h1, h3, h4, h6, h5, fun b g1 g2 q1 q2 => h7 b g2 g1 q2 q1⟩
theorem SS2.fst {B : Nat} {w W : World} {p1 : Nat} {m1 : List (T × List Sp)} {wm1 : Int} {p2 : Nat} {m2 : List (T × List Sp)} {wm2 : Int} (h : SS2 B w W p1 m1 wm1 p2 m2 wm2) : SS B w W p1 m1 wm1 := by
  obtain ⟨o1, o2, h1, h2, h3, h4, h5, h6, h7⟩ := h
  exact ⟨o1, h1, h3, h4, h5⟩
theorem SS2.below {B : Nat} {w W W' : World} {p1 : Nat} {m1 : List (T × List Sp)} {wm1 : Int} {p2 : Nat} {m2 : List (T × List Sp)} {wm2 : Int} (h : SS2 B w W p1 m1 wm1 p2 m2 wm2) (hb : Below W.heap.size W W') : SS2 B w W' p1 m1 wm1 p2 m2 wm2 := by
  obtain ⟨o1, o2, h1, h2, h3, h4, h5, h6, h7⟩ := h
  exact ⟨o1, o2, h1.below hb, h2.below hb, h3.trans (hb.mono h4), Nat.le_trans h4 hb.size, h5, h6, h7⟩
/-- A step of the first. -/
theorem SS2.step {B a b : Nat} {w W W' : World} {p1 : Nat} {m1' : List (T × List Sp)} {wm1' : Int} {p2 : Nat} {m2 : List (T × List Sp)} {wm2 : Int} {o1 o1' o2 : Own} (h2 : StoreAt W p2 m2 wm2 o2) (h3 : Below B w W) (h4 : B ≤ W.heap.size) (h5 : ∀ b g, o1 b = some g → B ≤ b) (h6 : ∀ b g, o2 b = some g → B ≤ b) (h7 : ∀ b g1 g2, o1 b = some g1 → o2 b = some g2 → False)
    (hs : StoreAt W' p1 m1' wm1' o1') (hm : Moves a b o1 o1' W W') : SS2 B w W' p1 m1' wm1' p2 m2 wm2 := by
  obtain ⟨q1, q2, q3⟩ := below_moves h3 h4 h5 hm
  refine ⟨o1', o2, hs, h2.kept hm.size (fun k g hg => hm.block k (h2.lives k g hg) (fun g' hg' => (h7 k g' g hg' hg).elim)), q1, q2, q3, h6, fun k g1 g2 e1 e2 => ?_⟩
  have := h2.lives k g2 e2
  rw [hm.same k this] at e1
  exact h7 k g1 g2 e1 e2
theorem ss2_New {B : Nat} {w W : World} {p : Nat} {m : List (T × List Sp)} {wm : Int} (h : SS B w W p m wm) : Calls Tryd.prog 6 #[] W fun e w' => ∃ p2, e = .returned (.pointer (some ⟨p2, 0, none⟩)) ∧ SS2 B w w' p m wm p2 [] 0 := by
  have h' := h
  obtain ⟨o, h1, h2, h3, h4⟩ := h
  refine (store_New W).mono ?_
  rintro e w' ⟨p2, o2, rfl, q1, q2, q3⟩
  obtain ⟨r1, r2⟩ := (h'.below q2).bel
  exact ⟨p2, rfl, o, o2, h1.below q2, q1, r1, r2, h4, fun b g hg => Nat.le_trans h3 (q3 b g hg), fun b g1 g2 e1 e2 => by have := h1.lives b g1 e1; have := q3 b g2 e2; omega⟩
theorem ss2_Apply {B : Nat} {w W : World} {p : Nat} {m : List (T × List Sp)} {wm : Int} {p2 : Nat} {m2 : List (T × List Sp)} {wm2 : Int} (h : SS2 B w W p m wm p2 m2 wm2) (rev : Int) (A : Option Addr) (c : Nat) (l : List Mu) (hm : m.length + l.length < 2147483648) (hs : ∀ t, (getL t m).length + l.length < 2147483648) (hr : Kd.C k30 W A l.length l) (hf : ∀ ad, A = some ad → ad.block < B) (hz : ∀ x ∈ l, SzT x.f1) :
    Calls Tryd.prog 8 #[.pointer (some ⟨p, 0, none⟩), .int .i64 rev, .slice A l.length c] W fun e w' => e = .returned (.int .i64 (storeCheck m wm rev l)) ∧ SS2 B w w' p (if storeCheck m wm rev l = 0 then applyL rev m l else m) wm p2 m2 wm2 := by
  obtain ⟨o1, o2, h1, h2, h3, h4, h5, h6, h7⟩ := h
  refine (store_Apply p rev A c l W h1 hm hs hr (fun ad e g hg => by have := hf ad e; have := h5 _ g hg; omega) hz).mono ?_
  rintro e w' ⟨rfl, o', q5, q6⟩
  exact ⟨rfl, SS2.step h2 h3 h4 h5 h6 h7 q5 q6⟩
theorem ss2_one {B : Nat} {w W : World} {p : Nat} {m : List (T × List Sp)} {wm : Int} {p2 : Nat} {m2 : List (T × List Sp)} {wm2 : Int} (h : SS2 B w W p m wm p2 m2 wm2) (rev : Int) (x0 : Bool) (t0 t1 t2 : ByteArray) (hm : m.length + 1 < 2147483648) (hs : ∀ t, (getL t m).length + 1 < 2147483648) (hz : SzT ⟨t0, t1, t2⟩) :
    Calls Tryd.prog 8 #[.pointer (some ⟨p, 0, none⟩), .int .i64 rev, .slice (some ⟨W.heap.size, 0, none⟩) 1 1] (W.alloc (.cells #[.bool x0, .string t0, .string t1, .string t2] 30)) fun e w' => e = .returned (.int .i64 (storeCheck m wm rev [⟨x0, ⟨t0, t1, t2⟩⟩])) ∧ SS2 B w w' p (if storeCheck m wm rev [⟨x0, ⟨t0, t1, t2⟩⟩] = 0 then applyMu rev m ⟨x0, ⟨t0, t1, t2⟩⟩ else m) wm p2 m2 wm2 := by
  obtain ⟨o1, o2, h1, h2, h3, h4, h5, h6, h7⟩ := h
  refine (apply_one h1 rev x0 t0 t1 t2 hm hs hz).mono ?_
  rintro e w' ⟨rfl, o', q5, q6⟩
  exact ⟨rfl, SS2.step h2 h3 h4 h5 h6 h7 q5 q6⟩
theorem ss2_Rows {B : Nat} {w W : World} {p : Nat} {m : List (T × List Sp)} {wm : Int} {p2 : Nat} {m2 : List (T × List Sp)} {wm2 : Int} (h : SS2 B w W p m wm p2 m2 wm2) (hf : RowsFit m) :
    Calls Tryd.prog 9 #[.pointer (some ⟨p, 0, none⟩)] W fun e w' => ∃ A c, e = .returned (.slice A (msort ltRo (rowsM m)).length c) ∧ (msort ltRo (rowsM m)).length ≤ c ∧ Kd.C k36 w' A (msort ltRo (rowsM m)).length (msort ltRo (rowsM m)) ∧ SS2 B w w' p m wm p2 m2 wm2 ∧ Below W.heap.size W w' := by
  refine (ss_Rows h.fst hf).mono ?_
  rintro e w' ⟨A, c, rfl, q1, q2, q3, q4⟩
  exact ⟨A, c, rfl, q1, q2, h.below q4, q4⟩
end Go.Proofs.YtelmbimmkdobaaaDoor.Pr

namespace Go.Proofs.YtelmbimmkdobaaaDoor.Pr
open Go.Shelf Go.RowKit Go.Lib Go.Sort Go.Proofs.YtelmbimmkdobaaaDoor
open Go.Proofs.YtelmbimmkdobaaaDoorW.PrintWords Go.Proofs.YtelmbimmkdobaaaDoorW.PrintLast Go.Proofs.YtelmbimmkdobaaaDoorW.PrintMore

def puts (rev : Int) (l : List Mu) : List (T × List Sp) := (l.filter (fun x => !x.f0)).map (fun x => (x.f1, [(rev, 0)]))
theorem puts_app (rev : Int) (a b : List Mu) : puts rev (a ++ b) = puts rev a ++ puts rev b := by unfold puts; rw [List.filter_append, List.map_append]
theorem puts_key {rev : Int} {l : List Mu} {t : T} (h : t ∈ (puts rev l).map Prod.fst) : t ∈ l.map (·.f1) := by
  unfold puts at h
  rw [List.map_map] at h
  obtain ⟨x, hx, rfl⟩ := List.mem_map.1 h
  exact List.mem_map.2 ⟨x, (List.mem_filter.1 hx).1, rfl⟩
theorem aput_new {κ β : Type} [DecidableEq κ] (u : κ) (v : β) (m : List (κ × β)) (hm : u ∉ m.map Prod.fst) : aput u v m = m ++ [(u, v)] := by
  rcases asplit u m with ⟨_, _, h3, _⟩ | ⟨m1, v0, m2, h0, _⟩
  · exact h3 v
  · rw [h0] at hm; simp at hm
theorem getL_new (u : T) (m : List (T × List Sp)) (hm : u ∉ m.map Prod.fst) : getL u m = [] := by
  unfold getL
  rw [(aget_none).2 hm]; rfl
theorem apply_new (rev : Int) (m : List (T × List Sp)) (x : Mu) (hm : x.f1 ∉ m.map Prod.fst) : applyMu rev m x = m ++ puts rev [x] := by
  unfold applyMu
  rw [getL_new _ _ hm, if_neg (by simp [thereB])]
  cases h : x.f0
  · rw [if_neg (by simp), aput_new _ _ _ hm]; simp [puts, h]
  · rw [if_pos rfl]; simp [puts, h]
theorem applyL_new (rev : Int) : ∀ (l : List Mu) (s : List Mu), ((s ++ l).map (·.f1)).Nodup → applyL rev (puts rev s) l = puts rev (s ++ l)
  | [], s, _ => by rw [List.append_nil]; rfl
  | x :: l, s, h => by
    have hx : x.f1 ∉ (puts rev s).map Prod.fst := fun q => by
      have q2 := puts_key q
      rw [List.map_append, List.map_cons, List.nodup_append] at h
      exact h.2.2 _ q2 _ List.mem_cons_self rfl
    have e : s ++ x :: l = (s ++ [x]) ++ l := by simp
    show applyL rev (applyMu rev (puts rev s) x) l = _
    rw [apply_new _ _ _ hx, ← puts_app, e]
    exact applyL_new rev l (s ++ [x]) (by rw [← e]; exact h)
theorem checkS_ok {wm rev : Int} : ∀ (l : List Mu) (seen : List T), seen.Nodup → checkS [] wm rev seen l = 0 → (seen ++ l.map (·.f1)).Nodup ∧ (∀ x ∈ l, checkT x.f1 = 0)
  | [], seen, hn, _ => by simpa using hn
  | x :: l, seen, hn, h => by
    rw [checkS] at h
    by_cases c1 : checkT x.f1 = 0
    · rw [if_neg (by simp [c1])] at h
      by_cases c2 : x.f1 ∈ seen
      · rw [if_pos c2] at h; omega
      · rw [if_neg c2] at h
        by_cases c3 : badRev ([] : List (T × List Sp)) wm rev x.f1 = true
        · rw [if_pos c3] at h; omega
        · rw [if_neg c3] at h
          have hn2 : (seen ++ [x.f1]).Nodup := by
            rw [List.nodup_append]
            refine ⟨hn, by simp, ?_⟩
            rintro a ha b hb rfl
            rw [List.mem_singleton] at hb
            exact c2 (hb ▸ ha)
          obtain ⟨h1, h2⟩ := checkS_ok l _ hn2 h
          refine ⟨by simpa using h1, fun y hy => ?_⟩
          rcases List.mem_cons.1 hy with rfl | hy
          · exact c1
          · exact h2 y hy
    · rw [if_pos c1] at h; exact absurd h c1
/-- What the store says OK to. -/
theorem check_ok {rev : Int} {l : List Mu} (h : storeCheck [] 0 rev l = 0) : 1 ≤ rev ∧ rev ≤ 1125899906842624 ∧ (l.map (·.f1)).Nodup ∧ ∀ x ∈ l, checkT x.f1 = 0 := by
  unfold storeCheck at h
  by_cases c : rev < 1 ∨ 1125899906842624 < rev
  · rw [if_pos c] at h; omega
  · rw [if_neg c] at h
    obtain ⟨h1, h2⟩ := checkS_ok l [] (by simp) h
    exact ⟨by omega, by omega, by simpa using h1, h2⟩
theorem check_one {rev : Int} {s : List Mu} {x : Mu} (h1 : 1 ≤ rev) (h2 : rev ≤ 1125899906842624) (hc : checkT x.f1 = 0) (hx : x.f1 ∉ s.map (·.f1)) : storeCheck (puts rev s) 0 rev [x] = 0 := by
  unfold storeCheck
  have hn : x.f1 ∉ (puts rev s).map Prod.fst := fun q => hx (puts_key q)
  rw [if_neg (by omega), checkS, checkS, if_neg (by simp [hc]), if_neg (by simp), if_neg (bad_no (by rw [getL_new _ _ hn]; simp [lastOf]; omega) (by omega))]
/-- The rows of what was put. -/
theorem getL_puts {rev : Int} : ∀ {l : List Mu} {t : T}, t ∈ (puts rev l).map Prod.fst → getL t (puts rev l) = [(rev, 0)]
  | [], t, h => by cases h
  | x :: l, t, h => by
    have e : puts rev (x :: l) = puts rev [x] ++ puts rev l := puts_app rev [x] l
    rw [e] at h ⊢
    cases hx : x.f0
    · have e1 : puts rev [x] = [(x.f1, [(rev, 0)])] := by simp [puts, hx]
      rw [e1, List.singleton_append] at h ⊢
      unfold getL
      rw [aget_cons]
      by_cases q : t = x.f1
      · rw [if_pos q]; rfl
      · rw [if_neg q]
        rw [List.map_cons, List.mem_cons] at h
        exact getL_puts (h.resolve_left q)
    · have e1 : puts rev [x] = [] := by simp [puts, hx]
      rw [e1, List.nil_append] at h ⊢
      exact getL_puts h
theorem flat_one {α β : Type} (f : α → List β) (g : α → β) : ∀ (l : List α), (∀ x ∈ l, f x = [g x]) → l.flatMap f = l.map g
  | [], _ => rfl
  | x :: l, h => by
    rw [List.flatMap_cons, List.map_cons, h x List.mem_cons_self, flat_one f g l (fun y hy => h y (List.mem_cons_of_mem _ hy))]; rfl
theorem rows_puts (rev : Int) (l : List Mu) : rowsM (puts rev l) = (l.filter (fun x => !x.f0)).map (fun x => (⟨x.f1, rev, 0⟩ : Ro)) := by
  unfold rowsM
  rw [flat_one _ (fun t => (⟨t, rev, 0⟩ : Ro)) _ (fun t ht => by unfold rowsOf; rw [getL_puts ht]; rfl)]
  unfold puts
  rw [List.map_map, List.map_map]; rfl
theorem fit_puts {rev : Int} {l : List Mu} (h1 : 1 ≤ rev) (h2 : rev ≤ 1125899906842624) (hl : l.length ≤ 1048576) : RowsFit (puts rev l) := by
  unfold RowsFit
  rw [rows_puts]
  refine ⟨by rw [List.length_map]; have := List.length_filter_le (fun x : Mu => !x.f0) l; omega, fun x hx => ?_, fun x hx y hy e _ => ?_⟩
  · obtain ⟨z, _, rfl⟩ := List.mem_map.1 hx
    unfold RevOk; dsimp only; omega
  · obtain ⟨z, _, rfl⟩ := List.mem_map.1 hx
    obtain ⟨z', _, rfl⟩ := List.mem_map.1 hy
    have e' : z.f1 = z'.f1 := e
    rw [e']
theorem sort_puts (rev : Int) (l : List Mu) : msort ltRo (rowsM (puts rev l.reverse)) = msort ltRo (rowsM (puts rev l)) := by
  rw [rows_puts, rows_puts, List.filter_reverse, List.map_reverse]
  refine sorted_perm_eq cmp_Ro.swo (msort_sorted cmp_Ro.swo _) (msort_sorted cmp_Ro.swo _) ((msort_perm _ _).trans ((List.reverse_perm _).trans (msort_perm _ _).symm)) ?_
  intro x hx y hy h1 h2
  have mx := (msort_perm ltRo _).mem_iff.1 hx
  have my := (msort_perm ltRo _).mem_iff.1 hy
  rw [List.mem_reverse] at mx my
  obtain ⟨z, _, rfl⟩ := List.mem_map.1 mx
  obtain ⟨z', _, rfl⟩ := List.mem_map.1 my
  have q := cmp_Ro.anti (⟨z.f1, rev, 0⟩ : Ro) ⟨z'.f1, rev, 0⟩
  unfold ltOf at h1 h2
  rw [decide_eq_false_iff_not] at h1 h2
  have h0 := (cmpRo_zero (x := ⟨z.f1, rev, 0⟩) (y := ⟨z'.f1, rev, 0⟩) (by omega)).1
  have h0' : z.f1 = z'.f1 := h0
  rw [h0']
theorem puts_len (rev : Int) (l : List Mu) : (puts rev l).length ≤ l.length := by
  unfold puts; rw [List.length_map]; exact List.length_filter_le _ _
theorem puts_sp (rev : Int) (l : List Mu) (t : T) : (getL t (puts rev l)).length ≤ 1 := by
  by_cases h : t ∈ (puts rev l).map Prod.fst
  · rw [getL_puts h]; simp
  · rw [getL_new _ _ h]; simp
end Go.Proofs.YtelmbimmkdobaaaDoor.Pr

namespace Go.Proofs.YtelmbimmkdobaaaDoor.Pr
open Go.Shelf Go.RowKit Go.Lib Go.Sort Go.Proofs.YtelmbimmkdobaaaDoor
open Go.Proofs.YtelmbimmkdobaaaDoorW.PrintWords Go.Proofs.YtelmbimmkdobaaaDoorW.PrintLast Go.Proofs.YtelmbimmkdobaaaDoorW.PrintMore

def docA : ByteArray := ⟨#[100, 111, 99, 58, 97]⟩
def vwR : ByteArray := ⟨#[118, 105, 101, 119, 101, 114]⟩
def annU : ByteArray := ⟨#[117, 115, 101, 114, 58, 97, 110, 110]⟩
def annT : T := ⟨docA, vwR, annU⟩
theorem ann_ok : checkT annT = 0 := by kernel_rfl
theorem ann_sz : SzT annT := by unfold SzT; exact ⟨by decide, by decide, by decide⟩
theorem getL_one (t : T) (l : List Sp) (u : T) : getL u [(t, l)] = if u = t then l else [] := by
  unfold getL; rw [aget_cons]; split <;> rfl
theorem aw1 (t : T) (h : checkT t = 0) : storeCheck [] 0 3 [⟨false, t⟩] = 0 := by
  unfold storeCheck; rw [if_neg (by simp)]
  simp [checkS, h, badRev, getL, aget, lastOf]
theorem aw2 (t : T) : applyMu 3 [] ⟨false, t⟩ = [(t, [(3, 0)])] := by simp [applyMu, getL, aget, thereB, aput]
theorem aw3 (t : T) (h : checkT t = 0) : storeCheck [(t, [(3, 0)])] 0 5 [⟨true, t⟩] = 0 := by
  unfold storeCheck; rw [if_neg (by simp)]
  simp [checkS, h, badRev, getL_one, lastOf]
  decide
theorem aw4 (t : T) : applyMu 5 [(t, [(3, 0)])] ⟨true, t⟩ = [(t, [(3, 5)])] := by simp [applyMu, getL_one, thereB, closeL, aput]
theorem aw5 (t : T) : usersM [(t, [(3, 5)])] (t.f0, t.f1) 3 = [t.f2] := by
  unfold usersM
  rw [List.map_cons, List.map_nil, List.filter_cons_of_pos (by simp [keyO, getL_one, spHas])]
  simp [msort]
theorem aw6 (t : T) : rowsM [(t, [(3, 5)])] = [⟨t, 3, 5⟩] := by simp [rowsM, rowsOf, getL_one, spRow]
theorem aw7 (t : T) : RowsFit [(t, [(3, 5)])] := by
  unfold RowsFit
  rw [aw6]
  refine ⟨by simp, fun x hx => ?_, fun x hx y hy _ _ => ?_⟩
  · rw [List.mem_singleton] at hx; subst hx; simp [RevOk]
  · rw [List.mem_singleton] at hx hy; rw [hx, hy]

theorem viewer07 (u : ByteArray) (w : World) : Calls Tryd.prog 7 #[.string u] w fun e w' => e = .returned (.agg #[.string docA, .string vwR, .string u]) ∧ Below w.heap.size w w' := by
  have HB : Aside (∀ o, Below w.heap.size w (w.alloc o)) := fun o => (Below.refl _ w).alloc (Nat.le_refl _) o
  go_enter Tryd.func7, Tryd.ntmps7
  go_wp2
  exact bodyPost_ret (v := .agg #[.string docA, .string vwR, .string u]) (by simp [results, Tryd.results7, go_sem]; exact ⟨rfl, rfl⟩) rfl ⟨rfl, HB.out _⟩

section
variable {B : Nat} {w W : World} {p : Nat}
theorem aw_ap1 (h : SS B w W p [] 0) : Calls Tryd.prog 8 #[.pointer (some ⟨p, 0, none⟩), .int .i64 3, .slice (some ⟨W.heap.size, 0, none⟩) 1 1] (W.alloc (.cells #[.bool false, .string docA, .string vwR, .string annU] 30)) fun e w' => e = .returned (.int .i64 0) ∧ SS B w w' p [(annT, [(3, 0)])] 0 := by
  have := ss_one h 3 false docA vwR annU (by simp) (fun t => by simp [getL, aget]) ann_sz
  rw [show (⟨docA, vwR, annU⟩ : T) = annT from rfl, aw1 annT ann_ok, if_pos rfl, aw2] at this
  exact this
theorem aw_ap2 (h : SS B w W p [(annT, [(3, 0)])] 0) : Calls Tryd.prog 8 #[.pointer (some ⟨p, 0, none⟩), .int .i64 5, .slice (some ⟨W.heap.size, 0, none⟩) 1 1] (W.alloc (.cells #[.bool true, .string docA, .string vwR, .string annU] 30)) fun e w' => e = .returned (.int .i64 0) ∧ SS B w w' p [(annT, [(3, 5)])] 0 := by
  have := ss_one h 5 true docA vwR annU (by simp) (fun t => by rw [getL_one]; split <;> simp) ann_sz
  rw [show (⟨docA, vwR, annU⟩ : T) = annT from rfl, aw3 annT ann_ok, if_pos rfl, aw4] at this
  exact this
theorem aw_has4 (h : SS B w W p [(annT, [(3, 5)])] 0) : Calls Tryd.prog 11 #[.pointer (some ⟨p, 0, none⟩), .agg #[.string docA, .string vwR, .string annU], .int .i64 4] W fun e w' => e = .returned (.tuple #[.bool true, .int .i64 0]) ∧ SS B w w' p [(annT, [(3, 5)])] 0 := by
  have := ss_Has h docA vwR annU 4 (fun t => by rw [getL_one]; split <;> simp)
  rw [show (⟨docA, vwR, annU⟩ : T) = annT from rfl, getL_one, if_pos rfl] at this
  exact this
theorem aw_has5 (h : SS B w W p [(annT, [(3, 5)])] 0) : Calls Tryd.prog 11 #[.pointer (some ⟨p, 0, none⟩), .agg #[.string docA, .string vwR, .string annU], .int .i64 5] W fun e w' => e = .returned (.tuple #[.bool false, .int .i64 0]) ∧ SS B w w' p [(annT, [(3, 5)])] 0 := by
  have := ss_Has h docA vwR annU 5 (fun t => by rw [getL_one]; split <;> simp)
  rw [show (⟨docA, vwR, annU⟩ : T) = annT from rfl, getL_one, if_pos rfl] at this
  exact this
theorem aw_us (h : SS B w W p [(annT, [(3, 5)])] 0) : Calls Tryd.prog 12 #[.pointer (some ⟨p, 0, none⟩), .string docA, .string vwR, .int .i64 3] W fun e w' => ∃ A c, e = .returned (.tuple #[.slice A 1 c, .int .i64 0]) ∧ SS B w w' p [(annT, [(3, 5)])] 0 := by
  have := ss_Users h docA vwR 3 (by simp) (fun t => by rw [getL_one]; split <;> simp)
  rw [show (docA, vwR) = (annT.f0, annT.f1) from rfl, aw5, show readCode 0 3 = 0 by rfl, if_pos rfl] at this
  refine this.mono ?_
  rintro e w' ⟨A, c, rfl, _, _, h2, _⟩
  exact ⟨A, c, rfl, h2⟩
theorem aw_rows (h : SS B w W p [(annT, [(3, 5)])] 0) : Calls Tryd.prog 9 #[.pointer (some ⟨p, 0, none⟩)] W fun e w' => ∃ A c, e = .returned (.slice A 1 c) ∧ SS B w w' p [(annT, [(3, 5)])] 0 := by
  have := ss_Rows h (aw7 annT)
  rw [aw6] at this
  refine this.mono ?_
  rintro e w' ⟨A, c, rfl, _, _, h2, _⟩
  exact ⟨A, c, by simp [msort], h2⟩
end

set_option maxHeartbeats 16000000 in
set_option maxRecDepth 100000 in
theorem awake07 (w : World) : Calls Tryd.prog 5 #[] w fun e w' => e = .returned (.bool true) ∧ Below w.heap.size w w' := by
  have hN := ss_New w w w.heap.size (Below.refl _ _) (Nat.le_refl _)
  have HN : Aside (type_of% hN) := hN
  clear hN
  have ea : (⟨#[117, 115, 101, 114, 58, 97, 110, 110]⟩ : ByteArray) = annU := rfl
  have ed : (⟨#[100, 111, 99, 58, 97]⟩ : ByteArray) = docA := rfl
  have ev : (⟨#[118, 105, 101, 119, 101, 114]⟩ : ByteArray) = vwR := rfl
  go_enter Tryd.func5, Tryd.ntmps5
  go_wp2_with (first
    | (go_at_call 6; refine HN.out.mono ?_; rintro e w1 ⟨p, rfl, hs⟩; have HS : Aside (SS w.heap.size w w1 p [] 0) := hs; clear hs)
    | (go_at_call 7; refine (viewer07 _ _).mono ?_; rintro e w2 ⟨rfl, hb⟩; have n0_ : Aside (SS _ _ _ _ _ _) := SS.below HS.out hb; clear HS hb; have HS := n0_; clear n0_)
    | (go_at_call 8; (with_reducible refine (aw_ap1 HS.out).mono ?_); rintro e w3 ⟨rfl, hs⟩; clear HS; have HS : Aside (SS _ _ _ _ _ _) := hs; clear hs)
    | (go_at_call 8; (with_reducible refine (aw_ap2 HS.out).mono ?_); rintro e w3 ⟨rfl, hs⟩; clear HS; have HS : Aside (SS _ _ _ _ _ _) := hs; clear hs)
    | (go_at_call 11; (with_reducible refine (aw_has4 HS.out).mono ?_); rintro e w3 ⟨rfl, hs⟩; clear HS; have HS : Aside (SS _ _ _ _ _ _) := hs; clear hs)
    | (go_at_call 11; (with_reducible refine (aw_has5 HS.out).mono ?_); rintro e w3 ⟨rfl, hs⟩; clear HS; have HS : Aside (SS _ _ _ _ _ _) := hs; clear hs)
    | (go_at_call 12; refine (aw_us HS.out).mono ?_; rintro e w3 ⟨A1, c1, rfl, hs⟩; clear HS; have HS : Aside (SS _ _ _ _ _ _) := hs; clear hs)
    | (go_at_call 9; refine (aw_rows HS.out).mono ?_; rintro e w3 ⟨A2, c2, rfl, hs⟩; clear HS; have HS : Aside (SS _ _ _ _ _ _) := hs; clear hs))
  go_ret
  exact ⟨rfl, (SS.bel HS.out).1⟩
end Go.Proofs.YtelmbimmkdobaaaDoor.Pr

namespace Go.Proofs.YtelmbimmkdobaaaDoor.Pr
open Go.RowKit Go.Proofs.YtelmbimmkdobaaaDoorW.PrintWords Go.Proofs.YtelmbimmkdobaaaDoorW.PrintLast Go.Proofs.YtelmbimmkdobaaaDoorW.PrintMore
attribute [local go_sem] max2_int min2_int max_two min_two max_three min_three max_four min_four   -- for this text's walks alone
set_option linter.unusedVariables false
set_option linter.unusedSimpArgs false

attribute [local go_sem high] eqA36
/-! ### porterref07_Same: function 10 -/
def porterref07_Same.l0 : Nat → List (S36) → List (S36) → Int → Option (Bool)
  | 0, _, _, _ => none
  | k + 1, x0, x1, x5 => if x5 < (x0.length : Int) then (if 0 ≤ x5 then (if x5 < (x1.length : Int) then (if ((!((((rd_T36 x0 x5).f0.f0).toList) == (((rd_T36 x1 x5).f0.f0).toList)) || (!((((rd_T36 x0 x5).f0.f1).toList) == (((rd_T36 x1 x5).f0.f1).toList)) || (!((((rd_T36 x0 x5).f0.f2).toList) == (((rd_T36 x1 x5).f0.f2).toList))))) || (!(((rd_T36 x0 x5).f1) == ((rd_T36 x1 x5).f1)) || (!(((rd_T36 x0 x5).f2) == ((rd_T36 x1 x5).f2))))) = true then (some false) else (porterref07_Same.l0 k x0 x1 (wrap64 (x5 + 1)))) else (none)) else (none)) else (some true)
def porterref07_Same.f (k : Nat) (l0 : List (S36)) (l1 : List (S36)) : Option (Bool) := if (l0.length : Int) = (l1.length : Int) then (porterref07_Same.l0 k l0 l1 0) else (some false)
theorem porterref07_Same.mono_l : ∀ k, (∀ y0 y1 y2, LeO (porterref07_Same.l0 k y0 y1 y2) (porterref07_Same.l0 (k + 1) y0 y1 y2))
  | 0 => fun _ _ _ r h => by simp [porterref07_Same.l0] at h
  | k + 1 => by
    have ih0 := porterref07_Same.mono_l k
    · intro y0 y1 y2
      unfold porterref07_Same.l0
      repeat' first
      | (with_reducible exact ih0 _ _ _)
      | (with_reducible exact LeO.refl _)
      | (with_reducible exact LeO.none _)
      | (with_reducible refine LeO.ite ?_ ?_)
      | (with_reducible refine LeO.bind ?_ (fun _ => ?_))
      | exact ih0 _ _ _
      | exact LeO.none _
      | refine LeO.ite ?_ ?_
      | refine LeO.bind ?_ (fun _ => ?_)
theorem porterref07_Same.mono : ∀ a0 a1 k, LeO (porterref07_Same.f k a0 a1) (porterref07_Same.f (k + 1) a0 a1) := by
  intro a0 a1 k
  have ih0 := porterref07_Same.mono_l k
  unfold porterref07_Same.f
  repeat' first
      | (with_reducible exact ih0 _ _ _)
      | (with_reducible exact LeO.refl _)
      | (with_reducible exact LeO.none _)
      | (with_reducible refine LeO.ite ?_ ?_)
      | (with_reducible refine LeO.bind ?_ (fun _ => ?_))
      | exact ih0 _ _ _
      | exact LeO.none _
      | refine LeO.ite ?_ ?_
      | refine LeO.bind ?_ (fun _ => ?_)
set_option maxHeartbeats 8000000 in
set_option maxRecDepth 100000 in
theorem porterref07_Same.calls (k : Nat) (A0 : Option Addr) (c0 : Nat) (l0 : List (S36)) (A1 : Option Addr) (c1 : Nat) (l1 : List (S36)) (r : Bool) (w : World) (hr0 : Kd.C k36 w A0 l0.length l0) (hc0 : l0.length ≤ c0) (hr1 : Kd.C k36 w A1 l1.length l1) (hc1 : l1.length ≤ c1) (h : porterref07_Same.f k l0 l1 = some r) :
    Calls Tryd.prog 10 #[.slice A0 l0.length c0, .slice A1 l1.length c1] w fun e w' => e = .returned (.bool r) ∧ Drawn0 w w' := by
  have hu36 := Tryd.underlying36
  have HR0 := Aside0.mk hr0
  have HC0 := Aside0.mk hc0
  clear hr0 hc0
  have HR1 := Aside0.mk hr1
  have HC1 := Aside0.mk hc1
  clear hr1 hc1
  have H : (if (l0.length : Int) = (l1.length : Int) then (porterref07_Same.l0 k l0 l1 0) else (some false)) = some r := h
  clear h
  by_cases c3 : (l0.length : Int) = (l1.length : Int)
  · rw [if_pos c3] at H
    have c3b0 : ((l0.length : Int) == (l1.length : Int)) = true := beq_iff_eq.mpr c3
    have c3b1 : ((l0.length : Int) != (l1.length : Int)) = false := bne_eq_false_iff_eq.mpr c3
    have c3b2 : (l0.length == l1.length) = true := by first | simpa using c3 | (simp at c3 ⊢; omega)
    clear c3
    have H' := Aside0.mk H
    clear H
    go_enter Tryd.func10, Tryd.ntmps10
    go_wp2
    repeat (go_quiet (fail); try go_wp2)
    go_loopg [5] k (fun kq v5 w' => ∃ (x5_1 : Int), v5 = .int .i64 x5_1 ∧ Aside0 (porterref07_Same.l0 kq l0 l1 x5_1 = some r) ∧ Aside0 (kq ≤ k) ∧ Drawn0 w w')
    case atStart => exact ⟨(0), (by first | rfl | (simp; done) | (simp [*]; done)), H', ⟨Nat.le_refl _⟩, by repeat (first | exact Drawn0.refl _ | apply Drawn0.step)⟩
    case round =>
      clear H'
      try clear c1
      try clear p2
      try clear c3
      try clear c3b0
      try clear c3b1
      try clear c3b2
      obtain ⟨x5_1, rfl, HA, HK1, ⟨m1, rfl⟩⟩ := hrel
      cases gk with
      | zero => exact absurd HA.out (by simp [porterref07_Same.l0])
      | succ k1 =>
        have H := HA.out
        clear HA
        simp only [porterref07_Same.l0] at H
        by_cases c4 : x5_1 < (l0.length : Int)
        · rw [if_pos c4] at H
          have c4b0 : decide (x5_1 < (l0.length : Int)) = true := decide_eq_true c4
          clear c4
          by_cases c5 : 0 ≤ x5_1
          · rw [if_pos c5] at H
            have c5b0 : decide (0 ≤ x5_1) = true := decide_eq_true c5
            clear c5
            by_cases c6 : x5_1 < (l1.length : Int)
            · rw [if_pos c6] at H
              have c6b0 : decide (x5_1 < (l1.length : Int)) = true := decide_eq_true c6
              clear c6
              by_cases c7 : ((!((((rd_T36 l0 x5_1).f0.f0).toList) == (((rd_T36 l1 x5_1).f0.f0).toList)) || (!((((rd_T36 l0 x5_1).f0.f1).toList) == (((rd_T36 l1 x5_1).f0.f1).toList)) || (!((((rd_T36 l0 x5_1).f0.f2).toList) == (((rd_T36 l1 x5_1).f0.f2).toList))))) || (!(((rd_T36 l0 x5_1).f1) == ((rd_T36 l1 x5_1).f1)) || (!(((rd_T36 l0 x5_1).f2) == ((rd_T36 l1 x5_1).f2))))) = true
              · rw [if_pos c7] at H
                have c7b0 : ((!((((rd_T36 l0 x5_1).f0.f0).toList) == (((rd_T36 l1 x5_1).f0.f0).toList)) || (!((((rd_T36 l0 x5_1).f0.f1).toList) == (((rd_T36 l1 x5_1).f0.f1).toList)) || (!((((rd_T36 l0 x5_1).f0.f2).toList) == (((rd_T36 l1 x5_1).f0.f2).toList))))) || (!(((rd_T36 l0 x5_1).f1) == ((rd_T36 l1 x5_1).f1)) || (!(((rd_T36 l0 x5_1).f2) == ((rd_T36 l1 x5_1).f2))))) = true := c7
                clear c7
                obtain rfl := Option.some.inj H
                have p101 : 0 ≤ (x5_1 : Int) := of_decide_eq_true (by first | (with_reducible assumption) | assumption)
                have q101 : x5_1 < (l0.length : Int) := of_decide_eq_true (by first | (with_reducible assumption) | assumption)
                obtain ⟨ad101, e101, hx101_0, hx101_1, hx101_2, hx101_3, hx101_4⟩ := at_T36 HR0.out x5_1 p101 q101
                cases e101
                replace p101 := eq_true p101
                replace q101 := eq_true q101
                have p102 : 0 ≤ (x5_1 : Int) := of_decide_eq_true (by first | (with_reducible assumption) | assumption)
                have q102 : x5_1 < (l1.length : Int) := of_decide_eq_true (by first | (with_reducible assumption) | assumption)
                obtain ⟨ad102, e102, hx102_0, hx102_1, hx102_2, hx102_3, hx102_4⟩ := at_T36 HR1.out x5_1 p102 q102
                cases e102
                replace p102 := eq_true p102
                replace q102 := eq_true q102
                go_wp2
                repeat (go_quiet (fail); try go_wp2)
                go_ret
                exact ⟨by first | rfl | (simp; done) | (simp [*]; done), by repeat (first | exact Drawn0.refl _ | apply Drawn0.step)⟩
              · rw [if_neg c7] at H
                have c7b0 : ((!((((rd_T36 l0 x5_1).f0.f0).toList) == (((rd_T36 l1 x5_1).f0.f0).toList)) || (!((((rd_T36 l0 x5_1).f0.f1).toList) == (((rd_T36 l1 x5_1).f0.f1).toList)) || (!((((rd_T36 l0 x5_1).f0.f2).toList) == (((rd_T36 l1 x5_1).f0.f2).toList))))) || (!(((rd_T36 l0 x5_1).f1) == ((rd_T36 l1 x5_1).f1)) || (!(((rd_T36 l0 x5_1).f2) == ((rd_T36 l1 x5_1).f2))))) = false := by simpa using c7
                clear c7
                have H' := Aside0.mk H
                clear H
                have p101 : 0 ≤ (x5_1 : Int) := of_decide_eq_true (by first | (with_reducible assumption) | assumption)
                have q101 : x5_1 < (l0.length : Int) := of_decide_eq_true (by first | (with_reducible assumption) | assumption)
                obtain ⟨ad101, e101, hx101_0, hx101_1, hx101_2, hx101_3, hx101_4⟩ := at_T36 HR0.out x5_1 p101 q101
                cases e101
                replace p101 := eq_true p101
                replace q101 := eq_true q101
                have p102 : 0 ≤ (x5_1 : Int) := of_decide_eq_true (by first | (with_reducible assumption) | assumption)
                have q102 : x5_1 < (l1.length : Int) := of_decide_eq_true (by first | (with_reducible assumption) | assumption)
                obtain ⟨ad102, e102, hx102_0, hx102_1, hx102_2, hx102_3, hx102_4⟩ := at_T36 HR1.out x5_1 p102 q102
                cases e102
                replace p102 := eq_true p102
                replace q102 := eq_true q102
                go_wp2
                repeat (go_quiet (fail); try go_wp2)
                go_roundg k1
                case measure => have := HK1.out; omega
                case rel => exact ⟨(wrap64 (x5_1 + 1)), (by first | rfl | (simp; done) | (simp [*]; done)), H', ⟨by have := HK1.out; omega⟩, by repeat (first | exact Drawn0.refl _ | apply Drawn0.step)⟩
            · rw [if_neg c6] at H
              exact absurd H (by simp)
          · rw [if_neg c5] at H
            exact absurd H (by simp)
        · rw [if_neg c4] at H
          have c4b0 : decide (x5_1 < (l0.length : Int)) = false := decide_eq_false c4
          clear c4
          obtain rfl := Option.some.inj H
          go_wp2
          repeat (go_quiet (fail); try go_wp2)
          go_ret
          exact ⟨by first | rfl | (simp; done) | (simp [*]; done), by repeat (first | exact Drawn0.refl _ | apply Drawn0.step)⟩
  · rw [if_neg c3] at H
    have c3b0 : ((l0.length : Int) == (l1.length : Int)) = false := beq_eq_false_iff_ne.mpr c3
    have c3b1 : ((l0.length : Int) != (l1.length : Int)) = true := bne_iff_ne.mpr c3
    have c3b2 : (l0.length == l1.length) = false := by first | simpa using c3 | (simp at c3 ⊢; omega)
    obtain rfl := Option.some.inj H
    go_enter Tryd.func10, Tryd.ntmps10
    go_wp2
    repeat (go_quiet (fail); try go_wp2)
    go_ret
    exact ⟨by first | rfl | (simp; done) | (simp [*]; done), by repeat (first | exact Drawn0.refl _ | apply Drawn0.step)⟩

end Go.Proofs.YtelmbimmkdobaaaDoor.Pr

namespace Go.Proofs.YtelmbimmkdobaaaDoor.Pr
open Go.Proofs.YtelmbimmkdobaaaDoor Go.Sort Go.RowKit

theorem wrap_step (i : Nat) (h : i < 4294967296) : wrap64 ((i : Int) + 1) = ((i + 1 : Nat) : Int) := by
  unfold wrap64; omega
theorem same_self (l : List Ro) (hl : l.length < 4294967296) : ∀ (d i k : Nat), i + d = l.length → d < k → porterref07_Same.l0 k l l (i : Int) = some true
  | 0, i, 0, _, hk => by omega
  | 0, i, k + 1, hi, _ => by
    rw [porterref07_Same.l0, if_neg (by omega)]
  | d + 1, i, 0, _, hk => by omega
  | d + 1, i, k + 1, hi, hk => by
    rw [porterref07_Same.l0, if_pos (by omega), if_pos (by omega), if_pos (by omega), if_neg (by simp), wrap_step i (by omega)]
    exact same_self l hl d (i + 1) k (by omega) (by omega)
theorem same_f_self (l : List Ro) (hl : l.length < 4294967296) (k : Nat) (hk : l.length < k) : porterref07_Same.f k l l = some true := by
  unfold porterref07_Same.f
  rw [if_pos rfl]
  exact same_self l hl l.length 0 k (by omega) (by omega)
end Go.Proofs.YtelmbimmkdobaaaDoor.Pr

namespace Go.Proofs.YtelmbimmkdobaaaDoor.Pr
open Go.Shelf Go.RowKit Go.Lib Go.Sort Go.Proofs.YtelmbimmkdobaaaDoor
open Go.Proofs.YtelmbimmkdobaaaDoorW.PrintWords Go.Proofs.YtelmbimmkdobaaaDoorW.PrintLast Go.Proofs.YtelmbimmkdobaaaDoorW.PrintMore
attribute [local go_sem ↓] Go.wp_at_zero Go.wp_at_succ

/-- Two stores, the first with what was put at once, the second with what is behind the k-th mutation. -/
def Ap (w W : World) (p q : Nat) (rev : Int) (l s : List Mu) : Prop := SS2 w.heap.size w W p (puts rev l) 0 q (puts rev s) 0
theorem Ap.bel {w W : World} {p q : Nat} {rev : Int} {l s : List Mu} (h : Ap w W p q rev l s) : Below w.heap.size w W := (SS.bel (SS2.fst h)).1
theorem ap_all {w W : World} {p q : Nat} {rev : Int} {l : List Mu} {A : Option Addr} {c : Nat} (h : SS2 w.heap.size w W p [] 0 q [] 0) (hc : storeCheck [] 0 rev l = 0) (hl : l.length ≤ 1048576) (hr : Kd.C k30 w A l.length l) (hf : ∀ ad, A = some ad → ad.block < w.heap.size) (hz : ∀ x ∈ l, SzT x.f1) :
    Calls Tryd.prog 8 #[.pointer (some ⟨p, 0, none⟩), .int .i64 rev, .slice A l.length c] W fun e w' => e = .returned (.int .i64 0) ∧ Ap w w' p q rev l [] := by
  have := ss2_Apply h rev A c l (by simp; omega) (fun t => by simp [getL, aget]; omega) (Kd.C_below hr (SS.bel (SS2.fst h)).1) hf hz
  rw [hc, if_pos rfl] at this
  have e : applyL rev [] l = puts rev l := applyL_new rev l [] (by simpa using (check_ok hc).2.2.1)
  rw [e] at this
  exact this
theorem ap_bad {w W : World} {p q : Nat} {rev : Int} {l : List Mu} {A : Option Addr} {c : Nat} (h : SS2 w.heap.size w W p [] 0 q [] 0) (hc : storeCheck [] 0 rev l ≠ 0) (hl : l.length ≤ 1048576) (hr : Kd.C k30 w A l.length l) (hf : ∀ ad, A = some ad → ad.block < w.heap.size) (hz : ∀ x ∈ l, SzT x.f1) :
    Calls Tryd.prog 8 #[.pointer (some ⟨p, 0, none⟩), .int .i64 rev, .slice A l.length c] W fun e w' => e = .returned (.int .i64 (storeCheck [] 0 rev l)) ∧ Ap w w' p q rev [] [] := by
  have := ss2_Apply h rev A c l (by simp; omega) (fun t => by simp [getL, aget]; omega) (Kd.C_below hr (SS.bel (SS2.fst h)).1) hf hz
  rw [if_neg hc] at this
  exact this
theorem ap_one {w W : World} {p q : Nat} {rev : Int} {l s : List Mu} {x0 : Bool} {t0 t1 t2 : ByteArray} (h : Ap w W p q rev l s) (h1 : 1 ≤ rev) (h2 : rev ≤ 1125899906842624) (hl : s.length ≤ 1048576) (hc : checkT ⟨t0, t1, t2⟩ = 0) (hx : (⟨t0, t1, t2⟩ : T) ∉ s.map (·.f1)) (hz : SzT ⟨t0, t1, t2⟩) :
    Calls Tryd.prog 8 #[.pointer (some ⟨q, 0, none⟩), .int .i64 rev, .slice (some ⟨W.heap.size, 0, none⟩) 1 1] (W.alloc (.cells #[.bool x0, .string t0, .string t1, .string t2] 30)) fun e w' => e = .returned (.int .i64 0) ∧ Ap w w' p q rev l (s ++ [⟨x0, ⟨t0, t1, t2⟩⟩]) := by
  have := ss2_one (SS2.swap h) rev x0 t0 t1 t2 (by have := puts_len rev s; omega) (fun t => by have := puts_sp rev s t; omega) hz
  rw [check_one (x := ⟨x0, ⟨t0, t1, t2⟩⟩) h1 h2 hc hx, if_pos rfl, apply_new _ _ _ (fun e => hx (puts_key e)), ← puts_app] at this
  refine this.mono ?_
  rintro e w' ⟨rfl, h3⟩
  exact ⟨rfl, SS2.swap h3⟩
theorem ap_rows0 {w W : World} {p q : Nat} {rev : Int} (h : Ap w W p q rev [] []) : Calls Tryd.prog 9 #[.pointer (some ⟨p, 0, none⟩)] W fun e w' => ∃ A c, e = .returned (.slice A 0 c) ∧ Ap w w' p q rev [] [] := by
  have hf : RowsFit (puts rev []) := by
    unfold RowsFit
    rw [rows_puts]
    exact ⟨by simp, fun x hx => by simp at hx, fun x hx => by simp at hx⟩
  refine (ss2_Rows h hf).mono ?_
  rintro e w' ⟨A, c, rfl, _, _, h3, _⟩
  have e0 : (msort ltRo (rowsM (puts rev []))).length = 0 := by rw [(msort_perm _ _).length_eq, rows_puts]; rfl
  rw [e0]
  exact ⟨A, c, rfl, h3⟩
theorem ap_rowsA {w W : World} {p q : Nat} {rev : Int} {l s : List Mu} (h : Ap w W p q rev l s) (h1 : 1 ≤ rev) (h2 : rev ≤ 1125899906842624) (hl : l.length ≤ 1048576) {R : List Ro} (hR : msort ltRo (rowsM (puts rev l)) = R) : Calls Tryd.prog 9 #[.pointer (some ⟨p, 0, none⟩)] W fun e w' => ∃ A c, e = .returned (.slice A R.length c) ∧ R.length ≤ c ∧ Kd.C k36 w' A R.length R ∧ Ap w w' p q rev l s := by
  subst hR
  refine (ss2_Rows h (fit_puts h1 h2 hl)).mono ?_
  rintro e w' ⟨A, c, rfl, q1, q2, h3, _⟩
  exact ⟨A, c, rfl, q1, q2, h3⟩
theorem ap_rowsB {w W : World} {p q : Nat} {rev : Int} {l s : List Mu} (h : Ap w W p q rev l s) (h1 : 1 ≤ rev) (h2 : rev ≤ 1125899906842624) (hl : s.length ≤ 1048576) {R : List Ro} (hR : msort ltRo (rowsM (puts rev s)) = R) : Calls Tryd.prog 9 #[.pointer (some ⟨q, 0, none⟩)] W fun e w' => ∃ A c, e = .returned (.slice A R.length c) ∧ R.length ≤ c ∧ Kd.C k36 w' A R.length R ∧ Ap w w' p q rev l s ∧ Below W.heap.size W w' := by
  subst hR
  refine (ss2_Rows (SS2.swap h) (fit_puts h1 h2 hl)).mono ?_
  rintro e w' ⟨A, c, rfl, q1, q2, h3, h4⟩
  exact ⟨A, c, rfl, q1, q2, SS2.swap h3, h4⟩

set_option maxHeartbeats 32000000 in
set_option maxRecDepth 100000 in
theorem law_StoreApart (A : Option Addr) (c : Nat) (l : List Mu) (rev : Int) (w : World) (hr : Kd.C k30 w A l.length l) (hf : ∀ ad, A = some ad → ad.block < w.heap.size) (hl : l.length ≤ 1048576) (hz : ∀ x ∈ l, SzT x.f1) :
    Calls Tryd.prog 4 #[.slice A l.length c, .int .i64 rev] w fun e w' => e = .returned (.bool true) ∧ Below w.heap.size w w' := by
  have HR : Aside (Kd.C k30 w A l.length l) := hr
  have HF : Aside (∀ ad, A = some ad → ad.block < w.heap.size) := hf
  have HZ : Aside (∀ x ∈ l, SzT x.f1) := hz
  have HL : Hid (l.length ≤ 1048576) := hl
  clear hr hz hl hf
  by_cases hc : storeCheck [] 0 rev l = 0
  · have HC : Hid (storeCheck [] 0 rev l = 0) := hc
    clear hc
    go_enter Tryd.func4, Tryd.ntmps4
    go_wp2_with (first
      | (go_at_call 5; refine (awake07 _).mono ?_; rintro e w2 ⟨rfl, hb⟩; have HB0 : Aside _ := hb; clear hb)
      | (go_at_call 6; refine (ss2_New HS.out).mono ?_; rintro e w4 ⟨q, rfl, hs⟩; clear HS; have HS2 : Aside (SS2 w.heap.size w w4 p [] 0 q [] 0) := hs; clear hs)
      | (go_at_call 6; refine (ss_New w _ w.heap.size HB0.out HB0.out.size).mono ?_; rintro e w3 ⟨p, rfl, hs⟩; have HS : Aside (SS w.heap.size w w3 p [] 0) := hs; clear hs)
      | (go_at_call 8; refine (ap_all HS2.out HC.out HL.out HR.out HF.out HZ.out).mono ?_; rintro e w5 ⟨rfl, hs⟩; have HA : Aside (Ap w w5 p q rev l []) := hs; clear hs))
    clear HS2 HB0
    have hk := check_ok HC.out
    have HK : Hid (type_of% hk) := hk
    clear hk
    go_loopg [8] l.length (fun gk s8 wr => ∃ (k : Nat) (z : Int), s8 = .int .i64 z ∧ z = (k : Int) - 1 ∧ k ≤ l.length ∧ k ≤ gk ∧ Aside (Ap w wr p q rev l (l.drop k).reverse))
    case atStart => exact ⟨l.length, _, rfl, by first | rfl | (unfold wrap64; have := HL.out; omega), Nat.le_refl _, Nat.le_refl _, by rw [List.drop_length]; exact HA.out⟩
    case round =>
      clear HA
      obtain ⟨k, z, rfl, hz, hk, hg, HA⟩ := hrel
      cases k with
      | zero =>
        have hzn : ¬ z ≥ 0 := by omega
        have hzd : decide (z ≥ 0) = false := decide_eq_false hzn
        have hR2 : msort ltRo (rowsM (puts rev (l.drop 0).reverse)) = msort ltRo (rowsM (puts rev l)) := by rw [List.drop_zero]; exact sort_puts rev l
        obtain ⟨R, hR⟩ : ∃ R, msort ltRo (rowsM (puts rev l)) = R := ⟨_, rfl⟩
        rw [hR] at hR2
        have hRl : R.length < 4294967296 := by
          rw [← hR, (msort_perm _ _).length_eq, rows_puts, List.length_map]
          have := List.length_filter_le (fun x : Mu => !x.f0) l
          have := HL.out
          omega
        have hS := fun (A0 A1 : Option Addr) (c0 c1 : Nat) (W : World) (r0 : Kd.C k36 W A0 R.length R) (r1 : Kd.C k36 W A1 R.length R) (g0 : R.length ≤ c0) (g1 : R.length ≤ c1) => porterref07_Same.calls (R.length + 1) A0 c0 R A1 c1 R true W r0 g0 r1 g1 (same_f_self R hRl _ (Nat.lt_succ_self _))
        have HSm : Aside (type_of% hS) := hS
        have hL2 : ((l.drop 0).reverse).length ≤ 1048576 := by rw [List.drop_zero, List.length_reverse]; exact HL.out
        have HQ : Hid (msort ltRo (rowsM (puts rev l)) = R ∧ msort ltRo (rowsM (puts rev (l.drop 0).reverse)) = R ∧ ((l.drop 0).reverse).length ≤ 1048576) := ⟨hR, hR2, hL2⟩
        clear hS hR hR2 hL2 hRl hz
        go_wp2_with (first
          | (go_at_call 9; (with_reducible refine (ap_rowsB HA1.out HK.out.1 HK.out.2.1 HQ.out.2.2 HQ.out.2.1).mono ?_); rintro e w7 ⟨A7, c7, rfl, q7, r7, hs, hb⟩; have HA2 : Aside (Ap w w7 p q rev l _) := hs; have HR6 := Kd.C_below HR1.out.2 hb; have HR2 : Aside (R.length ≤ c7 ∧ Kd.C k36 w7 A7 R.length R ∧ Kd.C k36 w7 A6 R.length R) := ⟨q7, r7, HR6⟩; clear hs r7 q7 HR6 hb)
          | (go_at_call 9; refine (ap_rowsA HA.out HK.out.1 HK.out.2.1 HL.out HQ.out.1).mono ?_; rintro e w6 ⟨A6, c6, rfl, q6, r6, hs⟩; have HA1 : Aside (Ap w w6 p q rev l _) := hs; have HR1 : Aside (R.length ≤ c6 ∧ Kd.C k36 w6 A6 R.length R) := ⟨q6, r6⟩; clear hs r6 q6)
          | (go_at_call 10; refine (HSm.out A6 A7 c6 c7 _ HR2.out.2.2 HR2.out.2.1 HR1.out.1 HR2.out.1).mono ?_; rintro e w8 ⟨rfl, hd⟩; have HD : Aside _ := hd.below; clear hd))
        go_ret
        exact ⟨rfl, HA2.out.bel.trans (HD.out.mono HA2.out.bel.size)⟩
      | succ k =>
        have hz2 : z = (k : Int) := by omega
        subst hz2
        clear hz
        have hlt : k < l.length := by omega
        have hltz : (k : Int) < (l.length : Int) := by omega
        have hge : decide ((k : Int) ≥ 0) = true := decide_eq_true (by omega)
        obtain ⟨ad, x, rfl, hx, h0, h1, h2, h3⟩ := el_Mu HR.out rfl k hlt
        replace h0 := cell_below HA.out.bel h0
        replace h1 := cell_below HA.out.bel h1
        replace h2 := cell_below HA.out.bel h2
        replace h3 := cell_below HA.out.bel h3
        have hw : IntKind.i64.wrap ((k : Int) - 1) = (k : Int) - 1 := by rw [i64_w]; unfold wrap64; have := HL.out; omega
        have hd : (l.drop k).reverse = (l.drop (k + 1)).reverse ++ [x] := by rw [drop_get hx, List.reverse_cons]
        have hxm := List.mem_of_getElem? hx
        have hn : x.f1 ∉ ((l.drop (k + 1)).reverse).map (·.f1) := by
          have h5 := HK.out.2.2.1
          rw [← List.take_append_drop k l, drop_get hx, List.map_append, List.map_cons, List.nodup_append] at h5
          have h6 := (List.nodup_cons.1 h5.2.1).1
          rw [List.map_reverse, List.mem_reverse]
          exact h6
        have hO := ap_one (x0 := x.f0) (t0 := x.f1.f0) (t1 := x.f1.f1) (t2 := x.f1.f2) HA.out HK.out.1 HK.out.2.1 (by rw [List.length_reverse, List.length_drop]; have := HL.out; omega) (HK.out.2.2.2 x hxm) hn (HZ.out x hxm)
        rw [← hd] at hO
        have HO : Aside (type_of% hO) := hO
        clear hO hn hxm hx hd HA
        go_wp2_with (go_at_call 8; refine HO.out.mono ?_; rintro e w6 ⟨rfl, hs⟩; have HA6 : Aside (Ap w w6 p q rev l (l.drop k).reverse) := hs; clear hs)
        go_roundg k
        case measure => omega
        case rel => exact ⟨k, (k : Int) - 1, by first | rfl | go_num, rfl, by omega, Nat.le_refl _, HA6.out⟩
  · have HC : Aside (storeCheck [] 0 rev l ≠ 0) := hc
    have d : (storeCheck [] 0 rev l != 0) = true := by simp [hc]
    obtain ⟨v, hv⟩ : ∃ v, storeCheck [] 0 rev l = v := ⟨_, rfl⟩
    rw [hv] at d
    have HV : Hid (storeCheck [] 0 rev l = v) := hv
    clear hc hv
    go_enter Tryd.func4, Tryd.ntmps4
    go_wp2_with (first
      | (go_at_call 5; refine (awake07 _).mono ?_; rintro e w2 ⟨rfl, hb⟩; have HB0 : Aside _ := hb; clear hb)
      | (go_at_call 6; refine (ss2_New HS.out).mono ?_; rintro e w4 ⟨q, rfl, hs⟩; clear HS; have HS2 : Aside (SS2 w.heap.size w w4 p [] 0 q [] 0) := hs; clear hs)
      | (go_at_call 6; refine (ss_New w _ w.heap.size HB0.out HB0.out.size).mono ?_; rintro e w3 ⟨p, rfl, hs⟩; have HS : Aside (SS w.heap.size w w3 p [] 0) := hs; clear hs)
      | (go_at_call 8; have hq := ap_bad (c := c) HS2.out HC.out HL.out HR.out HF.out HZ.out; rw [HV.out] at hq; refine hq.mono ?_; clear hq; rintro e w5 ⟨rfl, hs⟩; have HA : Aside (Ap w w5 p q rev [] []) := hs; clear hs)
      | (go_at_call 9; refine (ap_rows0 HA.out).mono ?_; rintro e w6 ⟨A6, c6, rfl, hs⟩; have HA1 : Aside (Ap w w6 p q rev [] []) := hs; clear hs))
    go_ret
    exact ⟨rfl, HA1.out.bel⟩
end Go.Proofs.YtelmbimmkdobaaaDoor.Pr

namespace Go.Proofs.YtelmbimmkdobaaaDoor.storeApart
open Go.ChangeShapes Go.WideShapes Go.ChangeAt Go.RowKit Go.Proofs.YtelmbimmkdobaaaDoor.Pr

theorem own : ownKnob Tryd.prog.godebug = none := by kernel_rfl
theorem laidOut : laidOutB Tryd.prog = true := by kernel_rfl

set_option maxRecDepth 1000000 in
theorem contract (H : Type) (enc : TypeId × Value → H) (W : World) (base : Nat) (args : Array Value) (ds gs : List (DataW H)) (before : List MemPlace)
    (hval : ∀ (j : Nat) t v, Tryd.f4.params[j]? = some t → args[j]? = some v → Value.okWide Tryd.prog W .any base t v)
    (hW : DataW.Whole enc Tryd.prog Tryd.f4.params.toList Rows.storeApartSpec.vars false W args.toList ds gs before) (hk : Rows.uptoSmall H (ds ++ gs) = true) :
    Calls Tryd.prog 4 args W fun e W' => ∃ v, e = .returned v ∧ Rows.storeApartSpec.post enc Tryd.prog Tryd.f4 false true false false W args v W' := by
  have hW' := hW
  obtain ⟨p, q, hA0, hV, rfl, hfz, hnd⟩ := hW
  have hA : DataW.TrodAll enc Tryd.prog W 0 (fun _ => true) true Tryd.f4.params.toList args.toList ds p := hA0
  rw [Tryd.params4] at hA hval
  obtain ⟨v0, vs0, d0, ds0, p0, q0, hargs, rfl, rfl, h0, r0⟩ := trodAll_cons hA
  obtain ⟨v1, vs1, d1, ds1, p1, q1, rfl, rfl, rfl, h1, r1⟩ := trodAll_cons r0
  obtain ⟨rfl, rfl, rfl⟩ := trodAll_nil r1
  obtain rfl : args = #[v0, v1] := by cases args; simp_all
  obtain ⟨rfl, rfl⟩ := trodVars_none hV
  have k0 := h0
  have lt0 : ∀ x ∈ p0, x.block < W.heap.size := by obtain ⟨m, hm⟩ := k0; exact DataW.trod_lt m _ _ _ hm
  obtain ⟨a0, len0, cap0, rfl⟩ := okWide_slice Tryd.underlying22 (hval 0 22 v0 rfl rfl)
  have hF := okWide_slice_lt Tryd.underlying22 (hval 0 22 _ rfl rfl)
  have hu : Rows.uptoBulk d0 ≤ 1048576 := by
    have h1 := of_decide_eq_true hk
    have h2 := bulk_mem (H := H) (d := d0) (l := [d0, d1]) (by simp)
    simp only [List.append_nil] at h1
    exact Nat.le_trans h2 h1
  obtain ⟨l, rfl, hc0, hb0, hC0, hZ⟩ := open_Mu h0 hu
  obtain ⟨rev, rfl, rfl, rfl, w1⟩ := open_int Tryd.underlying2 (hval 1 2 v1 rfl rfl) h1
  clear hA0 hk
  refine (law_StoreApart a0 cap0 l rev W hC0 hF (by omega) hZ).mono fun e W' ⟨he, bel⟩ => ?_
  subst he
  exact ⟨_, rfl, _, _, _, [], _, [], hW', trodAll_mk1 (shut_bool Tryd.underlying4 _), (trodAll_cons_mk (Below.trod laidOut (by kernel_rfl) (of_decide_eq_true (by kernel_rfl)) k0 bel lt0) (trodAll_cons_mk (shut_int Tryd.underlying2 w1) trodAll_mk0)), rfl, bel.frame _, fun h => by cases h⟩

def cell1 : DataW Unit → List Value
  | .lit (.int k n) => [.int k n]
  | _ => []
def cell2 : DataW Unit → List Value
  | .agg l => l.flatMap cell1
  | d => cell1 d
def cell3 : DataW Unit → List Value
  | .agg l => l.flatMap cell2
  | d => cell1 d
def setCells (cs : Array Value) : Obj → Obj
  | .cells _ t frozen => .cells cs t frozen
  | o => o
/-- A world for the witness: the settled one, the two tables holding what their texts lay. -/
noncomputable def laidWorld (os : Os) : World :=
  { World.holding Tryd.prog os ⟨#[], #[], []⟩ with heap := ((World.holding Tryd.prog os ⟨#[], #[], []⟩).heap.modify 1 (setCells (cell3 Rows.laid_unicode_utf8_first).toArray)).modify 2 (setCells (cell3 Rows.laid_unicode_utf8_acceptRanges).toArray) }
def wArgs : Array Value := #[.slice none 0 0, .int .i64 0]
set_option maxRecDepth 100000 in
theorem laid_met (os : Os) : laidMet Tryd.prog Rows.storeApartUptoRow.laid ((laidWorld os).forCall (fun _ _ => 0) ⟨#[], wArgs, []⟩).memory :=
  laidMet_of_run3 8 (by kernel_rfl) (by kernel_rfl) (by kernel_rfl)
theorem reads (os : Os) {H : Type} (enc : TypeId × Value → H) : ∃ places, DataW.whole enc Tryd.prog ((laidWorld os).forCall (fun _ _ => 0) ⟨#[], wArgs, []⟩).memory Tryd.f4.params.toList Rows.storeApartSpec.vars false wArgs.toList 8 = some ([.nil, .lit (.int .i64 0)], [], places) :=
  ⟨[], by kernel_rfl⟩

set_option maxRecDepth 100000 in
theorem lifted (os : Os) (started : os.Started) (H : Type) (enc : TypeId × Value → H) (F : Stop.Interp) :
    ReturnsInHanded {} Tryd.checked os 4 .any ((Rows.OpenSpec.upto Rows.storeApartSpec).preRow enc Tryd.prog Tryd.f4 Rows.storeApartUptoRow.domain false Rows.storeApartUptoRow.laid) (((Rows.OpenSpec.upto Rows.storeApartSpec).at F).post enc Tryd.prog Tryd.f4 false true false false) := by
  obtain ⟨places, hx⟩ := reads os enc
  refine returnsInHanded_of_row (C := Tryd.checked) (s := Rows.OpenSpec.upto Rows.storeApartSpec) own started (by kernel_rfl) Tryd.func4
    (witness_row_at (enc := enc) (C := Tryd.checked) false (laidWorld os) wArgs rfl (by kernel_rfl) (by kernel_rfl) (by kernel_rfl)
      (OpenSpec.preRow_of_cond 8 hx (by kernel_rfl) (fun k hk => by cases hk; kernel_rfl) (by kernel_rfl) (laid_met os))) ?_
  intro W base args ds gs before hval hW _ hcond _ _ _ _
  exact contract H enc W base args ds gs before hval hW (hcond _ rfl)

theorem saidUpto : Rows.StoreApartUptoSaid :=
  OpenClaim.holds_of_cond 4 Tryd.f4 rfl rfl rfl rfl rfl rfl rfl ⟨rfl, rfl, rfl, rfl, rfl⟩ rfl rfl rfl rfl rfl (by kernel_rfl) Tryd.func4 (by kernel_rfl)
    (of_decide_eq_true (by kernel_rfl)) (by unfold Func.isWrapper; first | (rw [if_pos (by decide +kernel)]; kernel_rfl) | (rw [if_neg (by decide +kernel)]; exact ⟨rfl, rfl⟩))
    (fun os started H enc _ F => by rw [OpenClaim.pre_eq_preRow]; exact lifted os started H enc F)

theorem plain (f : FuncId) (fn : Func) (hf : Tryd.pinned.checked.prog.funcNamed "porter/porterlaw07.StoreApart" = some f) (hfn : Tryd.pinned.checked.prog.funcs[f]? = some fn) :
    false = Tryd.pinned.checked.prog.looks [] ∧ ∀ (j : Nat) t, fn.params[j]? = some t → Tryd.pinned.checked.prog.wantsStandIn t = false := by
  obtain rfl : f = 4 := Option.some.inj ((show Tryd.prog.funcNamed "porter/porterlaw07.StoreApart" = some 4 by kernel_rfl).symm.trans hf) |>.symm
  obtain rfl : fn = Tryd.f4 := (Option.some.inj (Tryd.func4.symm.trans hfn)).symm
  refine ⟨by kernel_rfl, fun j t ht => ?_⟩
  rw [Tryd.params4] at ht
  have hm : t = 22 ∨ t = 2 := by simpa using Array.mem_of_getElem? ht
  rcases hm with rfl | rfl
  · exact (show Tryd.prog.wantsStandIn 22 = false by kernel_rfl)
  · exact (show Tryd.prog.wantsStandIn 2 = false by kernel_rfl)

theorem card : Rows.StoreApartUptoCardSaid :=
  Claim7.holds_tied_plain_at .later [] _ _ _ _ saidUpto (fun _ h => by cases h) (by kernel_rfl) (fun _ h => by cases h) storeApartUpto_row_tie rfl ⟨rfl, rfl⟩ (by kernel_rfl) rfl plain (by kernel_rfl)
end Go.Proofs.YtelmbimmkdobaaaDoor.storeApart
namespace Go.Proofs.YtelmbimmkdobaaaDoor
/-- The card, under a short name, for the claim. -/
theorem storeApartUpto_holds : Rows.StoreApartUptoCardSaid := storeApart.card
end Go.Proofs.YtelmbimmkdobaaaDoor
