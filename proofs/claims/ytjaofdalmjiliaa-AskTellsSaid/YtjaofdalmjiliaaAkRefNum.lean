/-
  CONTRACTS OF bailiffref1.Num, Text AND PutValue that tell too: blocks of other types than bytes stay.
-/
import Derived.Test.YtjaofdalmjiliaaAkPutV
import Derived.Test.YtjaofdalmjiliaaAkCopied
import Derived.Lib.AppendStr
namespace Go.Proofs.Ytjaofdalmjiliaa
open Go.RowKit
set_option linter.unusedVariables false

/-- Blocks of other types than bytes stay. -/
def KeepTy (w w' : World) : Prop := w.heap.size ≤ w'.heap.size ∧ ∀ (k : Nat) (cs : Array Value) (t : TypeId) (fr : Nat × Nat), t ≠ 5 → w.heap[k]? = some (.cells cs t fr) → w'.heap[k]? = some (.cells cs t fr)
theorem KeepTy.refl (w : World) : KeepTy w w := ⟨Nat.le_refl _, fun _ _ _ _ _ h => h⟩
theorem KeepTy.trans {a b c : World} (h : KeepTy a b) (k : KeepTy b c) : KeepTy a c := ⟨Nat.le_trans h.1 k.1, fun i cs t fr ht hi => k.2 i cs t fr ht (h.2 i cs t fr ht hi)⟩
theorem KeepTy.alloc (w : World) (o : Obj) : KeepTy w (w.alloc o) := ⟨by simp, fun k cs t fr _ h => (heap_alloc_old w o (Array.getElem?_eq_some_iff.1 h).1).trans h⟩
theorem KeepTy.drew (w : World) : KeepTy w w.drew := ⟨Nat.le_refl _, fun _ _ _ _ _ h => h⟩
theorem keep_app {w w' : World} {B n size : Nat} {v : Value} {xs : List Value} (hown : w.ownsRow B 5 size v n xs) (hg : w.grownBy w' v.ownBlock) : KeepTy w w' := by
  refine ⟨hg.size, fun k cs t fr ht h => ?_⟩
  refine (hg.block k (Array.getElem?_eq_some_iff.1 h).1 ?_).trans h
  rcases hown.2 with ⟨rfl, _⟩ | ⟨g, cap, cur, rfl, _, hg2, _⟩
  · exact fun e => by cases e
  · intro e
    have e2 : k = g := Option.some.inj e
    subst e2
    rw [h] at hg2
    injection hg2 with hg2
    injection hg2 with _ e3 _
    exact ht e3
/-- Bytes behind those that are owned; blocks of other types stay. -/
def OwnK (B : Nat) (w : World) (l : List UInt8) (e : Ending) (w' : World) : Prop :=
  ∃ v, e = .returned v ∧ w'.ownsRow B 5 1 v l.length (vbytes l) ∧ Below B w w' ∧ KeepTy w w'
set_option maxHeartbeats 1000000 in
set_option maxRecDepth 20000 in
theorem refnumK_any (v : Value) (n : Nat) (k : Int) (l : List UInt8) (hn : l.length = n) (w : World) (B : Nat) (h1 : -9223372036854775808 ≤ k) (h2 : k ≤ 9223372036854775807) (hl : l.length ≤ 1000000000) (hB : B ≤ w.heap.size) (hown : w.ownsRow B 5 1 v n (vbytes l)) :
    Calls Try.prog 39 #[v, .int .i64 k] w (OwnK B w (l ++ numP k)) := by
  obtain ⟨i0, hi, hz0, hz1, hz2⟩ := info_parts infoB
  have Hi := hide hi
  have Hz0 := hide hz0
  have Hz1 := hide hz1
  have Hz2 := hide hz2
  clear hi hz0 hz1 hz2
  subst hn
  have HO := hide hown
  have HB := hide (Below.refl B w)
  have h10 := numP_10 k h1 h2
  have hzl : Hid (U64 (zz k)) := zz_lt k h1 h2
  have hT : (l ++ numP k).length ≤ 1000000010 := by rw [List.length_append]; omega
  obtain ⟨T, hTT⟩ : ∃ T, T = l ++ numP k := ⟨_, rfl⟩
  rw [← hTT] at hT ⊢
  have HT : Hid (l ++ vint (zz k) = T) := hide hTT.symm
  clear hTT
  clear h10 hl hown
  have fin : ∀ (u0 : Value), u0 = .int .u64 (zz k : Nat) → True := fun _ _ => trivial
  by_cases h0 : k < 0
  all_goals
    first | (have hz := zz_neg k h1 h0) | (have hz := zz_pos k (by omega))
    generalize zz k = z at hz HT hzl
    go_enter Try.func39, Try.ntmps39
    go_wp2
    go_loopw [0, 5] (fun v u wr => NumRel B w T u v wr ∧ KeepTy w wr) (fun _ u _ => (intOf u).toNat)
    case atStart => exact ⟨⟨z, l, rfl, hzl.out, HT.out, HO.out, HB.out⟩, KeepTy.refl w⟩
    case round =>
      clear hz hzl HT HO HB
      obtain ⟨⟨u', pre, rfl, hu', hpre, hown, hbel⟩, hkt⟩ := hrel
      have HKT := hide hkt
      clear hkt
      have hpl : pre.length + 1 ≤ T.length := by have := vint_pos u'; rw [← hpre, List.length_append]; omega
      have HU : Hid (U64 u') := hide hu'
      clear hu'
      by_cases hlt : u' < 128
      · have HP : Hid (pre ++ [UInt8.ofNat u'] = T) := by rw [vint_small hlt] at hpre; exact hpre
        have hby := hide (ofNat_toNat u' (by omega))
        have hvb : Hid (vbytes [UInt8.ofNat u'] = [.int .u8 (u' : Int)]) := by show [Value.int .u8 ((UInt8.ofNat u').toNat : Int)] = _; rw [hby.out]
        have HO2 := hide (one_vb [UInt8.ofNat u'])
        have HOW := hide hown
        have HBE := hide hbel
        have HV : Hid ((vbytes [UInt8.ofNat u']).length = 1 * 1) := rfl
        generalize hq : vbytes [UInt8.ofNat u'] = Q at hvb HO2 HV
        have HQ := hide hq
        have hown2 := HOW.out.alloc (.cells #[.int .u8 (u' : Int)] 5)
        have hc2 : Sl (wr.alloc (.cells #[.int .u8 (u' : Int)] 5)) (wr.heap.size + 1) (some ⟨wr.heap.size, 0, none⟩) Q := by rw [hvb.out]; exact Sl.laid wr _ _ _ _ rfl
        have hb2 := HBE.out.alloc (Nat.le_trans hB HBE.out.size) (.cells #[.int .u8 (u' : Int)] 5)
        clear hown hbel hpre hq
        go_wp2_with (at_builtin; refine wpList_app _ rfl (.tmp 23) (.tmp 26) 29 rfl B 5 i0 (.int .u8 0) 1 1 Try.underlying29 Hi.out Hz0.out Hz1.out Hz2.out rfl (by decide) _ pre.length _ rfl hown2 (wr.heap.size + 1) (some ⟨wr.heap.size, 0, none⟩) 1 1 Q rfl HV.out hc2 HO2.out (by unfold maxLen; omega) (by omega) (Nat.le_trans hB hb2.size) ?_; intro v3 w3 hown3 hg3 hat3; have hb3 : Below B w w3 := own_below hown2 hb2 hg3 (Nat.le_refl _) (Nat.le_trans hB hb2.size); have hk3 : KeepTy w w3 := (HKT.out.trans (KeepTy.alloc wr _)).trans (keep_app hown2 hg3))
        go_ret
        refine ⟨_, rfl, ?_, hb3, hk3⟩
        rw [← HP.out, vbytes_append, HQ.out, List.length_append]
        exact hown3
      · have HP : Hid ((pre ++ [UInt8.ofNat (u' % 128 + 128)]) ++ vint (u' / 128) = T) := by rw [vint_big hlt] at hpre; rw [List.append_assoc]; exact hpre
        have hby : (((UInt8.ofNat (u' % 128 + 128)).toNat : Nat) : Int) = (u' : Int) % 128 + 128 := by rw [ofNat_toNat (u' % 128 + 128) (by omega)]; omega
        have hvb : Hid (vbytes [UInt8.ofNat (u' % 128 + 128)] = [.int .u8 ((u' : Int) % 128 + 128)]) := hide (by show [Value.int .u8 ((UInt8.ofNat (u' % 128 + 128)).toNat : Int)] = _; rw [hby])
        have HO2 := hide (one_vb [UInt8.ofNat (u' % 128 + 128)])
        have HOW := hide hown
        have HBE := hide hbel
        have HV : Hid ((vbytes [UInt8.ofNat (u' % 128 + 128)]).length = 1 * 1) := rfl
        generalize hq : vbytes [UInt8.ofNat (u' % 128 + 128)] = Q at hvb HO2 HV
        have HQ := hide hq
        have b2 : bits .or .u8 ((u' : Int) % 256) 128 = (u' : Int) % 128 + 128 := by rw [show ((u' : Int) % 256) = ((u' % 256 : Nat) : Int) by omega, u8_or128 _ (by omega)]; omega
        have HU2 : Hid (U64 (u' / 128)) := hide (by have : u' < 18446744073709551616 := HU.out; show u' / 128 < 18446744073709551616; omega)
        have hown2 := HOW.out.alloc (.cells #[.int .u8 ((u' : Int) % 128 + 128)] 5)
        have hc2 : Sl (wr.alloc (.cells #[.int .u8 ((u' : Int) % 128 + 128)] 5)) (wr.heap.size + 1) (some ⟨wr.heap.size, 0, none⟩) Q := by rw [hvb.out]; exact Sl.laid wr _ _ _ _ rfl
        have hb2 := HBE.out.alloc (Nat.le_trans hB HBE.out.size) (.cells #[.int .u8 ((u' : Int) % 128 + 128)] 5)
        have hlt' : 128 ≤ u' := by omega
        clear hpre hq hby hown hbel hlt
        go_wp2_with (at_builtin; refine wpList_app _ rfl (.tmp 15) (.tmp 19) 29 rfl B 5 i0 (.int .u8 0) 1 1 Try.underlying29 Hi.out Hz0.out Hz1.out Hz2.out rfl (by decide) _ pre.length _ rfl hown2 (wr.heap.size + 1) (some ⟨wr.heap.size, 0, none⟩) 1 1 Q rfl HV.out hc2 HO2.out (by unfold maxLen; omega) (by omega) (Nat.le_trans hB hb2.size) ?_; intro v3 w3 hown3 hg3 hat3; have hb3 : Below B w w3 := own_below hown2 hb2 hg3 (Nat.le_refl _) (Nat.le_trans hB hb2.size); have hk3 : KeepTy w w3 := (HKT.out.trans (KeepTy.alloc wr _)).trans (keep_app hown2 hg3))
        go_roundw
        case rel => exact ⟨⟨u' / 128, pre ++ [UInt8.ofNat (u' % 128 + 128)], by go_num, HU2.out, HP.out, by rw [vbytes_append, HQ.out, List.length_append]; exact hown3, hb3⟩, hk3⟩
        case measure => simp [intOf]; omega
theorem reftextK_any (v : Value) (n : Nat) (s : ByteArray) (l : List UInt8) (hn : l.length = n) (w : World) (B : Nat) (hsz : s.size ≤ 1000000000) (hl : l.length ≤ 1000000000) (hB : B ≤ w.heap.size) (hown : w.ownsRow B 5 1 v n (vbytes l)) :
    Calls Try.prog 40 #[v, .string s] w (OwnK B w (l ++ textP s.data.toList)) := by
  obtain ⟨i0, hi, hz0, hz1, hz2⟩ := info_parts infoB
  have Hi := hide hi
  have Hz0 := hide hz0
  have Hz1 := hide hz1
  have Hz2 := hide hz2
  clear hi hz0 hz1 hz2
  have hln : s.data.toList.length = s.size := by rw [Array.length_toList]; rfl
  have hC := refnumK_any v n (s.size : Int) l hn w B (by omega) (by omega) hl hB hown
  have hT : Hid (l ++ textP s.data.toList = (l ++ numP (s.size : Int)) ++ s.data.toList) := hide (by unfold textP; rw [hln, List.append_assoc])
  have h10 := numP_10 (s.size : Int) (by omega) (by omega)
  have hTl : (l ++ numP (s.size : Int)).length ≤ 1000000010 := by rw [List.length_append]; omega
  generalize l ++ numP (s.size : Int) = T at *
  generalize l ++ textP s.data.toList = R at *
  have HC := hide hC
  have HL := hide hln
  clear hC h10 hl hown hn hln
  go_enter Try.func40, Try.ntmps40
  go_wp2_with fail
  refine HC.out.mono ?_
  rintro e w1 ⟨v', rfl, hown, hb1, hk1⟩
  have HK1 := hide hk1
  clear hk1
  have HO := hide hown
  have HB := hide hb1
  clear hown hb1 HC
  go_wp2_with (at_builtin; refine Lib.wpList_append_own_string _ rfl (.tmp 8) (.tmp 9) 29 9 rfl B 5 i0 Try.underlying29 Try.underlying9 Hi.out Hz0.out Hz1.out Hz2.out v' T.length (vbytes T) rfl HO.out s rfl (by unfold maxLen; omega) (by omega) (Nat.le_trans hB HB.out.size) ?_; intro v3 w3 hown3 hg3 _; have hb3 : Below B w w3 := own_below HO.out HB.out hg3 (Nat.le_refl _) (Nat.le_trans hB HB.out.size); have hk3 : KeepTy w w3 := HK1.out.trans (keep_app HO.out hg3))
  go_ret
  refine ⟨_, rfl, ?_, hb3, hk3⟩
  rw [hT.out, vbytes_append, List.length_append, HL.out]
  exact hown3
/-- The document's PutValue. -/
theorem box_keep {w0 w w' : World} {b : Nat} {x y z : Value} {t : TypeId} (h : w.heap[b]? = some (.cells #[x, y, z] t (0, 0))) (ht : t ≠ 5) (hk : KeepTy w w') : w'.cell? ⟨b, 0, none⟩ = some x ∧ w'.cell? ⟨b, 1, none⟩ = some y ∧ w'.cell? ⟨b, 2, none⟩ = some z :=
  box_cells (hk.2 b _ t _ ht h)
set_option maxHeartbeats 1000000 in
theorem refputvK_any (v0 : Value) (n : Nat) (v : V3) (hv : SmallV v) (l : List UInt8) (hn : l.length = n) (w : World) (B : Nat) (hl : l.length ≤ 100000000) (hB : B ≤ w.heap.size) (hown : w.ownsRow B 5 1 v0 n (vbytes l)) :
    Calls Try.prog 41 #[v0, .agg #[.int .i64 v.1, .int .i64 v.2.1, .string v.2.2]] w (OwnK B w (l ++ valP v)) := by
  have hb0 := below_new w (.cells #[.int .i64 v.1, .int .i64 v.2.1, .string v.2.2] 35)
  have hB0 : B ≤ (w.alloc (.cells #[.int .i64 v.1, .int .i64 v.2.1, .string v.2.2] 35)).heap.size := Nat.le_trans hB hb0.size
  have HN := hide (refnumK_any v0 n v.1 l hn _ B hv.1.1 hv.1.2 (by omega) hB0 (hown.alloc (.cells #[.int .i64 v.1, .int .i64 v.2.1, .string v.2.2] 35)))
  have HG0 := hide (heap_alloc_new w (.cells #[.int .i64 v.1, .int .i64 v.2.1, .string v.2.2] 35))
  have HB0 : Hid (Below B w (w.alloc (.cells #[.int .i64 v.1, .int .i64 v.2.1, .string v.2.2] 35))) := hide (hb0.mono hB)
  have HK0 := hide (KeepTy.alloc w (.cells #[.int .i64 v.1, .int .i64 v.2.1, .string v.2.2] 35))
  have HV := hide hv
  have h10 := numP_10 v.1 hv.1.1 hv.1.2
  have HLL : Hid ((l ++ numP v.1).length ≤ 100000010) := hide (by rw [List.length_append]; omega)
  clear hown hn hl hb0 hv h10 hB0
  by_cases ht : v.1 = 3 ∨ v.1 = 5
  · have HE : Hid (l ++ valP v = (l ++ numP v.1) ++ textP v.2.2.data.toList) := hide (by rw [valP_text ht, List.append_assoc])
    generalize l ++ numP v.1 = T at *
    generalize l ++ valP v = R at *
    obtain ⟨v1, v2, v3⟩ := v
    simp only at ht HE HN HG0 HB0 HK0
    have HTT := hide ht
    clear ht
    go_enter Try.func41, Try.ntmps41
    go_wp2_with fail
    refine HN.out.mono ?_
    rintro e w1 ⟨u, rfl, hown1, hb1, hk1⟩
    obtain ⟨y0, y1, y2⟩ := box_keep (w0 := w) HG0.out (by decide) hk1
    have HB1 := hide (HB0.out.trans hb1)
    have HK1 := hide (HK0.out.trans hk1)
    have HX := hide (reftextK_any u T.length v3 T rfl w1 B (by have := HV.out.2.2; simp only at this; omega) (by have := HLL.out; omega) (Nat.le_trans hB HB1.out.size) hown1)
    clear HN hown1 hb1 hk1
    by_cases h3 : v1 = 3
    · have d3 : (v1 == 3) = true := beq_iff_eq.2 h3
      clear h3
      go_wp2_with fail
      refine HX.out.mono ?_
      rintro e w2 ⟨u2, rfl, hown2, hb2, hk2⟩
      have HO := hide hown2
      have HB2 := hide (HB1.out.trans hb2)
      have HK2 := hide (HK1.out.trans hk2)
      clear HX hown2 hb2 hk2
      go_wp2
      go_ret
      exact ⟨_, rfl, by rw [HE.out]; exact HO.out, HB2.out, HK2.out⟩
    · have d3 : (v1 == 3) = false := beq_eq_false_iff_ne.2 h3
      have d5 : (v1 == 5) = true := beq_iff_eq.2 (by have := HTT.out; omega)
      clear h3
      go_wp2_with fail
      refine HX.out.mono ?_
      rintro e w2 ⟨u2, rfl, hown2, hb2, hk2⟩
      have HO := hide hown2
      have HB2 := hide (HB1.out.trans hb2)
      have HK2 := hide (HK1.out.trans hk2)
      clear HX hown2 hb2 hk2
      go_wp2
      go_ret
      exact ⟨_, rfl, by rw [HE.out]; exact HO.out, HB2.out, HK2.out⟩
  · have HE : Hid (l ++ valP v = (l ++ numP v.1) ++ numP v.2.1) := hide (by rw [valP_num ht, List.append_assoc])
    generalize l ++ numP v.1 = T at *
    generalize l ++ valP v = R at *
    obtain ⟨v1, v2, v3⟩ := v
    simp only at ht HE HN HG0 HB0 HK0
    have d3 : (v1 == 3) = false := beq_eq_false_iff_ne.2 (by omega)
    have d5 : (v1 == 5) = false := beq_eq_false_iff_ne.2 (by omega)
    clear ht
    go_enter Try.func41, Try.ntmps41
    go_wp2_with fail
    refine HN.out.mono ?_
    rintro e w1 ⟨u, rfl, hown1, hb1, hk1⟩
    obtain ⟨y0, y1, y2⟩ := box_keep (w0 := w) HG0.out (by decide) hk1
    have HB1 := hide (HB0.out.trans hb1)
    have HK1 := hide (HK0.out.trans hk1)
    have HX := hide (refnumK_any u T.length v2 T rfl w1 B HV.out.2.1.1 HV.out.2.1.2 (by have := HLL.out; omega) (Nat.le_trans hB HB1.out.size) hown1)
    clear HN hown1 hb1 hk1
    go_wp2_with fail
    refine HX.out.mono ?_
    rintro e w2 ⟨u2, rfl, hown2, hb2, hk2⟩
    have HO := hide hown2
    have HB2 := hide (HB1.out.trans hb2)
    have HK2 := hide (HK1.out.trans hk2)
    clear HX hown2 hb2 hk2
    go_wp2
    go_ret
    exact ⟨_, rfl, by rw [HE.out]; exact HO.out, HB2.out, HK2.out⟩
end Go.Proofs.Ytjaofdalmjiliaa
