/-
  CONTRACT OF bailiffref1.Num.
-/
import Derived.Test.YtjaofdalmjiliaaPkNum2
namespace Go.Proofs.Ytjaofdalmjiliaa
open Go.RowKit
set_option linter.unusedVariables false

set_option maxHeartbeats 1000000 in
set_option maxRecDepth 20000 in
theorem refnum_any (v : Value) (n : Nat) (k : Int) (l : List UInt8) (hn : l.length = n) (w : World) (B : Nat) (h1 : -9223372036854775808 ≤ k) (h2 : k ≤ 9223372036854775807) (hl : l.length ≤ 1000000000) (hB : B ≤ w.heap.size) (hown : w.ownsRow B 5 1 v n (vbytes l)) :
    Calls Try.prog 39 #[v, .int .i64 k] w (OwnPost B w (l ++ numP k)) := by
  obtain ⟨i0, hi, hz0, hz1, hz2⟩ := info_parts infoB
  have Hi := hide hi
  have Hz0 := hide hz0
  have Hz1 := hide hz1
  have Hz2 := hide hz2
  clear hi hz0 hz1 hz2
  subst hn
  have HO := hide hown
  have HB := hide (Below.refl B w)
  have h10 := numP_10 k h1 h2
  have hzl : Hid (U64 (zz k)) := zz_lt k h1 h2
  have hT : (l ++ numP k).length ≤ 1000000010 := by rw [List.length_append]; omega
  obtain ⟨T, hTT⟩ : ∃ T, T = l ++ numP k := ⟨_, rfl⟩
  rw [← hTT] at hT ⊢
  have HT : Hid (l ++ vint (zz k) = T) := hide hTT.symm
  clear hTT
  clear h10 hl hown
  have fin : ∀ (u0 : Value), u0 = .int .u64 (zz k : Nat) → True := fun _ _ => trivial
  by_cases h0 : k < 0
  all_goals
    first | (have hz := zz_neg k h1 h0) | (have hz := zz_pos k (by omega))
    generalize zz k = z at hz HT hzl
    go_enter Try.func39, Try.ntmps39
    go_wp2
    go_loopw [0, 5] (fun v u wr => NumRel B w T u v wr) (fun _ u _ => (intOf u).toNat)
    case atStart => exact ⟨z, l, rfl, hzl.out, HT.out, HO.out, HB.out⟩
    case round =>
      clear hz hzl HT HO HB
      obtain ⟨u', pre, rfl, hu', hpre, hown, hbel⟩ := hrel
      have hpl : pre.length + 1 ≤ T.length := by have := vint_pos u'; rw [← hpre, List.length_append]; omega
      have HU : Hid (U64 u') := hide hu'
      clear hu'
      by_cases hlt : u' < 128
      · have HP : Hid (pre ++ [UInt8.ofNat u'] = T) := by rw [vint_small hlt] at hpre; exact hpre
        have hby := hide (ofNat_toNat u' (by omega))
        have hvb : Hid (vbytes [UInt8.ofNat u'] = [.int .u8 (u' : Int)]) := by show [Value.int .u8 ((UInt8.ofNat u').toNat : Int)] = _; rw [hby.out]
        have HO2 := hide (one_vb [UInt8.ofNat u'])
        have HOW := hide hown
        have HBE := hide hbel
        have HV : Hid ((vbytes [UInt8.ofNat u']).length = 1 * 1) := rfl
        generalize hq : vbytes [UInt8.ofNat u'] = Q at hvb HO2 HV
        have HQ := hide hq
        have hown2 := HOW.out.alloc (.cells #[.int .u8 (u' : Int)] 5)
        have hc2 : Sl (wr.alloc (.cells #[.int .u8 (u' : Int)] 5)) (wr.heap.size + 1) (some ⟨wr.heap.size, 0, none⟩) Q := by rw [hvb.out]; exact Sl.laid wr _ _ _ _ rfl
        have hb2 := HBE.out.alloc (Nat.le_trans hB HBE.out.size) (.cells #[.int .u8 (u' : Int)] 5)
        clear hown hbel hpre hq
        go_wp2_with (at_builtin; refine wpList_app _ rfl (.tmp 23) (.tmp 26) 29 rfl B 5 i0 (.int .u8 0) 1 1 Try.underlying29 Hi.out Hz0.out Hz1.out Hz2.out rfl (by decide) _ pre.length _ rfl hown2 (wr.heap.size + 1) (some ⟨wr.heap.size, 0, none⟩) 1 1 Q rfl HV.out hc2 HO2.out (by unfold maxLen; omega) (by omega) (Nat.le_trans hB hb2.size) ?_; intro v3 w3 hown3 hg3 hat3; have hb3 : Below B w w3 := own_below hown2 hb2 hg3 (Nat.le_refl _) (Nat.le_trans hB hb2.size))
        go_ret
        refine ⟨_, rfl, ?_, hb3⟩
        rw [← HP.out, vbytes_append, HQ.out, List.length_append]
        exact hown3
      · have HP : Hid ((pre ++ [UInt8.ofNat (u' % 128 + 128)]) ++ vint (u' / 128) = T) := by rw [vint_big hlt] at hpre; rw [List.append_assoc]; exact hpre
        have hby : (((UInt8.ofNat (u' % 128 + 128)).toNat : Nat) : Int) = (u' : Int) % 128 + 128 := by rw [ofNat_toNat (u' % 128 + 128) (by omega)]; omega
        have hvb : Hid (vbytes [UInt8.ofNat (u' % 128 + 128)] = [.int .u8 ((u' : Int) % 128 + 128)]) := hide (by show [Value.int .u8 ((UInt8.ofNat (u' % 128 + 128)).toNat : Int)] = _; rw [hby])
        have HO2 := hide (one_vb [UInt8.ofNat (u' % 128 + 128)])
        have HOW := hide hown
        have HBE := hide hbel
        have HV : Hid ((vbytes [UInt8.ofNat (u' % 128 + 128)]).length = 1 * 1) := rfl
        generalize hq : vbytes [UInt8.ofNat (u' % 128 + 128)] = Q at hvb HO2 HV
        have HQ := hide hq
        have b2 : bits .or .u8 ((u' : Int) % 256) 128 = (u' : Int) % 128 + 128 := by rw [show ((u' : Int) % 256) = ((u' % 256 : Nat) : Int) by omega, u8_or128 _ (by omega)]; omega
        have HU2 : Hid (U64 (u' / 128)) := hide (by have : u' < 18446744073709551616 := HU.out; show u' / 128 < 18446744073709551616; omega)
        have hown2 := HOW.out.alloc (.cells #[.int .u8 ((u' : Int) % 128 + 128)] 5)
        have hc2 : Sl (wr.alloc (.cells #[.int .u8 ((u' : Int) % 128 + 128)] 5)) (wr.heap.size + 1) (some ⟨wr.heap.size, 0, none⟩) Q := by rw [hvb.out]; exact Sl.laid wr _ _ _ _ rfl
        have hb2 := HBE.out.alloc (Nat.le_trans hB HBE.out.size) (.cells #[.int .u8 ((u' : Int) % 128 + 128)] 5)
        have hlt' : 128 ≤ u' := by omega
        clear hpre hq hby hown hbel hlt
        go_wp2_with (at_builtin; refine wpList_app _ rfl (.tmp 15) (.tmp 19) 29 rfl B 5 i0 (.int .u8 0) 1 1 Try.underlying29 Hi.out Hz0.out Hz1.out Hz2.out rfl (by decide) _ pre.length _ rfl hown2 (wr.heap.size + 1) (some ⟨wr.heap.size, 0, none⟩) 1 1 Q rfl HV.out hc2 HO2.out (by unfold maxLen; omega) (by omega) (Nat.le_trans hB hb2.size) ?_; intro v3 w3 hown3 hg3 hat3; have hb3 : Below B w w3 := own_below hown2 hb2 hg3 (Nat.le_refl _) (Nat.le_trans hB hb2.size))
        go_roundw
        case rel => exact ⟨u' / 128, pre ++ [UInt8.ofNat (u' % 128 + 128)], by go_num, HU2.out, HP.out, by rw [vbytes_append, HQ.out, List.length_append]; exact hown3, hb3⟩
        case measure => simp [intOf]; omega
end Go.Proofs.Ytjaofdalmjiliaa
