/-
  CONTRACTS OF pack.Num AND bailiffref1.Num.
-/
import Derived.Test.YtjaofdalmjiliaaPkNum
namespace Go.Proofs.Ytjaofdalmjiliaa
open Go.RowKit
set_option linter.unusedVariables false

def U64 (u : Nat) : Prop := u < 18446744073709551616
/-- So much of the target is laid, so much is still in the number. -/
def NumRel (B : Nat) (w : World) (T : List UInt8) (u v : Value) (wr : World) : Prop :=
  ∃ (u' : Nat) (pre : List UInt8), u = .int .u64 u' ∧ U64 u' ∧ pre ++ vint u' = T ∧ wr.ownsRow B 5 1 v pre.length (vbytes pre) ∧ Below B w wr
set_option maxHeartbeats 1000000 in
set_option maxRecDepth 20000 in
theorem num_any (a : Option Addr) (c n : Nat) (k : Int) (l : List UInt8) (hn : l.length = n) (w : World) (h1 : -9223372036854775808 ≤ k) (h2 : k ≤ 9223372036854775807) (hl : l.length ≤ 1000000000) (hs : Sl w w.heap.size a (vbytes l)) :
    Calls Try.prog 30 #[.slice a n c, .int .i64 k] w (BytesPost w (l ++ numP k)) := by
  obtain ⟨i0, hi, hz0, hz1, hz2⟩ := info_parts infoB
  have Hi := hide hi
  have Hz0 := hide hz0
  have Hz1 := hide hz1
  have Hz2 := hide hz2
  clear hi hz0 hz1 hz2
  have hC := hide (clone_any a c n l hn w (by omega) hs)
  have h10 := numP_10 k h1 h2
  have hzl : Hid (U64 (zz k)) := zz_lt k h1 h2
  have hT : (l ++ numP k).length ≤ 1000000010 := by rw [List.length_append]; omega
  obtain ⟨T, hTT⟩ : ∃ T, T = l ++ numP k := ⟨_, rfl⟩
  rw [← hTT] at hT ⊢
  have HT : Hid (l ++ vint (zz k) = T) := hide hTT.symm
  clear hTT
  clear hs h10 hn hl
  have fin : ∀ (u0 : Value), u0 = .int .u64 (zz k : Nat) → True := fun _ _ => trivial
  by_cases h0 : k < 0
  all_goals
    first | (have hz := zz_neg k h1 h0) | (have hz := zz_pos k (by omega))
    generalize zz k = z at hz HT hzl
    go_enter Try.func30, Try.ntmps30
    go_wp2_with fail
    refine hC.out.mono ?_
    rintro e w1 ⟨v, rfl, hown, hb1⟩
    have HO := hide hown
    have HB := hide hb1
    clear hown hb1
    go_wp2
    go_loopw [5, 6] (fun u v wr => NumRel w.heap.size w T u v wr) (fun u _ _ => (intOf u).toNat)
    case atStart => exact ⟨z, l, rfl, hzl.out, HT.out, HO.out, HB.out⟩
    case round =>
      clear hz hzl HT HO HB hC
      obtain ⟨u', pre, rfl, hu', hpre, hown, hbel⟩ := hrel
      have hpl : pre.length + 1 ≤ T.length := by have := vint_pos u'; rw [← hpre, List.length_append]; omega
      have HU : Hid (U64 u') := hide hu'
      clear hu'
      by_cases hlt : u' < 128
      · have HP : Hid (pre ++ [UInt8.ofNat u'] = T) := by rw [vint_small hlt] at hpre; exact hpre
        have hby := hide (ofNat_toNat u' (by omega))
        have hvb : Hid (vbytes [UInt8.ofNat u'] = [.int .u8 (u' : Int)]) := by show [Value.int .u8 ((UInt8.ofNat u').toNat : Int)] = _; rw [hby.out]
        have HO2 := hide (one_vb [UInt8.ofNat u'])
        have HOW := hide hown
        have HBE := hide hbel
        have HV : Hid ((vbytes [UInt8.ofNat u']).length = 1 * 1) := rfl
        generalize hq : vbytes [UInt8.ofNat u'] = Q at hvb HO2 HV
        have HQ := hide hq
        have hown2 := HOW.out.alloc (.cells #[.int .u8 (u' : Int)] 5)
        have hc2 : Sl (wr.alloc (.cells #[.int .u8 (u' : Int)] 5)) (wr.heap.size + 1) (some ⟨wr.heap.size, 0, none⟩) Q := by rw [hvb.out]; exact Sl.laid wr _ _ _ _ rfl
        have hb2 := HBE.out.alloc HBE.out.size (.cells #[.int .u8 (u' : Int)] 5)
        clear hown hbel hpre hq
        go_wp2_with (at_builtin; refine wpList_app _ rfl (.tmp 27) (.tmp 30) 29 rfl w.heap.size 5 i0 (.int .u8 0) 1 1 Try.underlying29 Hi.out Hz0.out Hz1.out Hz2.out rfl (by decide) _ pre.length _ rfl hown2 (wr.heap.size + 1) (some ⟨wr.heap.size, 0, none⟩) 1 1 Q rfl HV.out hc2 HO2.out (by unfold maxLen; omega) (by omega) hb2.size ?_; intro v3 w3 hown3 hg3 hat3; have hb3 : Below w.heap.size w w3 := own_below hown2 hb2 hg3 (Nat.le_refl _) hb2.size)
        go_ret
        refine ⟨_, rfl, ?_, hb3⟩
        rw [← HP.out, vbytes_append, HQ.out, List.length_append]
        exact hown3
      · have HP : Hid ((pre ++ [UInt8.ofNat (u' % 128 + 128)]) ++ vint (u' / 128) = T) := by rw [vint_big hlt] at hpre; rw [List.append_assoc]; exact hpre
        have hby : (((UInt8.ofNat (u' % 128 + 128)).toNat : Nat) : Int) = (u' : Int) % 128 + 128 := by rw [ofNat_toNat (u' % 128 + 128) (by omega)]; omega
        have hvb : Hid (vbytes [UInt8.ofNat (u' % 128 + 128)] = [.int .u8 ((u' : Int) % 128 + 128)]) := hide (by show [Value.int .u8 ((UInt8.ofNat (u' % 128 + 128)).toNat : Int)] = _; rw [hby])
        have HO2 := hide (one_vb [UInt8.ofNat (u' % 128 + 128)])
        have HOW := hide hown
        have HBE := hide hbel
        have HV : Hid ((vbytes [UInt8.ofNat (u' % 128 + 128)]).length = 1 * 1) := rfl
        generalize hq : vbytes [UInt8.ofNat (u' % 128 + 128)] = Q at hvb HO2 HV
        have HQ := hide hq
        have b1 : bits .and .u64 (u' : Int) 127 = (u' : Int) % 128 := by rw [u64_and127 u' HU.out]; omega
        have b2 : bits .or .u64 ((u' : Int) % 128) 128 = (u' : Int) % 128 + 128 := by rw [show ((u' : Int) % 128) = ((u' % 128 : Nat) : Int) by omega, u64_or128 _ (by omega)]; omega
        have b3 : ((u' : Int) % 128 + 128) % 256 = (u' : Int) % 128 + 128 := by omega
        have HU2 : Hid (U64 (u' / 128)) := hide (by have : u' < 18446744073709551616 := HU.out; show u' / 128 < 18446744073709551616; omega)
        have hown2 := HOW.out.alloc (.cells #[.int .u8 ((u' : Int) % 128 + 128)] 5)
        have hc2 : Sl (wr.alloc (.cells #[.int .u8 ((u' : Int) % 128 + 128)] 5)) (wr.heap.size + 1) (some ⟨wr.heap.size, 0, none⟩) Q := by rw [hvb.out]; exact Sl.laid wr _ _ _ _ rfl
        have hb2 := HBE.out.alloc HBE.out.size (.cells #[.int .u8 ((u' : Int) % 128 + 128)] 5)
        have hlt' : 128 ≤ u' := by omega
        clear hpre hq hby hown hbel hlt
        go_wp2_with (at_builtin; refine wpList_app _ rfl (.tmp 20) (.tmp 25) 29 rfl w.heap.size 5 i0 (.int .u8 0) 1 1 Try.underlying29 Hi.out Hz0.out Hz1.out Hz2.out rfl (by decide) _ pre.length _ rfl hown2 (wr.heap.size + 1) (some ⟨wr.heap.size, 0, none⟩) 1 1 Q rfl HV.out hc2 HO2.out (by unfold maxLen; omega) (by omega) hb2.size ?_; intro v3 w3 hown3 hg3 hat3; have hb3 : Below w.heap.size w w3 := own_below hown2 hb2 hg3 (Nat.le_refl _) hb2.size)
        go_roundw
        case rel => exact ⟨u' / 128, pre ++ [UInt8.ofNat (u' % 128 + 128)], by go_num, HU2.out, HP.out, by rw [vbytes_append, HQ.out, List.length_append]; exact hown3, hb3⟩
        case measure => simp [intOf]; omega
end Go.Proofs.Ytjaofdalmjiliaa
