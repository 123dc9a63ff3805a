/-
  THE WALK OF bailifflaw1.PackWrites: it returns true; only new memory is laid.
-/
import Derived.Test.YtinlnfhicnejmaaPkApartW
namespace Go.Proofs.Ytinlnfhicnejmaa
open Go.RowKit
set_option linter.unusedVariables false

/-- 'append([]byte{}, b...)' in new memory. -/
theorem wpList_fresh {ops : Array Oper} {rest : List Oper} {o : Oper} {a : Act} {Q : Exit → Act → World → Prop} {w0 : World} (hw : Region.wanted o (yielded ops a.tmps) = true) (s x : Operand)
    (ho : o.op = .call { callee := .builtin .append, args := #[s, x], argTypes := #[24, 24] }) (hs : a.eval s = .slice (some ⟨w0.heap.size, 0, none⟩) 0 0) (A : Option Addr) (m c : Nat) (l : List UInt8) (hx : a.eval x = .slice A m c) (hl : l.length = m)
    (hr : Sl w0 w0.heap.size A (vbytes l)) (hm : m ≤ 1000000000)
    (h : ∀ v' w', w'.ownsRow w0.heap.size 5 1 v' m (vbytes l) → Below w0.heap.size w0 w' → wpList Try.prog ops Q rest (a.put o.dst v') w') : wpList Try.prog ops Q (o :: rest) a (w0.alloc (.cells #[] 5)) := by
  obtain ⟨i0, hi, hz0, hz1, hz2⟩ := info_parts infoB
  have hown0 : (w0.alloc (.cells #[] 5)).ownsRow w0.heap.size 5 1 (.slice (some ⟨w0.heap.size, 0, none⟩) 0 0) 0 [] := World.ownsRow_made w0 #[] 0 (Nat.le_refl _) (by simp [maxLen]) rfl
  have hb0 := below_new w0 (.cells #[] 5)
  refine BigFrame.wpList_want hw fun K hK => wp_app _ s x 24 ho w0.heap.size 5 i0 (.int .u8 0) 1 1 Try.underlying24 hi hz0 hz1 hz2 rfl (by decide) _ 0 [] hs hown0 w0.heap.size A m c (vbytes l) hx (by rw [vbytes_length, hl, Nat.mul_one]) (hr.below hb0) (one_vb l) (by unfold maxLen; omega) (by omega) (by simp) fun v' w' h2 h3 h4 => hK _ _ (h v' w' ?_ ?_)
  · rwa [Nat.zero_add, List.nil_append] at h2
  · exact own_below hown0 hb0 h3 (Nat.le_refl _) (by simp)
theorem less_40 (p : Nat) (P : Program) (ts : Array TypeId) (t : TypeId) (w : World) : (Builtin.min_ ts t #[.int .i64 (p : Int), .int .i64 40]).run P w = .ok (.int .i64 ((min p 40 : Nat) : Int)) w := less_nat p 40 P ts t w
theorem less_200 (p : Nat) (P : Program) (ts : Array TypeId) (t : TypeId) (w : World) : (Builtin.min_ ts t #[.int .i64 (p : Int), .int .i64 200]).run P w = .ok (.int .i64 ((min p 200 : Nat) : Int)) w := less_nat p 200 P ts t w
set_option maxHeartbeats 1000000 in
theorem packWrites_walk (a0 : Option Addr) (cap0 : Nat) (l0 : List UInt8) (n1 : Int) (t2 : ByteArray) (w : World) (hl0 : l0.length ≤ cap0) (hm0 : cap0 ≤ maxLen) (s0 : Sl w w.heap.size a0 (vbytes l0)) (lo1 : -9223372036854775808 ≤ n1) (hi1 : n1 ≤ 9223372036854775807) (ht2 : t2.size ≤ maxLen) :
    Calls Try.prog 4 #[.slice a0 l0.length cap0, .int .i64 n1, .string t2] w fun e w' => e = .returned (.bool true) ∧ Below w.heap.size w w' := by
  unfold maxLen at hm0
  have m1 := less_40 l0.length Try.prog
  have m2 := less_200 t2.size Try.prog
  have k1 : min l0.length 40 ≤ l0.length := Nat.min_le_left _ _
  have k2 : min t2.size 200 ≤ t2.size := Nat.min_le_left _ _
  have k1' : min l0.length 40 ≤ 40 := Nat.min_le_right _ _
  have k2' : min t2.size 200 ≤ 200 := Nat.min_le_right _ _
  have hsl := s0.takeBytes (min l0.length 40)
  have hln : (l0.take (min l0.length 40)).length = min l0.length 40 := take_len _ _ k1
  generalize min t2.size 200 = c2 at *
  generalize min l0.length 40 = c0 at *
  have z2 : (t2.extract 0 c2).size ≤ 200 := by rw [ByteArray.size_extract]; omega
  generalize hs2 : t2.extract 0 c2 = s2 at *
  generalize l0.take c0 = l at *
  have l2 := bytes_len s2
  have h10 := numP_10 n1 lo1 hi1
  have ht10 : (textP s2.data.toList).length ≤ 210 := by unfold textP; rw [List.length_append]; have := numP_10 (s2.data.toList.length : Int) (by omega) (by omega); omega
  have LT : Hid ((l ++ numP n1).length ≤ 100) := hide (by rw [List.length_append]; omega)
  have LX : Hid ((l ++ textP s2.data.toList).length ≤ 300) := hide (by rw [List.length_append]; omega)
  have HN := hide (fun a c n hn w hs => num_any a c n n1 l hn w lo1 hi1 (by omega) hs)
  have HM := hide (fun v n hn w B hB hown => refnum_any v n n1 l hn w B lo1 hi1 (by omega) hB hown)
  have HX := hide (fun a c n hn w hs => text_any a c n s2 l hn w (by omega) (by omega) hs)
  have HY := hide (fun v n hn w B hB hown => reftext_any v n s2 l hn w B (by omega) (by omega) hB hown)
  generalize l ++ numP n1 = T at *
  generalize l ++ textP s2.data.toList = X at *
  have LN := hide hln
  have HSL := hide hsl
  have i1 : (0 : Int) ≤ (c0 : Int) := by omega
  have i2 : (c0 : Int) ≤ (cap0 : Int) := by omega
  have hc0 : c0 ≤ cap0 := by omega
  clear s0 hsl hln ht2 l2 h10 ht10 z2 lo1 hi1
  go_enter Try.func4, Try.ntmps4
  go_wp2
  go_quiet (fail)
  have HD := hide (below_drawn (Below.refl w.heap.size w) ⟨nq, rfl⟩)
  have HSL1 := hide (sl_on HSL.out (below_drawn (Below.refl w.heap.size w) ⟨nq, rfl⟩))
  generalize w.drewN nq = w1 at HD HSL1 ⊢
  clear HSL
  go_wp2_with fail
  refine (roomy_any a0 cap0 c0 l LN.out 7 w1 (by rw [LN.out]; omega) HSL1.out).mono ?_
  rintro e w2 ⟨rfl, rfl⟩
  have HB2 := hide (below_on HD.out (below_new w1 (.cells (vbytes (roomy l 7)).toArray 5)))
  have hr := Sl.laid w1 (vbytes (roomy l 7)).toArray 5 (0, 0) (vbytes (roomy l 7)) rfl
  have hr2 := hr.takeBytes l.length
  rw [roomy_take] at hr2
  have HSL2 := hide (sl_on HSL1.out (below_new w1 (.cells (vbytes (roomy l 7)).toArray 5)))
  rw [← size_new w1 (.cells (vbytes (roomy l 7)).toArray 5)] at hr hr2
  have HR := hide hr
  have HR2 := hide hr2
  clear hr hr2 HD HSL1
  generalize w1.alloc (.cells (vbytes (roomy l 7)).toArray 5) = w2 at *
  generalize w1.heap.size = b1 at *
  have i3 : (c0 : Int) ≤ (c0 : Int) + 80 := by omega
  go_wp2_with fail
  refine (HN.out (some ⟨b1, 0, none⟩) (c0 + 80) c0 LN.out w2 HR2.out).mono ?_
  rintro e w3 ⟨v, rfl, hown, hb⟩
  obtain ⟨aA, cA, rfl, hcA, hsA⟩ := own_sl hown
  have HB3 := hide (below_on HB2.out hb)
  have HR3 := hide (sl_on HR.out hb)
  have HR23 := hide (sl_on HR2.out hb)
  have HSL3 := hide (sl_on HSL2.out hb)
  have HSA := hide hsA
  clear hown hb hsA HR HR2 HSL2 HB2
  go_wp2_with (at_builtin; refine wpList_fresh (w0 := w3) rfl (.tmp 28) (.tmp 29) rfl rfl a0 c0 cap0 l rfl LN.out HSL3.out (by omega) ?_; intro v4 w4 hown4 hb4)
  refine (HM.out v4 c0 LN.out w4 w3.heap.size hb4.size hown4).mono ?_
  rintro e w5 ⟨v, rfl, hown, hb⟩
  have hb : Below w3.heap.size w3 w5 := hb4.trans hb
  obtain ⟨aB, cB, rfl, hcB, hsB⟩ := own_sl hown
  have HB5 := hide (below_on HB3.out hb)
  have HR5 := hide (sl_on HR3.out hb)
  have HR25 := hide (sl_on HR23.out hb)
  have HSL5 := hide (sl_on HSL3.out hb)
  have HSA5 := hide (sl_on HSA.out hb)
  have HSB5 := hide hsB
  clear hown hb hsB HR3 HR23 HSL3 HSA HB3 hown4 hb4
  go_wp2_with fail
  refine (same_any aA aB cA cB _ _ T T rfl rfl w5 _ (by have := LT.out; omega) (by have := LT.out; omega) HSA5.out HSB5.out).mono ?_
  rw [(sameB_iff T T).2 rfl]
  rintro e w6 ⟨rfl, hd⟩
  have hd : Drawn w5 w6 := hd
  have HB6 := hide (below_drawn HB5.out hd)
  have HR6 := hide (sl_on HR5.out (below_drawn (Below.refl _ _) hd))
  have HR26 := hide (sl_on HR25.out (below_drawn (Below.refl _ _) hd))
  have HSL6 := hide (sl_on HSL5.out (below_drawn (Below.refl _ _) hd))
  clear hd HB5 HR5 HR25 HSL5 HSA5 HSB5
  go_wp2_with fail
  refine (HX.out (some ⟨b1, 0, none⟩) (c0 + 80) c0 LN.out w6 HR26.out).mono ?_
  rintro e w7 ⟨v, rfl, hown, hb⟩
  obtain ⟨aX, cX, rfl, hcX, hsX⟩ := own_sl hown
  have HB7 := hide (below_on HB6.out hb)
  have HR7 := hide (sl_on HR6.out hb)
  have HSL7 := hide (sl_on HSL6.out hb)
  have HSX := hide hsX
  clear hown hb hsX HR6 HR26 HSL6 HB6
  go_wp2_with (at_builtin; refine wpList_fresh (w0 := w7) rfl (.tmp 38) (.tmp 39) rfl rfl a0 c0 cap0 l rfl LN.out HSL7.out (by omega) ?_; intro v8 w8 hown8 hb8)
  refine (HY.out v8 c0 LN.out w8 w7.heap.size hb8.size hown8).mono ?_
  rintro e w9 ⟨v, rfl, hown, hb⟩
  have hb : Below w7.heap.size w7 w9 := hb8.trans hb
  obtain ⟨aY, cY, rfl, hcY, hsY⟩ := own_sl hown
  have HB9 := hide (below_on HB7.out hb)
  have HR9 := hide (sl_on HR7.out hb)
  have HSL9 := hide (sl_on HSL7.out hb)
  have HSX9 := hide (sl_on HSX.out hb)
  have HSY9 := hide hsY
  clear hown hb hsY HR7 HSL7 HSX HB7 hown8 hb8
  go_wp2_with fail
  refine (same_any aX aY cX cY _ _ X X rfl rfl w9 _ (by have := LX.out; omega) (by have := LX.out; omega) HSX9.out HSY9.out).mono ?_
  rw [(sameB_iff X X).2 rfl]
  rintro e w10 ⟨rfl, hd⟩
  have hd : Drawn w9 w10 := hd
  have HB10 := hide (below_drawn HB9.out hd)
  have HR10 := hide (sl_on HR9.out (below_drawn (Below.refl _ _) hd))
  have HSL10 := hide (sl_on HSL9.out (below_drawn (Below.refl _ _) hd))
  clear hd HB9 HR9 HSL9 HSX9 HSY9
  go_wp2_with fail
  refine (intact_any (some ⟨b1, 0, none⟩) a0 (c0 + 80) cap0 c0 _ l LN.out (by rw [LN.out]) 7 w10 _ (by rw [LN.out]; omega) (by rw [LN.out]; omega) HR10.out HSL10.out).mono ?_
  rintro e w11 ⟨rfl, hd⟩
  have HB11 := hide (below_drawn HB10.out hd)
  clear hd
  go_wp2_with fail
  refine (packRuns_walk w11).mono ?_
  rintro e w12 ⟨rfl, hb⟩
  have HB12 := hide (below_on HB11.out hb)
  clear hb
  go_wp2
  go_ret
  exact ⟨rfl, HB12.out⟩
end Go.Proofs.Ytinlnfhicnejmaa
