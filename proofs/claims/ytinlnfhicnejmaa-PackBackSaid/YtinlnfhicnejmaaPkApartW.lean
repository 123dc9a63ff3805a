/-
  THE WALK OF bailifflaw1.PackApart: it returns true; only new memory is laid.
-/
import Derived.Test.YtinlnfhicnejmaaPkInW
import Derived.Test.YtinlnfhicnejmaaPkLaws
import Derived.Deep.Quiet
import Derived.BigQuiet
namespace Go.Proofs.Ytinlnfhicnejmaa
open Go.RowKit
set_option linter.unusedVariables false

theorem less_nat (p q : Nat) (P : Program) (ts : Array TypeId) (t : TypeId) (w : World) : (Builtin.min_ ts t #[.int .i64 (p : Int), .int .i64 (q : Int)]).run P w = .ok (.int .i64 ((min p q : Nat) : Int)) w := by
  simp [Builtin.min_, Builtin.min2]
  split <;> omega
theorem less_100 (p : Nat) (P : Program) (ts : Array TypeId) (t : TypeId) (w : World) : (Builtin.min_ ts t #[.int .i64 (p : Int), .int .i64 100]).run P w = .ok (.int .i64 ((min p 100 : Nat) : Int)) w := less_nat p 100 P ts t w
theorem sl_on {w w' : World} {a : Option Addr} {xs : List Value} (h : Sl w w.heap.size a xs) (k : Below w.heap.size w w') : Sl w' w'.heap.size a xs := (h.below k).more k.size
theorem same_dec {α : Type} [DecidableEq α] (l m : List α) : sameB l m = decide (l = m) := by
  unfold sameB; rw [Bool.eq_iff_iff, beq_iff_eq, decide_eq_true_eq]
theorem bytes_eq (s t : ByteArray) : s = t ↔ s.data.toList = t.data.toList := by
  constructor
  · rintro rfl; rfl
  · intro h; exact ByteArray.ext (Array.toList_inj.1 h)
theorem bytes_len (s : ByteArray) : s.data.toList.length = s.size := by rw [Array.length_toList]; rfl
/-- A world behind another one, but for new memory. -/
structure After (w0 : World) where
  w : World
  h : Below w0.heap.size w0 w
instance (w0 : World) : Nonempty (After w0) := ⟨⟨w0, Below.refl _ _⟩⟩
/-- A drawn region whose operations yield the same values in every world behind this one, which every call keeps. -/
theorem wp_region_after {P : Program} {id : Nat} {Q : Exit → Act → World → Prop} {a : Act} {w : World} {l : List Oper} (hm : P.follows .mixedOrders = true) (hB : Region.lexB .any l.toArray = true)
    (h : wpQuiet P l.toArray (fun w' => ∃ p : After w, w' = p.w) (fun a' => ∀ w', Below w.heap.size w w' → Q .normal a' w') l a) : (Code.region id l.toArray true).wp P Q a w := by
  refine wp_region_quiet (C := fun w' => ∃ p : After w, w' = p.w) hm hB ⟨⟨w.drew, (Below.refl _ _).drew⟩, rfl⟩ ?_
  have e : (fun a' => ∀ w', (∃ p : After w, w' = p.w) → Q .normal a' w') = fun a' => ∀ w', Below w.heap.size w w' → Q .normal a' w' := by
    funext a'
    exact propext ⟨fun g w' hb => g w' ⟨⟨w', hb⟩, rfl⟩, fun g w' ⟨p, hp⟩ => hp ▸ g p.w p.h⟩
  rw [e]
  simpa using h
/-- A call in such a region. -/
theorem after_call {P : Program} {w0 : World} {p : After w0} {f : FuncId} {args : Array Value} {v : Value} (h : ∀ w', Below w0.heap.size w0 w' → Calls P f args w' fun e w'' => e = .returned v ∧ Below w0.heap.size w0 w'') :
    Calls P f args p.w fun e w'' => e = .returned v ∧ ∃ q : After w0, w'' = q.w :=
  (h p.w p.h).mono fun _ w'' k => ⟨k.1, ⟨w'', k.2⟩, rfl⟩
/-- Same of the same number of first bytes. -/
theorem same_begin {w : World} {A B : Option Addr} {c d : Nat} {l m : List UInt8} (k : Nat) (hk : k = min l.length m.length) (hl : l.length ≤ 1000000) (hm : m.length ≤ 1000000) (h1 : Sl w w.heap.size A (vbytes l)) (h2 : Sl w w.heap.size B (vbytes m)) (hne : l.take k ≠ m.take k) (w' : World) (hb : Below w.heap.size w w') :
    Calls Try.prog 18 #[.slice A k c, .slice B k d] w' (Quiet (.bool false) w') := by
  have e1 : (l.take k).length = k := by rw [List.length_take]; omega
  have e2 : (m.take k).length = k := by rw [List.length_take]; omega
  have h := same_any A B c d k k (l.take k) (m.take k) e1 e2 w' w.heap.size (by omega) (by omega) ((h1.takeBytes k).below hb) ((h2.takeBytes k).below hb)
  rwa [(Bool.eq_false_iff.2 fun e => hne ((sameB_iff _ _).1 e) : sameB (l.take k) (m.take k) = false)] at h
set_option maxHeartbeats 1000000 in
theorem packApart_walk (n0 : Int) (n1 : Int) (t2 : ByteArray) (t3 : ByteArray) (w : World) (lo0 : -9223372036854775808 ≤ n0) (hi0 : n0 ≤ 9223372036854775807) (lo1 : -9223372036854775808 ≤ n1) (hi1 : n1 ≤ 9223372036854775807) (ht2 : t2.size ≤ maxLen) (ht3 : t3.size ≤ maxLen) :
    Calls Try.prog 5 #[.int .i64 n0, .int .i64 n1, .string t2, .string t3] w fun e w' => e = .returned (.bool true) ∧ Below w.heap.size w w' := by
  have m2 := less_100 t2.size Try.prog
  have m3 := less_100 t3.size Try.prog
  have k2 : min t2.size 100 ≤ t2.size := Nat.min_le_left _ _
  have k3 : min t3.size 100 ≤ t3.size := Nat.min_le_left _ _
  have k2' : min t2.size 100 ≤ 100 := Nat.min_le_right _ _
  have k3' : min t3.size 100 ≤ 100 := Nat.min_le_right _ _
  generalize min t2.size 100 = c2 at *
  generalize min t3.size 100 = c3 at *
  have z2 : (t2.extract 0 c2).size ≤ 100 := by rw [ByteArray.size_extract]; omega
  have z3 : (t3.extract 0 c3).size ≤ 100 := by rw [ByteArray.size_extract]; omega
  generalize hs2 : t2.extract 0 c2 = s2 at *
  generalize hs3 : t3.extract 0 c3 = s3 at *
  have l2 := bytes_len s2
  have l3 := bytes_len s3
  have HA := hide (fun w => num_any none 0 0 n0 [] rfl w lo0 hi0 (by simp) Sl.nil)
  have HB := hide (fun w => num_any none 0 0 n1 [] rfl w lo1 hi1 (by simp) Sl.nil)
  have HX := hide (fun w => text_any none 0 0 s2 [] rfl w (by omega) (by simp) Sl.nil)
  have HY := hide (fun w => text_any none 0 0 s3 [] rfl w (by omega) (by simp) Sl.nil)
  simp only [List.nil_append] at HA HB HX HY
  have a1 := numP_10 n0 lo0 hi0
  have a0 := vint_pos (zz n0)
  have b1 := numP_10 n1 lo1 hi1
  have b0 := vint_pos (zz n1)
  have x1 : (textP s2.data.toList).length ≤ 110 := by unfold textP; rw [List.length_append]; have := numP_10 (s2.data.toList.length : Int) (by omega) (by omega); omega
  have x0 : 1 ≤ (textP s2.data.toList).length := by unfold textP; rw [List.length_append]; have := vint_pos (zz (s2.data.toList.length : Int)); unfold numP; omega
  have y1 : (textP s3.data.toList).length ≤ 110 := by unfold textP; rw [List.length_append]; have := numP_10 (s3.data.toList.length : Int) (by omega) (by omega); omega
  have y0 : 1 ≤ (textP s3.data.toList).length := by unfold textP; rw [List.length_append]; have := vint_pos (zz (s3.data.toList.length : Int)); unfold numP; omega
  change 1 ≤ (numP n0).length at a0
  change 1 ≤ (numP n1).length at b0
  have hs1 : Hid (sameB (numP n0) (numP n1) = decide (n0 = n1)) := hide (by rw [same_dec]; exact decide_eq_decide.2 (numP_same n0 n1 lo0 hi0 lo1 hi1))
  have hsx : Hid (sameB (textP s2.data.toList) (textP s3.data.toList) = decide (s2 = s3)) := hide (by rw [same_dec]; exact decide_eq_decide.2 ((textP_same _ _ (by omega) (by omega)).trans (bytes_eq s2 s3).symm))
  have hg1 : Hid (∀ k, k = min (numP n0).length (numP n1).length → n0 ≠ n1 → (numP n0).take k ≠ (numP n1).take k) := hide (fun k hk hne => numP_begin n0 n1 k hk lo0 hi0 lo1 hi1 hne)
  have hgx : Hid (∀ k, k = min (textP s2.data.toList).length (textP s3.data.toList).length → s2 ≠ s3 → (textP s2.data.toList).take k ≠ (textP s3.data.toList).take k) := hide (fun k hk hne => textP_begin _ _ k hk (by omega) (by omega) (fun e => hne ((bytes_eq s2 s3).2 e)))
  have e0 : (n0 == n1) = decide (n0 = n1) := by rw [Bool.eq_iff_iff, beq_iff_eq, decide_eq_true_eq]
  have f0 : (s2.toList == s3.toList) = decide (s2 = s3) := by rw [Bool.eq_iff_iff, beq_iff_eq, decide_eq_true_eq, ByteArray.toList_eq, ByteArray.toList_eq, bytes_eq]
  generalize numP n0 = A at *
  generalize numP n1 = B at *
  generalize textP s2.data.toList = X at *
  generalize textP s3.data.toList = Y at *
  have p1 := less_nat A.length B.length Try.prog
  have p2 := less_nat X.length Y.length Try.prog
  obtain ⟨k, hk⟩ : ∃ k, k = min A.length B.length := ⟨_, rfl⟩
  obtain ⟨j, hj⟩ : ∃ j, j = min X.length Y.length := ⟨_, rfl⟩
  rw [← hk] at p1
  rw [← hj] at p2
  have HK := hide hk
  have HJ := hide hj
  have kA : k ≤ A.length := by omega
  have kB : k ≤ B.length := by omega
  have jX : j ≤ X.length := by omega
  have jY : j ≤ Y.length := by omega
  clear ht2 ht3 lo0 hi0 lo1 hi1 l2 l3 z2 z3 hk hj
  by_cases hn : n0 = n1
  · rw [decide_eq_true hn] at e0 hs1
    subst hn
    by_cases hs : s2 = s3
    · rw [decide_eq_true hs] at f0 hsx
      subst hs
      go_enter Try.func5, Try.ntmps5
      go_wp2
      go_quiet (fail)
      have HD := hide (below_drawn (Below.refl w.heap.size w) ⟨nq, rfl⟩)
      generalize w.drewN nq = w1 at HD ⊢
      go_wp2_with fail
      refine (HA.out w1).mono ?_
      rintro e w2 ⟨v, rfl, hown, hb⟩
      obtain ⟨aA, cA, rfl, hcA, hsA⟩ := own_sl hown
      have HD2 := hide (below_on HD.out hb)
      have HSA := hide hsA
      clear hown hb hsA HD
      go_wp2_with fail
      refine (HB.out w2).mono ?_
      rintro e w3 ⟨v, rfl, hown, hb⟩
      obtain ⟨aB, cB, rfl, hcB, hsB⟩ := own_sl hown
      have HD3 := hide (below_on HD2.out hb)
      have HSA3 := hide (sl_on HSA.out hb)
      have HSB := hide hsB
      clear hown hb hsB HD2 HSA
      go_wp2_with fail
      refine (HX.out w3).mono ?_
      rintro e w4 ⟨v, rfl, hown, hb⟩
      obtain ⟨aX, cX, rfl, hcX, hsX⟩ := own_sl hown
      have HD4 := hide (below_on HD3.out hb)
      have HSA4 := hide (sl_on HSA3.out hb)
      have HSB4 := hide (sl_on HSB.out hb)
      have HSX := hide hsX
      clear hown hb hsX HD3 HSA3 HSB
      go_wp2_with fail
      refine (HY.out w4).mono ?_
      rintro e w5 ⟨v, rfl, hown, hb⟩
      obtain ⟨aY, cY, rfl, hcY, hsY⟩ := own_sl hown
      have HD5 := hide (below_on HD4.out hb)
      have HSA5 := hide (sl_on HSA4.out hb)
      have HSB5 := hide (sl_on HSB4.out hb)
      have HSX5 := hide (sl_on HSX.out hb)
      have HSY := hide hsY
      clear hown hb hsY HD4 HSA4 HSB4 HSX HA HB HX HY
      go_wp2_with fail
      refine (same_any aA aB cA cB _ _ A B rfl rfl w5 _ (by omega) (by omega) HSA5.out HSB5.out).mono ?_
      rw [hs1.out]
      rintro e w6 ⟨rfl, hd⟩
      have hd : Drawn w5 w6 := hd
      have HD6 := hide (below_drawn HD5.out hd)
      have HSA6 := hide (sl_on HSA5.out (below_drawn (Below.refl _ _) hd))
      have HSB6 := hide (sl_on HSB5.out (below_drawn (Below.refl _ _) hd))
      have HSX6 := hide (sl_on HSX5.out (below_drawn (Below.refl _ _) hd))
      have HSY6 := hide (sl_on HSY.out (below_drawn (Below.refl _ _) hd))
      clear hd HD5 HSA5 HSB5 HSX5 HSY
      go_wp2_with fail
      refine (same_any aX aY cX cY _ _ X Y rfl rfl w6 _ (by omega) (by omega) HSX6.out HSY6.out).mono ?_
      rw [hsx.out]
      rintro e w7 ⟨rfl, hd⟩
      have hd : Drawn w6 w7 := hd
      have HD7 := hide (below_drawn HD6.out hd)
      have HSA7 := hide (sl_on HSA6.out (below_drawn (Below.refl _ _) hd))
      have HSB7 := hide (sl_on HSB6.out (below_drawn (Below.refl _ _) hd))
      have HSX7 := hide (sl_on HSX6.out (below_drawn (Below.refl _ _) hd))
      have HSY7 := hide (sl_on HSY6.out (below_drawn (Below.refl _ _) hd))
      clear hd HD6 HSA6 HSB6 HSX6 HSY6
      have i1 : (0 : Int) ≤ (k : Int) := by omega
      have i2 : (k : Int) ≤ (cA : Int) := by omega
      have i3 : (k : Int) ≤ (cB : Int) := by omega
      have i4 : (0 : Int) ≤ (j : Int) := by omega
      have i5 : (j : Int) ≤ (cX : Int) := by omega
      have i6 : (j : Int) ≤ (cY : Int) := by omega
      clear HSA7 HSB7 HSX7 HSY7 HK HJ hg1 hgx
      go_wp2
      refine wp_region_after (by kernel_rfl) (by kernel_rfl) ?_
      repeat (go_big_quiet_step ((first | exact after_call fun _ hw' => (packRuns_walk _).mono fun e wR h => ⟨h.1, below_on hw' h.2⟩)))
      refine wpQuiet_nil ?_
      intro w8 hb8
      go_wp2
      go_ret
      exact ⟨rfl, below_on HD7.out hb8⟩
    · rw [decide_eq_false hs] at f0 hsx
      have HS := hide hs
      clear hs
      go_enter Try.func5, Try.ntmps5
      go_wp2
      go_quiet (fail)
      have HD := hide (below_drawn (Below.refl w.heap.size w) ⟨nq, rfl⟩)
      generalize w.drewN nq = w1 at HD ⊢
      go_wp2_with fail
      refine (HA.out w1).mono ?_
      rintro e w2 ⟨v, rfl, hown, hb⟩
      obtain ⟨aA, cA, rfl, hcA, hsA⟩ := own_sl hown
      have HD2 := hide (below_on HD.out hb)
      have HSA := hide hsA
      clear hown hb hsA HD
      go_wp2_with fail
      refine (HB.out w2).mono ?_
      rintro e w3 ⟨v, rfl, hown, hb⟩
      obtain ⟨aB, cB, rfl, hcB, hsB⟩ := own_sl hown
      have HD3 := hide (below_on HD2.out hb)
      have HSA3 := hide (sl_on HSA.out hb)
      have HSB := hide hsB
      clear hown hb hsB HD2 HSA
      go_wp2_with fail
      refine (HX.out w3).mono ?_
      rintro e w4 ⟨v, rfl, hown, hb⟩
      obtain ⟨aX, cX, rfl, hcX, hsX⟩ := own_sl hown
      have HD4 := hide (below_on HD3.out hb)
      have HSA4 := hide (sl_on HSA3.out hb)
      have HSB4 := hide (sl_on HSB.out hb)
      have HSX := hide hsX
      clear hown hb hsX HD3 HSA3 HSB
      go_wp2_with fail
      refine (HY.out w4).mono ?_
      rintro e w5 ⟨v, rfl, hown, hb⟩
      obtain ⟨aY, cY, rfl, hcY, hsY⟩ := own_sl hown
      have HD5 := hide (below_on HD4.out hb)
      have HSA5 := hide (sl_on HSA4.out hb)
      have HSB5 := hide (sl_on HSB4.out hb)
      have HSX5 := hide (sl_on HSX.out hb)
      have HSY := hide hsY
      clear hown hb hsY HD4 HSA4 HSB4 HSX HA HB HX HY
      go_wp2_with fail
      refine (same_any aA aB cA cB _ _ A B rfl rfl w5 _ (by omega) (by omega) HSA5.out HSB5.out).mono ?_
      rw [hs1.out]
      rintro e w6 ⟨rfl, hd⟩
      have hd : Drawn w5 w6 := hd
      have HD6 := hide (below_drawn HD5.out hd)
      have HSA6 := hide (sl_on HSA5.out (below_drawn (Below.refl _ _) hd))
      have HSB6 := hide (sl_on HSB5.out (below_drawn (Below.refl _ _) hd))
      have HSX6 := hide (sl_on HSX5.out (below_drawn (Below.refl _ _) hd))
      have HSY6 := hide (sl_on HSY.out (below_drawn (Below.refl _ _) hd))
      clear hd HD5 HSA5 HSB5 HSX5 HSY
      go_wp2_with fail
      refine (same_any aX aY cX cY _ _ X Y rfl rfl w6 _ (by omega) (by omega) HSX6.out HSY6.out).mono ?_
      rw [hsx.out]
      rintro e w7 ⟨rfl, hd⟩
      have hd : Drawn w6 w7 := hd
      have HD7 := hide (below_drawn HD6.out hd)
      have HSA7 := hide (sl_on HSA6.out (below_drawn (Below.refl _ _) hd))
      have HSB7 := hide (sl_on HSB6.out (below_drawn (Below.refl _ _) hd))
      have HSX7 := hide (sl_on HSX6.out (below_drawn (Below.refl _ _) hd))
      have HSY7 := hide (sl_on HSY6.out (below_drawn (Below.refl _ _) hd))
      clear hd HD6 HSA6 HSB6 HSX6 HSY6
      have HS2 := hide (same_begin (c := cX) (d := cY) j HJ.out (by omega) (by omega) HSX7.out HSY7.out (hgx.out j HJ.out HS.out))
      have i1 : (0 : Int) ≤ (k : Int) := by omega
      have i2 : (k : Int) ≤ (cA : Int) := by omega
      have i3 : (k : Int) ≤ (cB : Int) := by omega
      have i4 : (0 : Int) ≤ (j : Int) := by omega
      have i5 : (j : Int) ≤ (cX : Int) := by omega
      have i6 : (j : Int) ≤ (cY : Int) := by omega
      clear HSA7 HSB7 HSX7 HSY7 HK HJ HS hg1 hgx
      go_wp2
      refine wp_region_after (by kernel_rfl) (by kernel_rfl) ?_
      repeat (go_big_quiet_step ((first | (go_at_call_of 18 (Value.slice aX j cX); exact after_call fun _ hw' => (HS2.out _ hw').mono fun e wF h => ⟨h.1, below_drawn hw' h.2⟩) | exact after_call fun _ hw' => (packRuns_walk _).mono fun e wR h => ⟨h.1, below_on hw' h.2⟩)))
      refine wpQuiet_nil ?_
      intro w8 hb8
      go_wp2
      go_ret
      exact ⟨rfl, below_on HD7.out hb8⟩
  · rw [decide_eq_false hn] at e0 hs1
    have HN := hide hn
    clear hn
    by_cases hs : s2 = s3
    · rw [decide_eq_true hs] at f0 hsx
      subst hs
      go_enter Try.func5, Try.ntmps5
      go_wp2
      go_quiet (fail)
      have HD := hide (below_drawn (Below.refl w.heap.size w) ⟨nq, rfl⟩)
      generalize w.drewN nq = w1 at HD ⊢
      go_wp2_with fail
      refine (HA.out w1).mono ?_
      rintro e w2 ⟨v, rfl, hown, hb⟩
      obtain ⟨aA, cA, rfl, hcA, hsA⟩ := own_sl hown
      have HD2 := hide (below_on HD.out hb)
      have HSA := hide hsA
      clear hown hb hsA HD
      go_wp2_with fail
      refine (HB.out w2).mono ?_
      rintro e w3 ⟨v, rfl, hown, hb⟩
      obtain ⟨aB, cB, rfl, hcB, hsB⟩ := own_sl hown
      have HD3 := hide (below_on HD2.out hb)
      have HSA3 := hide (sl_on HSA.out hb)
      have HSB := hide hsB
      clear hown hb hsB HD2 HSA
      go_wp2_with fail
      refine (HX.out w3).mono ?_
      rintro e w4 ⟨v, rfl, hown, hb⟩
      obtain ⟨aX, cX, rfl, hcX, hsX⟩ := own_sl hown
      have HD4 := hide (below_on HD3.out hb)
      have HSA4 := hide (sl_on HSA3.out hb)
      have HSB4 := hide (sl_on HSB.out hb)
      have HSX := hide hsX
      clear hown hb hsX HD3 HSA3 HSB
      go_wp2_with fail
      refine (HY.out w4).mono ?_
      rintro e w5 ⟨v, rfl, hown, hb⟩
      obtain ⟨aY, cY, rfl, hcY, hsY⟩ := own_sl hown
      have HD5 := hide (below_on HD4.out hb)
      have HSA5 := hide (sl_on HSA4.out hb)
      have HSB5 := hide (sl_on HSB4.out hb)
      have HSX5 := hide (sl_on HSX.out hb)
      have HSY := hide hsY
      clear hown hb hsY HD4 HSA4 HSB4 HSX HA HB HX HY
      go_wp2_with fail
      refine (same_any aA aB cA cB _ _ A B rfl rfl w5 _ (by omega) (by omega) HSA5.out HSB5.out).mono ?_
      rw [hs1.out]
      rintro e w6 ⟨rfl, hd⟩
      have hd : Drawn w5 w6 := hd
      have HD6 := hide (below_drawn HD5.out hd)
      have HSA6 := hide (sl_on HSA5.out (below_drawn (Below.refl _ _) hd))
      have HSB6 := hide (sl_on HSB5.out (below_drawn (Below.refl _ _) hd))
      have HSX6 := hide (sl_on HSX5.out (below_drawn (Below.refl _ _) hd))
      have HSY6 := hide (sl_on HSY.out (below_drawn (Below.refl _ _) hd))
      clear hd HD5 HSA5 HSB5 HSX5 HSY
      go_wp2_with fail
      refine (same_any aX aY cX cY _ _ X Y rfl rfl w6 _ (by omega) (by omega) HSX6.out HSY6.out).mono ?_
      rw [hsx.out]
      rintro e w7 ⟨rfl, hd⟩
      have hd : Drawn w6 w7 := hd
      have HD7 := hide (below_drawn HD6.out hd)
      have HSA7 := hide (sl_on HSA6.out (below_drawn (Below.refl _ _) hd))
      have HSB7 := hide (sl_on HSB6.out (below_drawn (Below.refl _ _) hd))
      have HSX7 := hide (sl_on HSX6.out (below_drawn (Below.refl _ _) hd))
      have HSY7 := hide (sl_on HSY6.out (below_drawn (Below.refl _ _) hd))
      clear hd HD6 HSA6 HSB6 HSX6 HSY6
      have HS1 := hide (same_begin (c := cA) (d := cB) k HK.out (by omega) (by omega) HSA7.out HSB7.out (hg1.out k HK.out HN.out))
      have i1 : (0 : Int) ≤ (k : Int) := by omega
      have i2 : (k : Int) ≤ (cA : Int) := by omega
      have i3 : (k : Int) ≤ (cB : Int) := by omega
      have i4 : (0 : Int) ≤ (j : Int) := by omega
      have i5 : (j : Int) ≤ (cX : Int) := by omega
      have i6 : (j : Int) ≤ (cY : Int) := by omega
      clear HSA7 HSB7 HSX7 HSY7 HK HJ HN hg1 hgx
      go_wp2
      refine wp_region_after (by kernel_rfl) (by kernel_rfl) ?_
      repeat (go_big_quiet_step ((first | (go_at_call_of 18 (Value.slice aA k cA); exact after_call fun _ hw' => (HS1.out _ hw').mono fun e wF h => ⟨h.1, below_drawn hw' h.2⟩) | exact after_call fun _ hw' => (packRuns_walk _).mono fun e wR h => ⟨h.1, below_on hw' h.2⟩)))
      refine wpQuiet_nil ?_
      intro w8 hb8
      go_wp2
      go_ret
      exact ⟨rfl, below_on HD7.out hb8⟩
    · rw [decide_eq_false hs] at f0 hsx
      have HS := hide hs
      clear hs
      go_enter Try.func5, Try.ntmps5
      go_wp2
      go_quiet (fail)
      have HD := hide (below_drawn (Below.refl w.heap.size w) ⟨nq, rfl⟩)
      generalize w.drewN nq = w1 at HD ⊢
      go_wp2_with fail
      refine (HA.out w1).mono ?_
      rintro e w2 ⟨v, rfl, hown, hb⟩
      obtain ⟨aA, cA, rfl, hcA, hsA⟩ := own_sl hown
      have HD2 := hide (below_on HD.out hb)
      have HSA := hide hsA
      clear hown hb hsA HD
      go_wp2_with fail
      refine (HB.out w2).mono ?_
      rintro e w3 ⟨v, rfl, hown, hb⟩
      obtain ⟨aB, cB, rfl, hcB, hsB⟩ := own_sl hown
      have HD3 := hide (below_on HD2.out hb)
      have HSA3 := hide (sl_on HSA.out hb)
      have HSB := hide hsB
      clear hown hb hsB HD2 HSA
      go_wp2_with fail
      refine (HX.out w3).mono ?_
      rintro e w4 ⟨v, rfl, hown, hb⟩
      obtain ⟨aX, cX, rfl, hcX, hsX⟩ := own_sl hown
      have HD4 := hide (below_on HD3.out hb)
      have HSA4 := hide (sl_on HSA3.out hb)
      have HSB4 := hide (sl_on HSB.out hb)
      have HSX := hide hsX
      clear hown hb hsX HD3 HSA3 HSB
      go_wp2_with fail
      refine (HY.out w4).mono ?_
      rintro e w5 ⟨v, rfl, hown, hb⟩
      obtain ⟨aY, cY, rfl, hcY, hsY⟩ := own_sl hown
      have HD5 := hide (below_on HD4.out hb)
      have HSA5 := hide (sl_on HSA4.out hb)
      have HSB5 := hide (sl_on HSB4.out hb)
      have HSX5 := hide (sl_on HSX.out hb)
      have HSY := hide hsY
      clear hown hb hsY HD4 HSA4 HSB4 HSX HA HB HX HY
      go_wp2_with fail
      refine (same_any aA aB cA cB _ _ A B rfl rfl w5 _ (by omega) (by omega) HSA5.out HSB5.out).mono ?_
      rw [hs1.out]
      rintro e w6 ⟨rfl, hd⟩
      have hd : Drawn w5 w6 := hd
      have HD6 := hide (below_drawn HD5.out hd)
      have HSA6 := hide (sl_on HSA5.out (below_drawn (Below.refl _ _) hd))
      have HSB6 := hide (sl_on HSB5.out (below_drawn (Below.refl _ _) hd))
      have HSX6 := hide (sl_on HSX5.out (below_drawn (Below.refl _ _) hd))
      have HSY6 := hide (sl_on HSY.out (below_drawn (Below.refl _ _) hd))
      clear hd HD5 HSA5 HSB5 HSX5 HSY
      go_wp2_with fail
      refine (same_any aX aY cX cY _ _ X Y rfl rfl w6 _ (by omega) (by omega) HSX6.out HSY6.out).mono ?_
      rw [hsx.out]
      rintro e w7 ⟨rfl, hd⟩
      have hd : Drawn w6 w7 := hd
      have HD7 := hide (below_drawn HD6.out hd)
      have HSA7 := hide (sl_on HSA6.out (below_drawn (Below.refl _ _) hd))
      have HSB7 := hide (sl_on HSB6.out (below_drawn (Below.refl _ _) hd))
      have HSX7 := hide (sl_on HSX6.out (below_drawn (Below.refl _ _) hd))
      have HSY7 := hide (sl_on HSY6.out (below_drawn (Below.refl _ _) hd))
      clear hd HD6 HSA6 HSB6 HSX6 HSY6
      have HS1 := hide (same_begin (c := cA) (d := cB) k HK.out (by omega) (by omega) HSA7.out HSB7.out (hg1.out k HK.out HN.out))
      have HS2 := hide (same_begin (c := cX) (d := cY) j HJ.out (by omega) (by omega) HSX7.out HSY7.out (hgx.out j HJ.out HS.out))
      have i1 : (0 : Int) ≤ (k : Int) := by omega
      have i2 : (k : Int) ≤ (cA : Int) := by omega
      have i3 : (k : Int) ≤ (cB : Int) := by omega
      have i4 : (0 : Int) ≤ (j : Int) := by omega
      have i5 : (j : Int) ≤ (cX : Int) := by omega
      have i6 : (j : Int) ≤ (cY : Int) := by omega
      clear HSA7 HSB7 HSX7 HSY7 HK HJ HN HS hg1 hgx
      go_wp2
      refine wp_region_after (by kernel_rfl) (by kernel_rfl) ?_
      repeat (go_big_quiet_step ((first | (go_at_call_of 18 (Value.slice aA k cA); exact after_call fun _ hw' => (HS1.out _ hw').mono fun e wF h => ⟨h.1, below_drawn hw' h.2⟩) | (go_at_call_of 18 (Value.slice aX j cX); exact after_call fun _ hw' => (HS2.out _ hw').mono fun e wF h => ⟨h.1, below_drawn hw' h.2⟩) | exact after_call fun _ hw' => (packRuns_walk _).mono fun e wR h => ⟨h.1, below_on hw' h.2⟩)))
      refine wpQuiet_nil ?_
      intro w8 hb8
      go_wp2
      go_ret
      exact ⟨rfl, below_on HD7.out hb8⟩
end Go.Proofs.Ytinlnfhicnejmaa
