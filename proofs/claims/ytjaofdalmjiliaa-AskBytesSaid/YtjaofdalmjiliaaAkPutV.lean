/-
  BYTES OF VALUES; CONTRACTS OF value.Put AND the document's PutValue.
-/
import Derived.Test.YtjaofdalmjiliaaAkSameAsks
import Derived.Test.YtjaofdalmjiliaaPkText
namespace Go.Proofs.Ytjaofdalmjiliaa
open Go.RowKit
set_option linter.unusedVariables false

/-- A value's bytes. -/
def valP (v : V3) : List UInt8 := numP v.1 ++ (if v.1 = 3 ∨ v.1 = 5 then textP v.2.2.data.toList else numP v.2.1)
def SmallV (v : V3) : Prop := I64 v.1 ∧ I64 v.2.1 ∧ v.2.2.size ≤ 1000000
theorem textP_len (s : ByteArray) (h : s.size ≤ 1000000) : (textP s.data.toList).length ≤ 1000010 := by
  have hln : s.data.toList.length = s.size := by rw [Array.length_toList]; rfl
  unfold textP
  rw [List.length_append, hln]
  have := numP_10 (s.size : Int) (by omega) (by omega)
  omega
theorem valP_len {v : V3} (h : SmallV v) : (valP v).length ≤ 1000020 := by
  unfold valP
  have h1 := numP_10 v.1 h.1.1 h.1.2
  have h2 := numP_10 v.2.1 h.2.1.1 h.2.1.2
  have h3 := textP_len v.2.2 h.2.2
  rw [List.length_append]
  split <;> omega
theorem valP_text {v : V3} (h : v.1 = 3 ∨ v.1 = 5) : valP v = numP v.1 ++ textP v.2.2.data.toList := by unfold valP; rw [if_pos h]
theorem valP_num {v : V3} (h : ¬ (v.1 = 3 ∨ v.1 = 5)) : valP v = numP v.1 ++ numP v.2.1 := by unfold valP; rw [if_neg h]
theorem texts_any (k : Int) (w : World) : Calls Try.prog 49 #[.int .i64 k] w fun e w' => e = .returned (.bool (decide (k = 3 ∨ k = 5))) ∧ w = w' := by
  by_cases h1 : k = 3
  · have HF : Hid (decide (k = 3 ∨ k = 5) = true) := hide (decide_eq_true (.inl h1))
    have b1 : (k == 3) = true := beq_iff_eq.2 h1
    go_enter Try.func49, Try.ntmps49
    go_wp2
    go_ret
    exact ⟨by rw [HF.out]; rfl, rfl⟩
  · have b1 : (k == 3) = false := beq_eq_false_iff_ne.2 h1
    by_cases h2 : k = 5
    · have HF : Hid (decide (k = 3 ∨ k = 5) = true) := hide (decide_eq_true (.inr h2))
      have b2 : (k == 5) = true := beq_iff_eq.2 h2
      go_enter Try.func49, Try.ntmps49
      go_wp2
      go_ret
      exact ⟨by rw [HF.out]; rfl, rfl⟩
    · have HF : Hid (decide (k = 3 ∨ k = 5) = false) := hide (decide_eq_false (fun h => h.elim h1 h2))
      have b2 : (k == 5) = false := beq_eq_false_iff_ne.2 h2
      go_enter Try.func49, Try.ntmps49
      go_wp2
      go_ret
      exact ⟨by rw [HF.out]; rfl, rfl⟩
theorem bytes_slice {w : World} {l : List UInt8} {e : Ending} {w' : World} (h : BytesPost w l e w') : ∃ A c, e = .returned (.slice A l.length c) ∧ Sl w' w'.heap.size A (vbytes l) ∧ w'.ownsRow w.heap.size 5 1 (.slice A l.length c) l.length (vbytes l) ∧ Below w.heap.size w w' := by
  obtain ⟨v, rfl, hown, hb⟩ := h
  obtain ⟨A, c, rfl, _, hs, _⟩ := own_slice hown
  exact ⟨A, c, rfl, hs, hown, hb⟩
set_option maxHeartbeats 1000000 in
theorem vput_any (a : Option Addr) (c n : Nat) (l : List UInt8) (hn : l.length = n) (v : V3) (hv : SmallV v) (w : World) (hl : l.length ≤ 100000000) (hs : Sl w w.heap.size a (vbytes l)) :
    Calls Try.prog 32 #[.slice a n c, .agg #[.int .i64 v.1, .int .i64 v.2.1, .string v.2.2]] w (BytesPost w (l ++ valP v)) := by
  have hb0 := below_new w (.cells #[.int .i64 v.1, .int .i64 v.2.1, .string v.2.2] 35)
  have HN := hide (num_any a c n v.1 l hn _ hv.1.1 hv.1.2 (by omega) (hs.on hb0))
  obtain ⟨z0, z1, z2⟩ := three_laid w (.int .i64 v.1) (.int .i64 v.2.1) (.string v.2.2) 35
  have hsz : w.heap.size < (w.alloc (.cells #[.int .i64 v.1, .int .i64 v.2.1, .string v.2.2] 35)).heap.size := by simp
  have HB0 := hide hb0
  have HV := hide hv
  have h10 := numP_10 v.1 hv.1.1 hv.1.2
  have HLL : Hid ((l ++ numP v.1).length ≤ 100000010) := hide (by rw [List.length_append]; omega)
  clear hs hn hl hb0 hv h10
  by_cases ht : v.1 = 3 ∨ v.1 = 5
  · have HE : Hid (l ++ valP v = (l ++ numP v.1) ++ textP v.2.2.data.toList) := hide (by rw [valP_text ht, List.append_assoc])
    have HT := texts_any v.1 
    rw [decide_eq_true ht] at HT
    have HT := hide HT
    clear ht
    generalize l ++ numP v.1 = T at *
    obtain ⟨v0, v1, v2⟩ := v
    simp only at z0 z1 z2 HT HB0 hsz
    go_enter Try.func32, Try.ntmps32
    go_wp2_with fail
    refine HN.out.mono ?_
    intro e w1 h
    obtain ⟨A, c1, rfl, hs1, hown1, hb1⟩ := bytes_slice h
    have y0 := (hb1.cell (p := ⟨w.heap.size, 0, none⟩) hsz).trans z0
    have y2 := (hb1.cell (p := ⟨w.heap.size, 2, none⟩) hsz).trans z2
    have HB1 := hide (below_on HB0.out hb1)
    have HX := hide (text_any A c1 T.length v2 T rfl w1 (by have := HV.out.2.2; simp only at this; omega) (by have := HLL.out; omega) hs1)
    clear HN h hs1 hown1 hb1 z0 z1 z2 hsz HB0
    go_wp2_with (go_at_call 49; refine (HT.out w1).mono ?_; rintro e w' ⟨rfl, rfl⟩; clear HT)
    refine HX.out.mono ?_
    rintro e w2 ⟨v, rfl, hown, hb2⟩
    have HO := hide (own_base hown HB1.out.size)
    have HB2 := hide (below_on HB1.out hb2)
    clear HX hown hb2 y0 y2
    go_wp2
    go_ret
    exact ⟨_, rfl, by rw [HE.out]; exact HO.out, HB2.out⟩
  · have HE : Hid (l ++ valP v = (l ++ numP v.1) ++ numP v.2.1) := hide (by rw [valP_num ht, List.append_assoc])
    have HT := texts_any v.1 
    rw [decide_eq_false ht] at HT
    have HT := hide HT
    clear ht
    generalize l ++ numP v.1 = T at *
    obtain ⟨v0, v1, v2⟩ := v
    simp only at z0 z1 z2 HT HB0 hsz
    go_enter Try.func32, Try.ntmps32
    go_wp2_with fail
    refine HN.out.mono ?_
    intro e w1 h
    obtain ⟨A, c1, rfl, hs1, hown1, hb1⟩ := bytes_slice h
    have y0 := (hb1.cell (p := ⟨w.heap.size, 0, none⟩) hsz).trans z0
    have y1 := (hb1.cell (p := ⟨w.heap.size, 1, none⟩) hsz).trans z1
    have HB1 := hide (below_on HB0.out hb1)
    have HX := hide (num_any A c1 T.length v1 T rfl w1 HV.out.2.1.1 HV.out.2.1.2 (by have := HLL.out; omega) hs1)
    clear HN h hs1 hown1 hb1 z0 z1 z2 hsz HB0
    go_wp2_with (go_at_call 49; refine (HT.out w1).mono ?_; rintro e w' ⟨rfl, rfl⟩; clear HT)
    refine HX.out.mono ?_
    rintro e w2 ⟨v, rfl, hown, hb2⟩
    have HO := hide (own_base hown HB1.out.size)
    have HB2 := hide (below_on HB1.out hb2)
    clear HX hown hb2 y0 y1
    go_wp2
    go_ret
    exact ⟨_, rfl, by rw [HE.out]; exact HO.out, HB2.out⟩
end Go.Proofs.Ytjaofdalmjiliaa
