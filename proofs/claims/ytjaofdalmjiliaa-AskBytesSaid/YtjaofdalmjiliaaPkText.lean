/-
  CONTRACTS OF pack.Text AND bailiffref1.Text.
-/
import Derived.Test.YtjaofdalmjiliaaPkNum3
import Derived.Lib.AppendStr
namespace Go.Proofs.Ytjaofdalmjiliaa
open Go.RowKit
set_option linter.unusedVariables false

theorem strCells_vb (s : ByteArray) : Lib.strCells s = vbytes s.data.toList := rfl
theorem text_any (a : Option Addr) (c n : Nat) (s : ByteArray) (l : List UInt8) (hn : l.length = n) (w : World) (hsz : s.size ≤ 1000000000) (hl : l.length ≤ 1000000000) (hs : Sl w w.heap.size a (vbytes l)) :
    Calls Try.prog 31 #[.slice a n c, .string s] w (BytesPost w (l ++ textP s.data.toList)) := by
  obtain ⟨i0, hi, hz0, hz1, hz2⟩ := info_parts infoB
  have Hi := hide hi
  have Hz0 := hide hz0
  have Hz1 := hide hz1
  have Hz2 := hide hz2
  clear hi hz0 hz1 hz2
  have hln : s.data.toList.length = s.size := by rw [Array.length_toList]; rfl
  have hC := num_any a c n (s.size : Int) l hn w (by omega) (by omega) hl hs
  have hT : Hid (l ++ textP s.data.toList = (l ++ numP (s.size : Int)) ++ s.data.toList) := hide (by unfold textP; rw [hln, List.append_assoc])
  have h10 := numP_10 (s.size : Int) (by omega) (by omega)
  have hTl : (l ++ numP (s.size : Int)).length ≤ 1000000010 := by rw [List.length_append]; omega
  generalize l ++ numP (s.size : Int) = T at *
  generalize l ++ textP s.data.toList = R at *
  have HC := hide hC
  have HL := hide hln
  clear hC h10 hl hs hn hln
  go_enter Try.func31, Try.ntmps31
  go_wp2_with fail
  refine HC.out.mono ?_
  rintro e w1 ⟨v, rfl, hown, hb1⟩
  have HO := hide hown
  have HB := hide hb1
  clear hown hb1 HC
  go_wp2_with (at_builtin; refine Lib.wpList_append_own_string _ rfl (.tmp 8) (.tmp 9) 29 9 rfl w.heap.size 5 i0 Try.underlying29 Try.underlying9 Hi.out Hz0.out Hz1.out Hz2.out v T.length (vbytes T) rfl HO.out s rfl (by unfold maxLen; omega) (by omega) HB.out.size ?_; intro v3 w3 hown3 hg3 _; have hb3 : Below w.heap.size w w3 := own_below HO.out HB.out hg3 (Nat.le_refl _) HB.out.size)
  go_ret
  refine ⟨_, rfl, ?_, hb3⟩
  rw [hT.out, vbytes_append, List.length_append, HL.out]
  exact hown3
theorem reftext_any (v : Value) (n : Nat) (s : ByteArray) (l : List UInt8) (hn : l.length = n) (w : World) (B : Nat) (hsz : s.size ≤ 1000000000) (hl : l.length ≤ 1000000000) (hB : B ≤ w.heap.size) (hown : w.ownsRow B 5 1 v n (vbytes l)) :
    Calls Try.prog 40 #[v, .string s] w (OwnPost B w (l ++ textP s.data.toList)) := by
  obtain ⟨i0, hi, hz0, hz1, hz2⟩ := info_parts infoB
  have Hi := hide hi
  have Hz0 := hide hz0
  have Hz1 := hide hz1
  have Hz2 := hide hz2
  clear hi hz0 hz1 hz2
  have hln : s.data.toList.length = s.size := by rw [Array.length_toList]; rfl
  have hC := refnum_any v n (s.size : Int) l hn w B (by omega) (by omega) hl hB hown
  have hT : Hid (l ++ textP s.data.toList = (l ++ numP (s.size : Int)) ++ s.data.toList) := hide (by unfold textP; rw [hln, List.append_assoc])
  have h10 := numP_10 (s.size : Int) (by omega) (by omega)
  have hTl : (l ++ numP (s.size : Int)).length ≤ 1000000010 := by rw [List.length_append]; omega
  generalize l ++ numP (s.size : Int) = T at *
  generalize l ++ textP s.data.toList = R at *
  have HC := hide hC
  have HL := hide hln
  clear hC h10 hl hown hn hln
  go_enter Try.func40, Try.ntmps40
  go_wp2_with fail
  refine HC.out.mono ?_
  rintro e w1 ⟨v', rfl, hown, hb1⟩
  have HO := hide hown
  have HB := hide hb1
  clear hown hb1 HC
  go_wp2_with (at_builtin; refine Lib.wpList_append_own_string _ rfl (.tmp 8) (.tmp 9) 29 9 rfl B 5 i0 Try.underlying29 Try.underlying9 Hi.out Hz0.out Hz1.out Hz2.out v' T.length (vbytes T) rfl HO.out s rfl (by unfold maxLen; omega) (by omega) (Nat.le_trans hB HB.out.size) ?_; intro v3 w3 hown3 hg3 _; have hb3 : Below B w w3 := own_below HO.out HB.out hg3 (Nat.le_refl _) (Nat.le_trans hB HB.out.size))
  go_ret
  refine ⟨_, rfl, ?_, hb3⟩
  rw [hT.out, vbytes_append, List.length_append, HL.out]
  exact hown3
end Go.Proofs.Ytjaofdalmjiliaa
