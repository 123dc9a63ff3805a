/-
  CONTRACT OF bailifflaw21.few: at most sixteen records, none longer than fifty bytes, each a copy in new memory.
-/
import Derived.Test.YtdfbmlaehdgcdaaChainSums
import Derived.Test.YtdfbmlaehdgcdaaBook
import Derived.Deep.RegionHeld3
import Derived.Deep.DeepCutAuto
namespace Go.Proofs.Ytdfbmlaehdgcdaa
open Go.RowKit
set_option linter.unusedVariables false

/-- What few leaves of records. -/
def fewL (l : List (List UInt8)) : List (List UInt8) := (l.take 16).map (·.take 50)
theorem fewL_length (l : List (List UInt8)) : (fewL l).length = min 16 l.length := by simp [fewL]
theorem fewL_short (l : List (List UInt8)) : ∀ x ∈ fewL l, x.length ≤ 50 := by
  intro x hx
  simp only [fewL, List.mem_map] at hx
  obtain ⟨y, _, rfl⟩ := hx
  rw [List.length_take]; omega
theorem fewL_step (l : List (List UInt8)) (k : Nat) (hk : k < l.length) (h16 : k < 16) : (fewL l).take (k + 1) = (fewL l).take k ++ [l[k].take 50] := by
  have h : (fewL l)[k]? = some (l[k].take 50) := by simp [fewL, h16, List.getElem?_eq_getElem hk]
  rw [List.take_add_one, h]; rfl

theorem infoF5 : (Try.prog.info? 5).map (fun i => (i.zero, i.size, i.bytes)) = some (some (.int .u8 0), 1, 1) := by kernel_rfl
theorem infoF24 : (Try.prog.info? 24).map (fun i => (i.zero, i.size, i.bytes)) = some (some (.slice none 0 0), 1, 24) := by kernel_rfl
/-- New records, each owned; what was there as it was. -/
def FewPost (w : World) (l : List (List UInt8)) (e : Ending) (w' : World) : Prop :=
  ∃ v vs, e = .returned v ∧ w'.ownsRow w.heap.size 24 1 v l.length vs ∧ OwnRows w' w.heap.size 5 vs l ∧ Below w.heap.size w w'

set_option maxHeartbeats 1000000 in
theorem few_any (a : Option Addr) (cap n : Nat) (l : List (List UInt8)) (hn : l.length = n) (w : World) (hcap : n ≤ cap) (hm : cap ≤ maxLen) (hs : Rws w w.heap.size a l) :
    Calls Try.prog 23 #[.slice a n cap] w (FewPost w (fewL l)) := by
  subst hn
  unfold maxLen at hm
  obtain ⟨i0, hi, hz0, hz1, hz2⟩ := info_parts infoF5
  have Hi := hide hi
  have Hz0 := hide hz0
  have Hz1 := hide hz1
  have Hz2 := hide hz2
  clear hi hz0 hz1 hz2
  obtain ⟨j0, hi, hz0, hz1, hz2⟩ := info_parts infoF24
  have Gi := hide hi
  have Gz0 := hide hz0
  have Gz1 := hide hz1
  have Gz2 := hide hz2
  clear hi hz0 hz1 hz2
  go_enter Try.func23, Try.ntmps23
  go_wp2
  go_loopw [3, 4] (fun v i wr => ∃ (k : Nat) (vs : List Value), k ≤ 16 ∧ k ≤ l.length ∧ i = .int .i64 k ∧ wr.ownsRow w.heap.size 24 1 v k vs ∧ OwnRows wr w.heap.size 5 vs ((fewL l).take k) ∧ Below w.heap.size w wr) (fun _ i _ => 16 - (intOf i).toNat)
  case atStart => exact ⟨0, [], by omega, Nat.zero_le _, rfl, World.ownsRow_nil _ _ _ _, OwnRows.nil _ _ _, Below.refl _ _⟩
  case round =>
    obtain ⟨k, vs, hk, hkl, rfl, hown, hrows, hbel⟩ := hrel
    by_cases hlt : k < l.length
    · by_cases h16 : k < 16
      · obtain ⟨b, off, a', c, rfl, hb0, hcell, hlc, hsl⟩ := (hs.below hbel).row hlt
        have hstep := hide (fewL_step l k hlt h16)
        obtain ⟨q, x', hq, hx', hxl, hq50, hql⟩ := cut_at l[k] 50 50 rfl
        have hsl' := hsl.takeBytes 50
        rw [← hx'] at hsl' hstep
        generalize l[k] = x at hcell hlc hsl hq hql hx'
        generalize hxn : x.length = xn at hcell hlc hq hql
        have HXL := hide hxl
        have hd1 : decide (k < l.length) = true := by simp; omega
        clear hsl hs hxl hxn hx'
        have hown0 : (wr.alloc (.cells #[] 5)).ownsRow wr.heap.size 5 1 (.slice (some ⟨wr.heap.size, 0, none⟩) 0 0) 0 [] := World.ownsRow_made wr #[] 0 (Nat.le_refl _) (by simp [maxLen]) rfl
        have hbw : Below wr.heap.size wr (wr.alloc (.cells #[] 5)) := (Below.refl _ _).alloc (Nat.le_refl _) _
        have hlt2 := hbel.size
        have hbb : b < wr.heap.size := by omega
        have hqc1 : (0 : Int) ≤ (q : Int) := by omega
        have hqc2 : (q : Int) ≤ (c : Int) := by omega
        have HV : Hid ((vbytes x').length = q * 1) := by rw [vbytes_length, HXL.out, Nat.mul_one]; rfl
        have HR := hide (hsl'.below (hbw.mono hlt2))
        have Hq1 : Hid (0 + q ≤ maxLen) := by show 0 + q ≤ maxLen; unfold maxLen; omega
        have Hq2 : Hid ((0 + q) * 1 ≤ 140737488355328) := by show (0 + q) * 1 ≤ 140737488355328; omega
        have Hk1 : Hid (k + 1 ≤ maxLen) := by show k + 1 ≤ maxLen; unfold maxLen; omega
        have Hk2 : Hid ((k + 1) * 24 ≤ 140737488355328) := by show (k + 1) * 24 ≤ 140737488355328; omega
        have HCW := hide ((hbel.cell (p := ⟨b, off + k, none⟩) hb0).symm.trans hcell)
        have HBW := hide hbw
        have HROWS := hide hrows
        have H0 := hide hown0
        have HOWN := hide hown
        have HBEL := hide hbel
        clear hown0 hbw hsl' hown hbel hrows
        go_wp2
        go_region_held3 (fun w' => w'.cell? ⟨b, off + k, none⟩ = some (.slice a' xn c))
            (first | go_keep | exact hcA | exact hcB)
            ((first
              | (refine step_app _ rfl (.tmp 16) (.tmp 27) 24 rfl wr.heap.size 5 i0 (.int .u8 0) 1 1 Try.underlying24 Hi.out Hz0.out Hz1.out Hz2.out rfl (by decide) (.slice (some ⟨wr.heap.size, 0, none⟩) 0 0) 0 [] rfl (own_drawn H0.out ⟨1, rfl⟩) w.heap.size a' q c (vbytes x') rfl HV.out HR.out (one_vbytes x') Hq1.out Hq2.out (by simp) ?_; intro v1 w1 hownA hgA hatA; have hbA : Below wr.heap.size wr w1 := own_below (own_drawn H0.out ⟨1, rfl⟩) HBW.out.drew hgA (Nat.le_refl _) (by simp); have hcA : w1.cell? ⟨b, off + k, none⟩ = some (.slice a' xn c) := (hbA.cell (p := ⟨b, off + k, none⟩) hbb).trans hcell; rw [Nat.zero_add, List.nil_append] at hownA; obtain ⟨A1, c1, rfl, hc1, hsA, _⟩ := own_slice hownA; have hoX := (own_keep_new HOWN.out (.cells #[] 5) 1 hgA).alloc (.cells #[.slice A1 q c1] 24); have hsX : Sl (w1.alloc (.cells #[.slice A1 q c1] 24)) (w1.heap.size + 1) (some ⟨w1.heap.size, 0, none⟩) [.slice A1 q c1] := Sl.laid w1 _ _ _ _ rfl; have hbX := (HBEL.out.trans (hbA.mono hlt2)).alloc (HBEL.out.trans (hbA.mono hlt2)).size (.cells #[.slice A1 q c1] 24))
              | (refine step_app _ rfl (.tmp 15) (.tmp 29) 38 rfl w.heap.size 24 j0 (.slice none 0 0) 1 24 Try.underlying38 Gi.out Gz0.out Gz1.out Gz2.out rfl (by decide) _ k vs rfl hoX (w1.heap.size + 1) (some ⟨w1.heap.size, 0, none⟩) 1 1 [.slice A1 q c1] rfl rfl hsX (fun u hu => by simp at hu; subst hu; rfl) Hk1.out Hk2.out hbX.size ?_; intro v2 w2 hownB hgB hatB; have hbB := own_below hoX hbX hgB (Nat.le_refl _) hbX.size; have hcB : w2.cell? ⟨b, off + k, none⟩ = some (.slice a' xn c) := (hbB.cell (p := ⟨b, off + k, none⟩) hb0).trans HCW.out)))
        all_goals
          have hnew := World.ownsRow.kept (own_base hownA hlt2 |>.alloc (.cells #[.slice A1 q c1] 24)) hgB (own_ne (hownA.alloc (.cells #[.slice A1 q c1] 24)) hoX (by decide))
          have hold : OwnRows w2 w.heap.size 5 vs ((fewL l).take k) := HROWS.out.keep fun v n xs h =>
            World.ownsRow.kept ((own_keep_new h (.cells #[] 5) 1 hgA).alloc (.cells #[.slice A1 q c1] 24)) hgB (own_ne ((own_keep_new h (.cells #[] 5) 1 hgA).alloc (.cells #[.slice A1 q c1] 24)) hoX (by decide))
          have hnew' : w2.ownsRow w.heap.size 5 1 (.slice A1 q c1) x'.length (vbytes x') := by rw [HXL.out]; exact hnew
          have hall := hold.snoc hnew'
          rw [← hstep.out] at hall
          clear hnew hnew' hold hownA hgA hatA hbA hcA hsA hoX hsX hgB hatB hcB
          go_wp2
          go_roundw
          case rel => exact ⟨k + 1, _, by omega, by omega, by go_num, hownB, hall, hbB⟩
          case measure => simp [intOf]; omega
      · have hd1 : decide (k < l.length) = true := by simp; omega
        obtain rfl : k = 16 := by omega
        have hlen : (fewL l).length = 16 := by rw [fewL_length]; omega
        rw [List.take_of_length_le (by omega)] at hrows
        go_wp2
        go_ret
        exact ⟨_, _, rfl, by rw [hlen]; exact hown, hrows, hbel⟩
    · obtain rfl : k = l.length := by omega
      have hlen : (fewL l).length = l.length := by rw [fewL_length]; omega
      rw [List.take_of_length_le (by omega)] at hrows
      go_wp2
      go_ret
      exact ⟨_, _, rfl, by rw [hlen]; exact hown, hrows, hbel⟩
end Go.Proofs.Ytdfbmlaehdgcdaa
