/-
  CONTRACT OF bailifflaw1.put: items behind each other.
-/
import Derived.Test.YtinlnfhicnejmaaPkBackP
import Derived.Test.YtinlnfhicnejmaaPkWrongP
import Derived.Deep.RegionHeld3
namespace Go.Proofs.Ytinlnfhicnejmaa
open Go.RowKit
set_option linter.unusedVariables false

theorem own_lower {w : World} {B B' : Nat} {e : TypeId} {size n : Nat} {v : Value} {xs : List Value} (h : w.ownsRow B e size v n xs) (hB : B' ≤ B) : w.ownsRow B' e size v n xs := by
  refine ⟨h.1, ?_⟩
  rcases h.2 with ⟨h1, h2⟩ | ⟨g, cap, cur, h1, h2, h3⟩
  · exact .inl ⟨h1, h2⟩
  · exact .inr ⟨g, cap, cur, h1, Nat.le_trans hB h2, h3⟩
/-- So many items are laid. -/
def PutRel (w : World) (its : List It) (v i : Value) (wr : World) : Prop :=
  ∃ k : Nat, k ≤ its.length ∧ i = .int .i64 k ∧ wr.ownsRow w.heap.size 5 1 v (putP (its.take k)).length (vbytes (putP (its.take k))) ∧ Below w.heap.size w wr
set_option maxHeartbeats 1000000 in
theorem put_any (a : Option Addr) (c n : Nat) (its : List It) (hn : its.length = n) (w : World) (h20 : n ≤ 20) (hok : ∀ x ∈ its, Okay x) (hs : Sl w w.heap.size a (cells3 (its.map itemV))) :
    Calls Try.prog 28 #[.slice a n c] w (BytesPost w (putP its)) := by
  subst hn
  have HS := hide hs
  have HOK := hide hok
  have HL := hide (fun k => Nat.le_trans (putP_take_le its k) (putP_len its hok).2)
  clear hs hok
  go_enter Try.func28, Try.ntmps28
  go_wp2
  go_loopw [3, 4] (fun v i wr => PutRel w its v i wr) (fun _ i _ => its.length - (intOf i).toNat)
  case atStart => exact ⟨0, Nat.zero_le _, rfl, World.ownsRow_nil _ _ _ _, Below.refl _ _⟩
  case round =>
    obtain ⟨k, hk, rfl, hown, hbel⟩ := hrel
    have HOW := hide hown
    have HBE := hide hbel
    obtain ⟨aV, cV, rfl, hcV, hsV⟩ := own_sl hown
    have HSV := hide hsV
    clear hown hbel hsV
    by_cases hlt : k < its.length
    · have h20' : (k : Int) < 20 := by omega
      obtain ⟨b, off, rfl, hb, c0, c1, c2⟩ := Sl.triple HS.out (i := k) (by simpa using hlt)
      have hx : (its.map itemV)[k]'(by simpa using hlt) = itemV its[k] := by simp
      rw [hx] at c0 c1 c2
      have hok := HOK.out _ (List.getElem_mem hlt)
      have hst := hide (putP_step its k hlt)
      have hk1 : IntKind.i64.wrap ((k : Int) + 1) = (k : Int) + 1 := IntWalk.i64_in _ (by omega)
      have hll := HL.out k
      have HB := hide hb
      obtain ⟨⟨bt, m, s⟩, hxe⟩ : ∃ x, x = its[k] := ⟨_, rfl⟩
      rw [← hxe] at c0 c1 c2 hok hst
      have d0 := (HBE.out.cell hb).trans c0
      have d1 := (HBE.out.cell hb).trans c1
      have d2 := (HBE.out.cell hb).trans c2
      simp only [itemV] at d0 d1 d2
      clear c0 c1 c2 hxe hx hb
      generalize putP (its.take k) = T at *
      cases bt
      · have hN := hide (fun w hs => num_any aV cV T.length m T rfl w hok.1 hok.2 (by omega) hs)
        clear d2 hok
        go_wp2_with fail
        refine (hN.out wr HSV.out).mono ?_
        rw [show T ++ numP m = putP (its.take (k + 1)) from hst.out.symm]
        rintro e w1 ⟨v, rfl, hown, hb1⟩
        have HO1 := hide (own_lower hown HBE.out.size)
        have HB1 := hide (below_on HBE.out hb1)
        clear hown hb1 d0 d1
        go_wp2
        go_roundw
        case rel => exact ⟨k + 1, hlt, by go_num, HO1.out, HB1.out⟩
        case measure => simp [intOf]; omega
      · have hm := less_40 s.size Try.prog
        have hX := hide (fun w hs => text_any aV cV T.length (s40 s) T rfl w (by have := s40_len s; have h : (s40 s).data.toList.length = (s40 s).size := bytes_len _; omega) (by omega) hs)
        have hE : Hid (s.extract 0 (min s.size 40) = s40 s) := rfl
        have hs1 : min s.size 40 ≤ s.size := Nat.min_le_left _ _
        generalize min s.size 40 = m40 at hm hE hs1
        change Hid (putP (its.take (k + 1)) = T ++ textP (s40 s).data.toList) at hst
        generalize s40 s = s4 at hX hE hst
        have e1 := hE.out
        clear d1 hok hE
        have hbw : b < wr.heap.size := Nat.lt_of_lt_of_le HB.out HBE.out.size
        have HBW := hide hbw
        clear hbw
        go_wp2
        go_region_held3 (fun w' => w'.cell? ⟨b, off + k * 3 + 2, none⟩ = some (.string s) ∧ Below wr.heap.size wr w')
          (first | assumption | exact ⟨d2, (Below.refl _ _).drew⟩ | exact hcA)
          ((go_at_call 20
            refine (hX.out _ (sl_on HSV.out (And.right (by assumption)))).mono ?_
            rintro e wA ⟨vA, rfl, hownA, hbA⟩
            have hbW : Below wr.heap.size wr wA := below_on (And.right (by assumption)) hbA
            have hcA : wA.cell? ⟨b, off + k * 3 + 2, none⟩ = some (.string s) ∧ Below wr.heap.size wr wA := ⟨(hbW.cell HBW.out).trans d2, hbW⟩))
        have hst' : T ++ textP s4.data.toList = putP (its.take (k + 1)) := hst.out.symm
        have HO1 := hide (own_lower hownA (B' := w.heap.size) (Nat.le_trans HBE.out.size (Nat.le_refl _)))
        have HB1 := hide (below_on HBE.out hcA.2)
        go_wp2
        go_roundw
        case rel => exact ⟨k + 1, hlt, by go_num, by rw [← hst']; exact HO1.out, HB1.out⟩
        case measure => simp [intOf]; omega
    · obtain rfl : k = its.length := by omega
      have HO2 : Hid (wr.ownsRow w.heap.size 5 1 (.slice aV (putP (its.take its.length)).length cV) (putP its).length (vbytes (putP its))) := hide (by have := HOW.out; rw [List.take_length] at this ⊢; exact this)
      clear HOW HSV HS HOK HL
      go_wp2
      go_ret
      exact ⟨_, rfl, HO2.out, HBE.out⟩
end Go.Proofs.Ytinlnfhicnejmaa
