/-
  CONTRACT OF the document's own Walk of chapter 16.
-/
import Derived.Test.YtinlnfhicnejmaaRefMake
import Derived.Test.YtinlnfhicnejmaaDagWalk
namespace Go.Proofs.Ytinlnfhicnejmaa
open Go.RowKit
set_option linter.unusedVariables false

/-- A walk goes on by the way of its answer. -/
theorem walkP_go {l : List Br} (hg : Good l) (ans : List Int) {k ka : Nat} {p : Br} (hp : l[k]? = some p) (ha : p.1 = (ka : Int)) : walkP l ans (k : Int) = walkP l ans (toP p (ansP ans ka)) := by
  have hk := (List.getElem?_eq_some_iff.1 hp).1
  have ht := good_to hg hp (ansP ans ka)
  unfold walkP
  rw [if_neg (by omega), if_neg (by omega)]
  have e : walkF l ans (((k : Int) + 2).toNat + 1) (k : Int) = walkF l ans (((k : Int) + 2).toNat) (toP p (ansP ans ka)) := by
    conv => lhs; unfold walkF
    rw [if_neg (by omega), Int.toNat_natCast, hp]
    simp only [ha, Int.toNat_natCast]
  rw [e]
  exact walkF_more hg ans _ _ _ (by omega) (by omega) (by omega) (by omega)
theorem walkP_end (l : List Br) (ans : List Int) {u : Int} (h : u < 0) : walkP l ans u = -1 - u := by
  unfold walkP
  rw [if_neg (by omega)]
  unfold walkF
  rw [if_pos h]
/-- On the way. -/
def RWRel (w : World) (l : List Br) (ans : List Int) (R : Int) (r : Value) (wr : World) : Prop := ∃ u : Int, r = .int .i64 u ∧ u < l.length ∧ -9223372036854775808 ≤ u ∧ walkP l ans u = R ∧ Below w.heap.size w wr
set_option maxHeartbeats 2000000 in
theorem rwalk_any (lo g most : Nat) (l : List Br) (v : Value) (A : Option Addr) (c n : Nat) (ans : List Int) (hn : ans.length = n) (root : Int) (w : World) (hr : -9223372036854775808 ≤ root) (hg : Good l) (h : DagV 66 w lo g most l v) (hs : Sl w w.heap.size A (vints .i64 ans)) :
    Calls Try.prog 39 #[.pointer (some ⟨g, 0, none⟩), .int .i64 root, .slice A n c] w fun e w' => e = .returned (.int .i64 (walkP l ans root)) ∧ Below w.heap.size w w' := by
  subst hn
  obtain ⟨A1, c1, hv, _⟩ := own_slice h.2.1
  subst hv
  obtain ⟨_, k1, hsl, hc, hlm, hm20⟩ := dagV_open h
  have hg0 := dagV_lt h
  have HSL := hide hsl
  have HSA := hide hs
  have HG := hide hg
  obtain ⟨R, hR⟩ : ∃ R, R = walkP l ans root := ⟨_, rfl⟩
  rw [← hR]
  have HR := hide hR
  clear h hsl hs hg hR
  by_cases hrl : (l.length : Int) ≤ root
  · have e : R = -1 := by rw [HR.out]; unfold walkP; rw [if_pos hrl]
    subst e
    clear HR
    go_enter Try.func39, Try.ntmps39
    go_wp2
    go_ret
    exact ⟨rfl, Below.refl _ _⟩
  · have hrl' : root < (l.length : Int) := by omega
    go_enter Try.func39, Try.ntmps39
    go_wp2
    go_loopw [1] (fun r wr => RWRel w l ans R r wr) (fun r _ => (intOf r + 1).toNat)
    case atStart => exact ⟨root, rfl, hrl', hr, HR.out.symm, Below.refl _ _⟩
    case round =>
      clear HR
      obtain ⟨u, rfl, hul, hu0, hw, hbel⟩ := hrel
      have HB := hide hbel
      have HW := hide hw
      clear hbel hw hr hrl hrl'
      by_cases hneg : u < 0
      · have hn0 : ¬ 0 ≤ u := by omega
        have e := walkP_end l ans hneg
        have hwr : IntKind.i64.wrap (-1 - u) = -1 - u := IntWalk.i64_in _ (by omega)
        have HE := hide (e.symm.trans HW.out)
        clear e hneg
        go_wp2
        go_ret
        exact ⟨by rw [← HE.out]; rfl, HB.out⟩
      · obtain ⟨k, rfl⟩ := Int.eq_ofNat_of_zero_le (by omega : 0 ≤ u)
        have hk : k < l.length := by omega
        obtain ⟨b, off, rfl, hb, x0, x1, x2, x3⟩ := HSL.out.branch hk
        have hp : l[k]? = some l[k] := List.getElem?_eq_getElem hk
        generalize l[k] = p at *
        obtain ⟨p0, p1, p2, p3⟩ := p
        simp only at x0 x1 x2 x3
        obtain ⟨g1, g2, g3, g4, g5⟩ := HG.out k _ hp
        simp only at g1 g2 g3 g4 g5
        obtain ⟨ka, rfl⟩ := Int.eq_ofNat_of_zero_le g1
        have hst := walkP_go HG.out ans hp rfl
        rw [HW.out] at hst
        have HST := hide hst
        have y0 := (HB.out.cell hb).trans x0
        have y1 := (HB.out.cell hb).trans x1
        have y2 := (HB.out.cell hb).trans x2
        have y3 := (HB.out.cell hb).trans x3
        have k1' := (HB.out.cell hg0).trans k1
        have HBN := hide (below_on HB.out (below_new wr (.cells #[.int .i64 (ka : Int), .int .i64 p1, .int .i64 p2, .int .i64 p3] 57)))
        have hkk : (k : Int) < (l.length : Int) := by omega
        clear hst x0 x1 x2 x3 hb hp g1 hneg HW
        by_cases hka : ka < ans.length
        · obtain ⟨b2, off2, rfl, hb2, hcx⟩ := HSA.out.at (i := ka) (x := .int .i64 ans[ka]) (by simp [vints, hka])
          have he : ansP ans ka = if ans[ka] < 0 ∨ 2 < ans[ka] then 1 else ans[ka].toNat := by unfold ansP; rw [List.getElem?_eq_getElem hka]
          have hcy : ∀ o, (wr.alloc o).cell? ⟨b2, off2 + ka, none⟩ = some (.int .i64 ans[ka]) := fun o => ((below_on HB.out (below_new wr o)).cell hb2).trans hcx
          have hka' : (ka : Int) < (ans.length : Int) := by omega
          generalize ans[ka] = q at *
          clear hcx hb2
          by_cases h1 : q < 0
          · have HE : Hid (ansP ans ka = 1) := hide (by rw [he, if_pos (.inl h1)])
            have h1' : ¬ 0 ≤ q := by omega
            clear he
            go_wp2
            go_roundw
            case rel => exact ⟨p2, rfl, by omega, by omega, by have h := HST.out; rw [HE.out] at h; exact h.symm, HBN.out⟩
            case measure => simp [intOf]; omega
          · by_cases h2 : 2 < q
            · have HE : Hid (ansP ans ka = 1) := hide (by rw [he, if_pos (.inr h2)])
              have h1' : 0 ≤ q := by omega
              have h2' : ¬ q ≤ 2 := by omega
              clear he
              go_wp2
              go_roundw
              case rel => exact ⟨p2, rfl, by omega, by omega, by have h := HST.out; rw [HE.out] at h; exact h.symm, HBN.out⟩
              case measure => simp [intOf]; omega
            · rw [if_neg (by omega)] at he
              obtain rfl | rfl | rfl : q = 0 ∨ q = 1 ∨ q = 2 := by omega
              · have HE : Hid (ansP ans ka = 0) := hide (by rw [he]; rfl)
                clear he h1 h2
                go_wp2
                go_roundw
                case rel => exact ⟨p1, rfl, by omega, by omega, by have h := HST.out; rw [HE.out] at h; exact h.symm, HBN.out⟩
                case measure => simp [intOf]; omega
              · have HE : Hid (ansP ans ka = 1) := hide (by rw [he]; rfl)
                clear he h1 h2
                go_wp2
                go_roundw
                case rel => exact ⟨p2, rfl, by omega, by omega, by have h := HST.out; rw [HE.out] at h; exact h.symm, HBN.out⟩
                case measure => simp [intOf]; omega
              · have HE : Hid (ansP ans ka = 2) := hide (by rw [he]; rfl)
                clear he h1 h2
                go_wp2
                go_roundw
                case rel => exact ⟨p3, rfl, by omega, by omega, by have h := HST.out; rw [HE.out] at h; exact h.symm, HBN.out⟩
                case measure => simp [intOf]; omega
        · have HE : Hid (ansP ans ka = 1) := hide (by unfold ansP; rw [List.getElem?_eq_none (by omega)])
          have hka' : ¬ (ka : Int) < (ans.length : Int) := by omega
          go_wp2
          go_roundw
          case rel => exact ⟨p2, rfl, by omega, by omega, by have h := HST.out; rw [HE.out] at h; exact h.symm, HBN.out⟩
          case measure => simp [intOf]; omega
end Go.Proofs.Ytinlnfhicnejmaa
