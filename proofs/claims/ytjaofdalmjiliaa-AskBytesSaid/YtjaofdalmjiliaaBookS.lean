/-
  CONTRACTS OF THE STATEMENTS OWN HELPERS (package bailiffbook), the part that a seat without Roomy has: Within, Same at bytes.
-/
import Derived.Test.YtjaofdalmjiliaaRows
import Derived.Test.YtjaofdalmjiliaaBase
import Derived.Laws.CopyOwn
import Derived.Deep.OwnRows
import Derived.Deep.QuietTactic
import Derived.BigQuiet
namespace Go.Proofs.Ytjaofdalmjiliaa
open Go.RowKit

/-- A number brought into lo .. hi. -/
def within (n lo hi : Int) : Int := lo + n % (hi - lo + 1)
theorem within_lo (n lo hi : Int) (h : lo ≤ hi) : lo ≤ within n lo hi := by
  unfold within; have := Int.emod_nonneg n (show hi - lo + 1 ≠ 0 by omega); omega
theorem within_hi (n lo hi : Int) (h : lo ≤ hi) : within n lo hi ≤ hi := by
  unfold within; have := Int.emod_lt_of_pos n (show 0 < hi - lo + 1 by omega); omega

theorem within_any (n lo hi : Int) (w : World) (h1 : 0 ≤ lo) (h2 : lo ≤ hi) (h3 : hi ≤ 1000000) :
    Calls Try.prog 13 #[.int .i64 n, .int .i64 lo, .int .i64 hi] w fun e w' => e = .returned (.int .i64 (within n lo hi)) ∧ w = w' := by
  have hm := Int.tmod_lt_of_pos n (show 0 < hi - lo + 1 by omega)
  have hm2 : -(hi - lo + 1) < n.tmod (hi - lo + 1) := by have := Int.lt_tmod_of_pos n (show 0 < hi - lo + 1 by omega); omega
  have hme := hide (Int.tmod_eq_emod (a := n) (b := hi - lo + 1))
  by_cases h0 : n.tmod (hi - lo + 1) < 0
  · have he : within n lo hi = lo + (n.tmod (hi - lo + 1) + hi - lo + 1) := by
      unfold within
      have := Int.emod_nonneg n (show hi - lo + 1 ≠ 0 by omega)
      have := Int.emod_lt_of_pos n (show 0 < hi - lo + 1 by omega)
      have h4 := hme.out
      split at h4
      · omega
      · rw [h4]; omega
    have He := hide he
    clear hme he
    go_enter Try.func13, Try.ntmps13
    go_wp2
    go_ret
    exact ⟨by rw [He.out]; rfl, rfl⟩
  · have he : within n lo hi = lo + n.tmod (hi - lo + 1) := by
      unfold within
      have := Int.emod_nonneg n (show hi - lo + 1 ≠ 0 by omega)
      have := Int.emod_lt_of_pos n (show 0 < hi - lo + 1 by omega)
      have h4 := hme.out
      split at h4
      · omega
      · exfalso
        omega
    have He := hide he
    clear hme he
    go_enter Try.func13, Try.ntmps13
    go_wp2
    go_ret
    exact ⟨by rw [He.out]; rfl, rfl⟩
/-- It returned v, and drew at most. -/
def Quiet (v : Value) (w : World) (e : Ending) (w' : World) : Prop := e = .returned v ∧ ∃ n, w' = w.drewN n
/-- Are two lists the same? (a name that the walk does not open) -/
def sameB {α : Type} [BEq α] (l m : List α) : Bool := l == m
theorem byte_ne (a b : UInt8) : ((a.toNat : Int) != (b.toNat : Int)) = !(a == b) := by
  by_cases h : a = b
  · subst h; simp
  · have : ¬ ((a.toNat : Int) = b.toNat) := fun e => h (UInt8.toNat_inj.1 (by omega))
    simp [this, bne, beq_eq_false_iff_ne.2 h]
theorem take_step {α : Type} (l m : List α) (k : Nat) (h : l.take k = m.take k) (hl : k < l.length) (hm : k < m.length) (e : l[k] = m[k]) : l.take (k + 1) = m.take (k + 1) := by
  rw [List.take_add_one, List.take_add_one, h, List.getElem?_eq_getElem hl, List.getElem?_eq_getElem hm, e]
theorem sameB_iff {α : Type} [BEq α] [LawfulBEq α] (l m : List α) : sameB l m = true ↔ l = m := by unfold sameB; exact beq_iff_eq
theorem same_no {α : Type} [BEq α] [LawfulBEq α] (l m : List α) (h : ¬ l.length = m.length) : sameB l m = false := by
  rw [Bool.eq_false_iff]; intro e; exact h (by rw [(sameB_iff l m).1 e])
theorem same_no_at {α : Type} [BEq α] [LawfulBEq α] (l m : List α) (k : Nat) (hl : k < l.length) (hm : k < m.length) (h : ¬ l[k] = m[k]) : sameB l m = false := by
  rw [Bool.eq_false_iff]; intro e; obtain rfl := (sameB_iff l m).1 e; exact h rfl
theorem same_yes {α : Type} [BEq α] [LawfulBEq α] (l m : List α) (h : l.length = m.length) (hk : l.take l.length = m.take l.length) : sameB l m = true := by
  rw [sameB_iff, ← List.take_length (l := l), hk, h, List.take_length]
set_option maxHeartbeats 400000 in
theorem same_any (a b : Option Addr) (c d i j : Nat) (l m : List UInt8) (hi : l.length = i) (hj : m.length = j) (w : World) (B : Nat) (hl : l.length ≤ 140737488351232) (hm : m.length ≤ 140737488351232) (hs : Sl w B a (vbytes l)) (ht : Sl w B b (vbytes m)) :
    Calls Try.prog 9 #[.slice a i c, .slice b j d] w (Quiet (.bool (sameB l m)) w) := by
  subst hi hj
  by_cases hlen : l.length = m.length
  · have hb1 : ((l.length : Int) != (m.length : Int)) = false := by rw [hlen]; simp
    have hle : l.length ≤ m.length := by omega
    have HL := hide hlen
    clear hlen
    go_enter Try.func9, Try.ntmps9
    go_wp2
    go_loopw [5] (fun i wr => ∃ k n : Nat, k ≤ l.length ∧ i = .int .i64 k ∧ l.take k = m.take k ∧ wr = w.drewN n) (fun i _ => l.length - (intOf i).toNat)
    case atStart => exact ⟨0, 0, by omega, rfl, rfl, rfl⟩
    case round =>
      obtain ⟨k, n, hk, rfl, hkk, rfl⟩ := hrel
      have HK := hide hkk
      clear hkk
      by_cases hlt : k < l.length
      · have hlt2 : k < m.length := by omega
        obtain ⟨x, ox, rfl, _, hcx⟩ := hs.byte hlt
        obtain ⟨y, oy, rfl, _, hcy⟩ := ht.byte hlt2
        have hne := byte_ne l[k] m[k]
        have hstep := hide (take_step l m k HK.out hlt hlt2)
        clear hs ht
        by_cases he : l[k] = m[k]
        · rw [beq_iff_eq.2 he] at hne
          have hstep' := hide (hstep.out he)
          clear hstep he
          generalize l[k] = p at hne hcx
          generalize m[k] = q at hne hcy
          go_wp2
          go_quiet (fail)
          go_wp2
          go_roundw
          case rel => exact ⟨k + 1, n + nq, by omega, by go_num, hstep'.out, rfl⟩
          case measure => simp [intOf]; omega
        · rw [beq_eq_false_iff_ne.2 he] at hne
          have hfin := hide (same_no_at l m k hlt hlt2 he)
          clear hstep he
          generalize l[k] = p at hne hcx
          generalize m[k] = q at hne hcy
          go_wp2
          go_quiet (fail)
          go_wp2
          go_ret
          exact ⟨by rw [hfin.out]; rfl, n + nq, World.drewN_drewN w n nq⟩
      · obtain rfl : k = l.length := by omega
        have hfin := hide (same_yes l m HL.out HK.out)
        go_wp2
        go_ret
        exact ⟨by rw [hfin.out]; rfl, n, rfl⟩
  · have hb1 : ((l.length : Int) != (m.length : Int)) = true := by rw [bne_iff_ne]; omega
    have hfin := hide (same_no l m hlen)
    clear hlen
    go_enter Try.func9, Try.ntmps9
    go_wp2
    go_ret
    exact ⟨by rw [hfin.out]; rfl, 0, rfl⟩

end Go.Proofs.Ytjaofdalmjiliaa
