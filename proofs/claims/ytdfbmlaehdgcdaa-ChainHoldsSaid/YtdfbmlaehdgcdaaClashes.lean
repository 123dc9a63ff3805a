/-
  CONTRACT OF bailifflaw21.clashes: do two rows come to one sum at a place by unlike things, as the law reckons it. Condition: no more than 4096 records.
-/
import Derived.Test.YtdfbmlaehdgcdaaChainClash
namespace Go.Proofs.Ytdfbmlaehdgcdaa
open Go.RowKit
set_option linter.unusedVariables false

/-- The law's own answer at a place that both rows have. -/
def clashL (a b : List (List UInt8)) (k : Nat) : Bool :=
  (Fnv.after 0#64 (a.take k) != Fnv.after 0#64 (b.take k) || !(a.getD k [] == b.getD k [])) && Fnv.chain (Fnv.after 0#64 (a.take k)) (a.getD k []) == Fnv.chain (Fnv.after 0#64 (b.take k)) (b.getD k [])

set_option maxHeartbeats 1000000 in
theorem clashes_any (a b : Option Addr) (cap n c m k : Nat) (l r : List (List UInt8)) (hn : l.length = n) (hm : r.length = m) (w : World) (B : Nat) (hk1 : k < l.length) (hk2 : k < r.length) (hl : l.length ≤ 4096) (hr : r.length ≤ 4096) (hbl : ∀ x ∈ l, x.length ≤ 140737488351232) (hbr : ∀ x ∈ r, x.length ≤ 140737488351232) (hs : Rws w B a l) (ht : Rws w B b r)
    (hc : clashL l r k = true) :
    Calls Try.prog 29 #[.slice a n cap, .slice b m c, .int .i64 k] w (Quiet (.bool true) w) := by
  subst hn hm
  have hd1 : decide (l.length ≤ k) = false := by simp; omega
  have hd2 : decide (r.length ≤ k) = false := by simp; omega
  go_enter Try.func29, Try.ntmps29
  go_wp2
  go_loopw [7, 8, 9] (fun p q i wr => ∃ j : Nat, j ≤ k ∧ i = .int .i64 j ∧ p = .int .u64 (n64 (Fnv.after 0#64 (l.take j))) ∧ q = .int .u64 (n64 (Fnv.after 0#64 (r.take j))) ∧ Drawn w wr) (fun _ _ i _ => k - (intOf i).toNat)
  case atStart => exact ⟨0, Nat.zero_le _, rfl, rfl, rfl, Drawn.refl _⟩
  case round =>
    obtain ⟨j, hj, rfl, rfl, rfl, hdr⟩ := hrel
    by_cases hlt : j < k
    · have hj1 : j < l.length := by omega
      have hj2 : j < r.length := by omega
      obtain ⟨b1, o1, a1, c1, rfl, _, hx1, _, hs1⟩ := (hs.drawn hdr).row hj1
      obtain ⟨b2, o2, a2, c2, rfl, _, hx2, _, ht1⟩ := (ht.drawn hdr).row hj2
      have hlen1 := hbl _ (List.getElem_mem hj1)
      have hlen2 := hbr _ (List.getElem_mem hj2)
      have e1 := hide (Fnv.after_step l j hj1)
      have e2 := hide (Fnv.after_step r j hj2)
      have hc1 := hide (fun h q => chain_any h a1 c1 _ l[j] rfl (wr.drewN q) _ hlen1 hs1)
      have hc2 := hide (fun h q => chain_any h a2 c2 _ r[j] rfl (wr.drewN q) _ hlen2 ht1)
      have HD := hide hdr
      generalize Fnv.after 0#64 (l.take j) = p at e1 ⊢
      generalize Fnv.after 0#64 (r.take j) = q at e2 ⊢
      generalize l[j] = L at e1 hx1 hc1
      generalize r[j] = M at e2 hx2 hc2
      clear hs ht hs1 ht1 hdr hc hlen1 hlen2
      go_wp2
      go_quiet ((first | (go_at_call_of 17 (Value.slice a1 L.length c1); exact quiet_of_left (hc1.out _ _)) | (go_at_call_of 17 (Value.slice a2 M.length c2); exact quiet_of_left (hc2.out _ _))))
      go_wp2
      go_roundw
      case rel => exact ⟨j + 1, by omega, by go_num, by rw [e1.out], by rw [e2.out], HD.out.drewN _⟩
      case measure => simp [intOf]; omega
    · obtain rfl : j = k := by omega
      obtain ⟨b1, o1, a1, c1, rfl, _, hx1, _, hs1⟩ := (hs.drawn hdr).row hk1
      obtain ⟨b2, o2, a2, c2, rfl, _, hx2, _, ht1⟩ := (ht.drawn hdr).row hk2
      have hlen1 := hbl _ (List.getElem_mem hk1)
      have hlen2 := hbr _ (List.getElem_mem hk2)
      unfold clashL at hc
      rw [List.getD_eq_getElem?_getD, List.getElem?_eq_getElem hk1, List.getD_eq_getElem?_getD, List.getElem?_eq_getElem hk2, Option.getD_some, Option.getD_some] at hc
      have hc1 := hide (fun h q => chain_any h a1 c1 _ l[j] rfl (wr.drewN q) _ hlen1 hs1)
      have hc2 := hide (fun h q => chain_any h a2 c2 _ r[j] rfl (wr.drewN q) _ hlen2 ht1)
      have hsm := hide (fun q => same_any a1 a2 c1 c2 _ _ l[j] r[j] rfl rfl (wr.drewN q) _ hlen1 hlen2 hs1 ht1)
      have HD := hide hdr
      generalize Fnv.after 0#64 (l.take j) = p at hc ⊢
      generalize Fnv.after 0#64 (r.take j) = q at hc ⊢
      generalize l[j] = L at hx1 hc1 hsm hc
      generalize r[j] = M at hx2 hc2 hsm hc
      rw [Bool.and_eq_true, Bool.or_eq_true] at hc
      have q1 := n64_ne p q
      have q2 := n64_eq (Fnv.chain p L) (Fnv.chain q M)
      rw [hc.2] at q2
      clear hs ht hs1 ht1 hdr hlen1 hlen2 hlt
      cases e1 : (p == q)
      · rw [e1] at q1
        clear hc e1
        go_wp2
        go_quiet ((first | (go_at_call_of 17 (Value.slice a1 L.length c1); exact quiet_of_left (hc1.out _ _)) | (go_at_call_of 17 (Value.slice a2 M.length c2); exact quiet_of_left (hc2.out _ _))))
        go_wp2
        go_ret
        exact ⟨rfl, HD.out.drewN _⟩
      · rw [e1] at q1
        have hSM : sameB L M = false := by
          have := hc.1
          unfold bne at this
          rw [e1] at this
          simpa [sameB] using this
        rw [hSM] at hsm
        clear hc e1 hSM
        go_wp2
        go_quiet ((first | (go_at_call_of 17 (Value.slice a1 L.length c1); exact quiet_of_left (hc1.out _ _)) | (go_at_call_of 17 (Value.slice a2 M.length c2); exact quiet_of_left (hc2.out _ _)) | (go_at_call 28; exact Calls.quiet_of (hsm.out _))))
        go_wp2
        go_ret
        exact ⟨rfl, HD.out.drewN _⟩
end Go.Proofs.Ytdfbmlaehdgcdaa
