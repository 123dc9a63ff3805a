/-
  CONTRACTS OF chain.ahead, chain.Clash AND THE DOCUMENT'S OWN Clash: the first place at which two rows of records have one sum of two unlike things. Condition: no more than 4096 records.
-/
import Derived.Test.YtdfbmlaehdgcdaaChainCheck
import Derived.Test.YtdfbmlaehdgcdaaBytes
namespace Go.Proofs.Ytdfbmlaehdgcdaa
open Go.RowKit
set_option linter.unusedVariables false
theorem Rws.drawn {w w' : World} {B : Nat} {a : Option Addr} {l : List (List UInt8)} (h : Rws w B a l) (hd : Drawn w w') : Rws w' B a l := h.keep fun p _ => hd.cell p

theorem ahead_any (a : Option Addr) (c n k : Nat) (s : List (BitVec 64)) (hn : s.length = n) (w : World) (B : Nat) (hl : s.length ≤ 4096) (hk : k ≤ s.length) (hs : Sl w B a (vw s)) :
    Calls Try.prog 30 #[.slice a n c, .int .i64 k] w fun e w' => e = .returned (.int .u64 (n64 (Fnv.ahead s k))) ∧ w = w' := by
  subst hn
  by_cases h0 : k = 0
  · subst h0
    go_enter Try.func30, Try.ntmps30
    go_wp2
    go_ret
    exact ⟨rfl, rfl⟩
  · have hlt : k - 1 < s.length := by omega
    obtain ⟨b, off, rfl, _, hc⟩ := hs.word hlt
    have hz : ((k : Int) == 0) = false := by simp; omega
    have hp : 1 ≤ k := by omega
    have hr : Hid (Fnv.ahead s k = s[k - 1]) := by
      show Fnv.ahead s k = _
      unfold Fnv.ahead
      rw [if_neg h0, List.getD_eq_getElem?_getD, List.getElem?_eq_getElem hlt, Option.getD_some]
    generalize s[k - 1] = x at hc hr
    clear h0 hs
    go_enter Try.func30, Try.ntmps30
    go_wp2
    go_ret
    exact ⟨by rw [hr.out]; rfl, rfl⟩

/-- p is answered no below k. -/
def NoneB (p : Nat → Bool) (k : Nat) : Prop := ∀ j, j < k → p j = false
theorem NoneB.zero (p : Nat → Bool) : NoneB p 0 := fun j hj => absurd hj (Nat.not_lt_zero j)
theorem NoneB.step {p : Nat → Bool} {k : Nat} (h : NoneB p k) (hk : p k = false) : NoneB p (k + 1) := fun j hj => by
  rcases Nat.lt_or_ge j k with h' | h'
  · exact h j h'
  · obtain rfl : j = k := by omega
    exact hk
/-- The less of two lengths. -/
theorem less_of (p q : Nat) (P : Program) (ts : Array TypeId) (t : TypeId) (w : World) : (Builtin.min_ ts t #[.int .i64 (p : Int), .int .i64 (q : Int)]).run P w = .ok (.int .i64 ((min p q : Nat) : Int)) w := by
  simp [Builtin.min_, Builtin.min2]
  split <;> omega

set_option maxHeartbeats 1000000 in
theorem clash_any (a b : Option Addr) (cap n c m : Nat) (l r : List (List UInt8)) (hn : l.length = n) (hm : r.length = m) (w : World) (hl : l.length ≤ 4096) (hr : r.length ≤ 4096) (hbl : ∀ x ∈ l, x.length ≤ 140737488351232) (hbr : ∀ x ∈ r, x.length ≤ 140737488351232) (hs : Rws w w.heap.size a l) (ht : Rws w w.heap.size b r) :
    Calls Try.prog 22 #[.slice a n cap, .slice b m c] w (CheckPost w (Fnv.clash l r)) := by
  subst hn hm
  go_enter Try.func22, Try.ntmps22
  go_wp2_with fail
  refine (sums_any a cap _ l rfl w hl hbl hs).mono ?_
  rintro e w1 ⟨v, rfl, hown, hb1⟩
  have ht1 := ht.below hb1
  go_wp2_with fail
  refine (sums_any b c _ r rfl w1 hr hbr (ht1.more hb1.size)).mono ?_
  rintro e w2 ⟨v2, rfl, hown2, hb2⟩
  obtain ⟨A1, c1, rfl, hc1, ho1, _⟩ := own_slice hown
  obtain ⟨A2, c2, rfl, hc2, ho2, _⟩ := own_slice hown2
  have hs2 := (hs.below hb1).below (hb2.mono hb1.size)
  have ht2 := ht1.below (hb2.mono hb1.size)
  have ho12 := ho1.below hb2
  have hb12 := hb1.trans (hb2.mono hb1.size)
  have hat := hide (Fnv.clashAt_at l r)
  have hc0 := hide (Fnv.clash_first l r)
  have hcn := hide (Fnv.clash_none l r)
  have hx1 := Fnv.sums_length l 0#64
  have hx2 := Fnv.sums_length r 0#64
  have hln := less_of l.length r.length Try.prog
  generalize hR : Fnv.clash l r = R at hc0 hcn
  have HR := hide hR
  clear hR
  generalize Fnv.clashAt l r = p at hat hc0 hcn
  generalize Fnv.sums 0#64 l = x at hown ho12 ho1 hat hx1
  generalize Fnv.sums 0#64 r = y at hown2 ho2 hat hx2
  have HX1 := hide hx1
  have HX2 := hide hx2
  generalize hN : min l.length r.length = N at hln hc0 hcn
  have hN1 : N ≤ l.length := by omega
  have hN2 : N ≤ r.length := by omega
  have hN3 : N ≤ 4096 := by omega
  clear hx1 hx2 hN hown hown2 ho1 hs ht ht1 hb1 hb2
  go_wp2
  go_loopw [17] (fun i wr => ∃ k : Nat, k ≤ N ∧ i = .int .i64 k ∧ NoneB p k ∧ Drawn w2 wr) (fun i _ => N - (intOf i).toNat)
  case atStart => exact ⟨0, Nat.zero_le _, rfl, NoneB.zero p, Drawn.refl _⟩
  case round =>
    obtain ⟨k, hk, rfl, hpj, hdr⟩ := hrel
    have HPJ := hide hpj
    clear hpj
    have hs3 := hs2.drawn hdr
    have ht3 := ht2.drawn hdr
    have ho3 := ho12.drawn hdr
    have ho4 := ho2.drawn hdr
    have HB := hide (hdr.below hb12)
    have HD := hide hdr
    clear hs2 ht2 ho12 ho2 hdr hb12
    by_cases hlt : k < N
    · have hka : k < l.length := by omega
      have hkb : k < r.length := by omega
      have hk1 : k < x.length := by rw [HX1.out]; exact hka
      have hk2 : k < y.length := by rw [HX2.out]; exact hkb
      have hp := hat.out k hka hkb hk1 hk2
      obtain ⟨b1, o1, rfl, _, hx1⟩ := ho3.word hk1
      obtain ⟨b2, o2, rfl, _, hx2⟩ := ho4.word hk2
      obtain ⟨b3, o3, a3, c3, rfl, _, hx3, _, hs5⟩ := hs3.row hka
      obtain ⟨b4, o4, a4, c4, rfl, _, hx4, _, ht5⟩ := ht3.row hkb
      have q1 := n64_eq x[k] y[k]
      have q2 := n64_ne (Fnv.ahead x k) (Fnv.ahead y k)
      have hah1 := hide (fun q => ahead_any (some ⟨b1, o1, none⟩) c1 l.length k x HX1.out (wr.drewN q) _ (by rw [HX1.out]; exact hl) (by omega) ho3)
      have hah2 := hide (fun q => ahead_any (some ⟨b2, o2, none⟩) c2 r.length k y HX2.out (wr.drewN q) _ (by rw [HX2.out]; exact hr) (by omega) ho4)
      have heq5 := hide (fun q => equal_any a3 a4 c3 c4 _ _ l[k] r[k] rfl rfl (wr.drewN q) _ hs5 ht5)
      generalize Fnv.ahead x k = A1 at q2 hp hah1
      generalize Fnv.ahead y k = A2 at q2 hp hah2
      generalize l[k] = L at hp hx3 heq5
      generalize r[k] = M at hp hx4 heq5
      generalize x[k] = X at hp hx1 q1
      generalize y[k] = Y at hp hx2 q1
      have hsb : (L == M) = sameB L M := rfl
      rw [hsb] at hp
      clear hs3 ht3 ho3 ho4 hat hs5 ht5 hsb
      cases e1 : (X == Y)
      · rw [e1] at q1 hp
        have hp2 := hide (show p k = false by rw [hp]; rfl)
        clear hp e1
        go_wp2
        go_quiet (fail)
        go_wp2
        go_roundw
        case rel => exact ⟨k + 1, by omega, by go_num, HPJ.out.step hp2.out, HD.out.drewN _⟩
        case measure => simp [intOf]; omega
      · rw [e1] at q1 hp
        clear e1
        cases e2 : (A1 == A2)
        · rw [e2] at q2
          have hp2 := hide (show p k = true by rw [hp]; unfold bne; rw [e2]; rfl)
          have hres := hide (hc0.out k HPJ.out hlt hp2.out)
          clear hp e2
          go_wp2
          go_quiet ((first | (go_at_call_of 30 (Value.slice (some ⟨b1, o1, none⟩) l.length c1); exact quiet_of_left (hah1.out _)) | (go_at_call_of 30 (Value.slice (some ⟨b2, o2, none⟩) r.length c2); exact quiet_of_left (hah2.out _))))
          go_wp2
          go_ret
          exact ⟨by rw [HR.out, hres.out]; rfl, below_drewN HB.out _⟩
        · rw [e2] at q2
          rw [show (A1 != A2) = false by unfold bne; rw [e2]; rfl] at hp
          clear e2
          cases e3 : sameB L M
          · rw [e3] at hp heq5
            have hp2 := hide (show p k = true by rw [hp]; rfl)
            have hres := hide (hc0.out k HPJ.out hlt hp2.out)
            clear hp e3
            go_wp2
            go_quiet ((first | (go_at_call_of 30 (Value.slice (some ⟨b1, o1, none⟩) l.length c1); exact quiet_of_left (hah1.out _)) | (go_at_call_of 30 (Value.slice (some ⟨b2, o2, none⟩) r.length c2); exact quiet_of_left (hah2.out _)) | (go_at_call 31; exact quiet_of_left (heq5.out _))))
            go_wp2
            go_ret
            exact ⟨by rw [HR.out, hres.out]; rfl, below_drewN HB.out _⟩
          · rw [e3] at hp heq5
            have hp2 := hide (show p k = false by rw [hp]; rfl)
            clear hp e3
            go_wp2
            go_quiet ((first | (go_at_call_of 30 (Value.slice (some ⟨b1, o1, none⟩) l.length c1); exact quiet_of_left (hah1.out _)) | (go_at_call_of 30 (Value.slice (some ⟨b2, o2, none⟩) r.length c2); exact quiet_of_left (hah2.out _)) | (go_at_call 31; exact quiet_of_left (heq5.out _))))
            go_wp2
            go_roundw
            case rel => exact ⟨k + 1, by omega, by go_num, HPJ.out.step hp2.out, HD.out.drewN _⟩
            case measure => simp [intOf]; omega
    · obtain rfl : k = N := by omega
      have hres := hide (hcn.out HPJ.out)
      go_wp2
      go_ret
      exact ⟨by rw [HR.out, hres.out]; rfl, HB.out⟩
set_option maxHeartbeats 1000000 in
theorem refclash_any (a b : Option Addr) (cap n c m : Nat) (l r : List (List UInt8)) (hn : l.length = n) (hm : r.length = m) (w : World) (hl : l.length ≤ 4096) (hr : r.length ≤ 4096) (hbl : ∀ x ∈ l, x.length ≤ 140737488351232) (hbr : ∀ x ∈ r, x.length ≤ 140737488351232) (hs : Rws w w.heap.size a l) (ht : Rws w w.heap.size b r) :
    Calls Try.prog 27 #[.slice a n cap, .slice b m c] w (CheckPost w (Fnv.clash l r)) := by
  subst hn hm
  go_enter Try.func27, Try.ntmps27
  go_wp2_with fail
  refine (refsums_any a cap _ l rfl w hl hbl hs).mono ?_
  rintro e w1 ⟨v, rfl, hown, hb1⟩
  have ht1 := ht.below hb1
  go_wp2_with fail
  refine (refsums_any b c _ r rfl w1 hr hbr (ht1.more hb1.size)).mono ?_
  rintro e w2 ⟨v2, rfl, hown2, hb2⟩
  obtain ⟨A1, c1, rfl, hc1, ho1, _⟩ := own_slice hown
  obtain ⟨A2, c2, rfl, hc2, ho2, _⟩ := own_slice hown2
  have hs2 := (hs.below hb1).below (hb2.mono hb1.size)
  have ht2 := ht1.below (hb2.mono hb1.size)
  have ho12 := ho1.below hb2
  have hb12 := hb1.trans (hb2.mono hb1.size)
  have hat := hide (Fnv.clashAt_at l r)
  have hc0 := hide (Fnv.clash_first l r)
  have hcn := hide (Fnv.clash_none l r)
  have hx1 := Fnv.sums_length l 0#64
  have hx2 := Fnv.sums_length r 0#64
  generalize hR : Fnv.clash l r = R at hc0 hcn
  have HR := hide hR
  clear hR
  generalize Fnv.clashAt l r = p at hat hc0 hcn
  generalize Fnv.sums 0#64 l = x at hown ho12 ho1 hat hx1
  generalize Fnv.sums 0#64 r = y at hown2 ho2 hat hx2
  have HX1 := hide hx1
  have HX2 := hide hx2
  generalize hN : min l.length r.length = N at hc0 hcn
  have hN1 : N ≤ l.length := by omega
  have hN2 : N ≤ r.length := by omega
  have hN3 : N ≤ 4096 := by omega
  have hN4 : l.length ≤ N ∨ r.length ≤ N := by omega
  clear hx1 hx2 hN hown hown2 ho1 hs ht ht1 hb1 hb2
  go_wp2
  go_loopw [7] (fun i wr => ∃ k : Nat, k ≤ N ∧ i = .int .i64 k ∧ NoneB p k ∧ Drawn w2 wr) (fun i _ => N - (intOf i).toNat)
  case atStart => exact ⟨0, Nat.zero_le _, rfl, NoneB.zero p, Drawn.refl _⟩
  case round =>
    obtain ⟨k, hk, rfl, hpj, hdr⟩ := hrel
    have HPJ := hide hpj
    clear hpj
    have hs3 := hs2.drawn hdr
    have ht3 := ht2.drawn hdr
    have ho3 := ho12.drawn hdr
    have ho4 := ho2.drawn hdr
    have HB := hide (hdr.below hb12)
    have HD := hide hdr
    clear hs2 ht2 ho12 ho2 hdr hb12
    by_cases hlt : k < N
    · have hka : k < l.length := by omega
      have hkb : k < r.length := by omega
      have hk1 : k < x.length := by rw [HX1.out]; exact hka
      have hk2 : k < y.length := by rw [HX2.out]; exact hkb
      have hp := hat.out k hka hkb hk1 hk2
      obtain ⟨b1, o1, rfl, _, hx1⟩ := ho3.word hk1
      obtain ⟨b2, o2, rfl, _, hx2⟩ := ho4.word hk2
      obtain ⟨b3, o3, a3, c3, rfl, _, hx3, _, hs5⟩ := hs3.row hka
      obtain ⟨b4, o4, a4, c4, rfl, _, hx4, _, ht5⟩ := ht3.row hkb
      have q1 := n64_eq x[k] y[k]
      have q2 := n64_ne (Fnv.ahead x k) (Fnv.ahead y k)
      have hcv1 := hide (fun q => run_text (P := Try.prog) (wr.drewN q) 24 9 5 a3 c3 _ _ l[k] rfl Try.underlying24 Try.underlying5 Try.underlying9 hs5)
      have hcv2 := hide (fun q => run_text (P := Try.prog) (wr.drewN q) 24 9 5 a4 c4 _ _ r[k] rfl Try.underlying24 Try.underlying5 Try.underlying9 ht5)
      have hA0 : k = 0 → Fnv.ahead x k = 0#64 ∧ Fnv.ahead y k = 0#64 := by rintro rfl; exact ⟨rfl, rfl⟩
      have hA1 : ¬ k = 0 → ∃ (j1 : k - 1 < x.length) (j2 : k - 1 < y.length), Fnv.ahead x k = x[k - 1] ∧ Fnv.ahead y k = y[k - 1] := by
        intro h0
        refine ⟨by omega, by omega, ?_, ?_⟩ <;> (unfold Fnv.ahead; rw [if_neg h0, List.getD_eq_getElem?_getD, List.getElem?_eq_getElem (by omega), Option.getD_some])
      have HA0 := hide hA0
      have HA1 := hide hA1
      clear hA0 hA1
      generalize l[k] = L at hp hx3 hcv1
      generalize r[k] = M at hp hx4 hcv2
      generalize x[k] = X at hp hx1 q1
      generalize y[k] = Y at hp hx2 q1
      have t1 := text_toList L
      have t2 := text_toList M
      have hd1 : decide (k < l.length) = true := by simp; omega
      have hd2 : decide (k < r.length) = true := by simp; omega
      cases e1 : (X == Y)
      · rw [e1] at q1 hp
        have hp2 := hide (show p k = false by rw [hp]; rfl)
        clear hp e1 hs3 ht3 ho3 ho4 hat hs5 ht5 q2
        go_wp2
        go_quiet (fail)
        go_wp2
        go_roundw
        case rel => exact ⟨k + 1, by omega, by go_num, HPJ.out.step hp2.out, HD.out.drewN _⟩
        case measure => simp [intOf]; omega
      · rw [e1] at q1 hp
        clear e1
        by_cases h0 : k = 0
        · obtain ⟨z1, z2⟩ := HA0.out h0
          rw [z1, z2] at hp
          clear q2 z1 z2
          have hk0 : ¬ 0 < k := by omega
          have hcv3 := hcv1.out
          have hcv4 := hcv2.out
          cases e3 : (L == M)
          · rw [e3] at hp
            have hp2 := hide (show p k = true by rw [hp]; rfl)
            have hres := hide (hc0.out k HPJ.out hlt hp2.out)
            have hLM : (L != M) = true := by unfold bne; rw [e3]; rfl
            clear hp hs3 ht3 ho3 ho4 hat hs5 ht5 h0
            go_wp2
            go_quiet (fail)
            go_wp2
            go_quiet (fail)
            go_wp2
            go_ret
            exact ⟨by rw [HR.out, hres.out]; rfl, below_drewN (below_drewN HB.out _) _⟩
          · rw [e3] at hp
            have hp2 := hide (show p k = false by rw [hp]; rfl)
            have hLM : (L != M) = false := by unfold bne; rw [e3]; rfl
            clear hp hs3 ht3 ho3 ho4 hat hs5 ht5 h0
            go_wp2
            go_quiet (fail)
            go_wp2
            go_quiet (fail)
            go_wp2
            go_roundw
            case rel => exact ⟨k + 1, by omega, by go_num, HPJ.out.step hp2.out, HD.out.drewN _⟩
            case measure => simp [intOf]; omega
        · obtain ⟨j1, j2, z1, z2⟩ := HA1.out h0
          obtain ⟨b5, o5, hq5, _, hy1⟩ := ho3.word j1
          obtain ⟨b6, o6, hq6, _, hy2⟩ := ho4.word j2
          injection hq5 with hq5
          injection hq5 with hq5 hq7
          injection hq6 with hq6
          injection hq6 with hq6 hq8
          subst hq5 hq7 hq6 hq8
          rw [z1, z2] at hp
          rw [z1, z2] at q2
          have HP := hide hp
          clear z1 z2 hp
          generalize x[k - 1] = A1 at q2 hy1 HP
          generalize y[k - 1] = A2 at q2 hy2 HP
          have hk0 : 0 < k := by omega
          have hk1' : 1 ≤ k := by omega
          have hcv3 := hcv1.out
          have hcv4 := hcv2.out
          cases e2 : (A1 == A2)
          · rw [e2] at q2
            have hp2 := hide (show p k = true by rw [HP.out]; unfold bne; rw [e2]; rfl)
            have hres := hide (hc0.out k HPJ.out hlt hp2.out)
            clear hs3 ht3 ho3 ho4 hat hs5 ht5 h0 e2 HP hcv3 hcv4
            go_wp2
            go_quiet (fail)
            go_wp2
            go_quiet (fail)
            go_wp2
            go_quiet (fail)
            go_wp2
            go_ret
            exact ⟨by rw [HR.out, hres.out]; rfl, below_drewN (below_drewN (below_drewN HB.out _) _) _⟩
          · rw [e2] at q2
            cases e3 : (L == M)
            · have hp2 := hide (show p k = true by rw [HP.out, e3]; unfold bne; rw [e2]; rfl)
              have hres := hide (hc0.out k HPJ.out hlt hp2.out)
              have hLM : (L != M) = true := by unfold bne; rw [e3]; rfl
              clear hs3 ht3 ho3 ho4 hat hs5 ht5 h0 e2 HP
              go_wp2
              go_quiet (fail)
              go_wp2
              go_quiet (fail)
              go_wp2
              go_quiet (fail)
              go_wp2
              go_ret
              exact ⟨by rw [HR.out, hres.out]; rfl, below_drewN (below_drewN (below_drewN HB.out _) _) _⟩
            · have hp2 := hide (show p k = false by rw [HP.out, e3]; unfold bne; rw [e2]; rfl)
              have hLM : (L != M) = false := by unfold bne; rw [e3]; rfl
              clear hs3 ht3 ho3 ho4 hat hs5 ht5 h0 e2 HP
              go_wp2
              go_quiet (fail)
              go_wp2
              go_quiet (fail)
              go_wp2
              go_quiet (fail)
              go_wp2
              go_roundw
              case rel => exact ⟨k + 1, by omega, by go_num, HPJ.out.step hp2.out, HD.out.drewN _⟩
              case measure => simp [intOf]; omega
    · obtain rfl : k = N := by omega
      have hres := hide (hcn.out HPJ.out)
      clear hat
      by_cases h1 : k < l.length
      · have h2 : ¬ k < r.length := by omega
        go_wp2
        go_ret
        exact ⟨by rw [HR.out, hres.out]; rfl, HB.out⟩
      · go_wp2
        go_ret
        exact ⟨by rw [HR.out, hres.out]; rfl, HB.out⟩
end Go.Proofs.Ytdfbmlaehdgcdaa
