/-
  THE WALK OF bailifflaw21.ChainLast: it returns true; only new memory is laid.
-/
import Derived.Test.YtdfbmlaehdgcdaaChainTellsW
import Derived.Test.YtdfbmlaehdgcdaaClashes
namespace Go.Proofs.Ytdfbmlaehdgcdaa
open Go.RowKit
set_option linter.unusedVariables false

theorem same_step (a b : List (List UInt8)) (k : Nat) (ha : k < a.length) (hb : k < b.length) : sameB (a.take (k + 1)) (b.take (k + 1)) = (sameB (a.take k) (b.take k) && sameB a[k] b[k]) := by
  rw [Bool.eq_iff_iff, Bool.and_eq_true, sameB_iff, sameB_iff, sameB_iff, List.take_add_one, List.take_add_one, List.getElem?_eq_getElem ha, List.getElem?_eq_getElem hb, Option.toList_some, Option.toList_some]
  constructor
  · intro h
    have := List.append_inj' h rfl
    exact ⟨this.1, by simpa using this.2⟩
  · rintro ⟨h1, h2⟩; rw [h1, h2]
/-- The last sum is the number behind all. -/
theorem last_sum (a : List (List UInt8)) (n : Nat) (hn : a.length = n) (h0 : 0 < n) (h : n - 1 < (Fnv.sums 0#64 a).length) : (Fnv.sums 0#64 a)[n - 1] = Fnv.after 0#64 a := by
  rw [Fnv.sums_at a (n - 1) (by omega) h, show n - 1 + 1 = n by omega, List.take_of_length_le (by omega)]
/-- A clash that is found is one by the law's own reckoning. -/
theorem clash_law (a b : List (List UInt8)) (hl : a.length = b.length) (h : Fnv.after 0#64 a = Fnv.after 0#64 b) (hn : sameB a b = false) :
    ∃ k : Nat, Fnv.clash a b = (k : Int) ∧ k < a.length ∧ k < b.length ∧ clashL a b k = true := by
  obtain ⟨k, hc, ha, hb, hp⟩ := Fnv.clash_found a b hl h (fun e => by rw [(sameB_iff a b).2 e] at hn; cases hn)
  refine ⟨k, hc, ha, hb, ?_⟩
  unfold clashL
  rw [List.getD_eq_getElem?_getD, List.getElem?_eq_getElem ha, List.getD_eq_getElem?_getD, List.getElem?_eq_getElem hb, Option.getD_some, Option.getD_some]
  exact hp
theorem drawn_rws {w w' : World} {a : Option Addr} {l : List (List UInt8)} (h : Rws w w.heap.size a l) (hd : Drawn w w') : Rws w' w'.heap.size a l := by
  rw [hd.heap]; exact h.keep fun p _ => hd.cell p
theorem drawn_sl {w w' : World} {a : Option Addr} {xs : List Value} (h : Sl w w.heap.size a xs) (hd : Drawn w w') : Sl w' w'.heap.size a xs := by
  rw [hd.heap]; exact h.drawn hd

set_option maxHeartbeats 2000000 in
theorem chainLast_walk (a0 : Option Addr) (cap0 : Nat) (l0 : List (List UInt8)) (a1 : Option Addr) (cap1 : Nat) (l1 : List (List UInt8)) (w : World) (hl0 : l0.length ≤ cap0) (hm0 : cap0 ≤ maxLen) (s0 : Rws w w.heap.size a0 l0) (hl1 : l1.length ≤ cap1) (hm1 : cap1 ≤ maxLen) (s1 : Rws w w.heap.size a1 l1) :
    Calls Try.prog 11 #[.slice a0 l0.length cap0, .slice a1 l1.length cap1] w fun e w' => e = .returned (.bool true) ∧ Below w.heap.size w w' := by
  go_enter Try.func11, Try.ntmps11
  go_wp2_with fail
  refine (few_any a0 cap0 _ l0 rfl w hl0 hm0 s0).mono ?_
  rintro e w1 ⟨v1, vs1, rfl, hown1, hrows1, hb1⟩
  have s1' := (s1.below hb1).more hb1.size
  clear s0 s1
  go_wp2_with fail
  refine (few_any a1 cap1 _ l1 rfl w1 hl1 hm1 s1').mono ?_
  rintro e w2 ⟨v2, vs2, rfl, hown2, hrows2, hb2⟩
  obtain ⟨X, c1, rfl, hc1, hx⟩ := own_rws hown1 hrows1
  obtain ⟨Y, c2, rfl, hc2, hy⟩ := own_rws hown2 hrows2
  have hx2 := (hx.below hb2).more hb2.size
  have hbw := hb1.trans (hb2.mono hb1.size)
  have hxl := fewL_length l0
  have hyl := fewL_length l1
  have hxs := hide (fewL_short l0)
  have hys := hide (fewL_short l1)
  generalize fewL l0 = x at hx2 hxl hxs hc1 ⊢
  generalize fewL l1 = y at hy hyl hys hc2 ⊢
  clear hown1 hrows1 hown2 hrows2 hx s1' hb1 hb2
  have hx16 : x.length ≤ 16 := by omega
  have hy16 : y.length ≤ 16 := by omega
  clear hxl hyl
  have hln := less_of x.length y.length Try.prog
  have hx3 := hx2.take (min x.length y.length)
  have hy3 := hy.take (min x.length y.length)
  have hxn := hide (take_len x (min x.length y.length) (Nat.min_le_left _ _))
  have hyn := hide (take_len y (min x.length y.length) (Nat.min_le_right _ _))
  have hxb : Hid (∀ z ∈ x.take (min x.length y.length), z.length ≤ 140737488351232) := fun z hz => by have := hxs.out z (List.mem_of_mem_take hz); omega
  have hyb : Hid (∀ z ∈ y.take (min x.length y.length), z.length ≤ 140737488351232) := fun z hz => by have := hys.out z (List.mem_of_mem_take hz); omega
  have hn1 : min x.length y.length ≤ x.length := Nat.min_le_left _ _
  have hn2 : min x.length y.length ≤ y.length := Nat.min_le_right _ _
  generalize hN : min x.length y.length = n at hln hx3 hy3 hxn hyn hxb hyb hn1 hn2
  clear hN hx2 hy hxs hys
  have i1 : (0 : Int) ≤ (n : Int) := by omega
  have i2 : (n : Int) ≤ (c1 : Int) := by omega
  have i3 : (n : Int) ≤ (c2 : Int) := by omega
  have j2 : n ≤ c1 := by omega
  have j3 : n ≤ c2 := by omega
  have hn16 : n ≤ 16 := by omega
  generalize x.take n = p at hx3 hxn hxb
  generalize y.take n = q at hy3 hyn hyb
  go_wp2
  go_quiet (fail)
  have hd0 : Drawn w2 (w2.drewN nq) := (Drawn.refl _).drewN _
  have hx := drawn_rws hx3 hd0
  have hy := drawn_rws hy3 hd0
  have hbw := hd0.below hbw
  generalize w2.drewN nq = w3 at hx hy hbw ⊢
  clear hd0 hx3 hy3
  have hp16 : Hid (p.length ≤ 4096) := by have : p.length = n := hxn.out; show p.length ≤ 4096; omega
  have hq16 : Hid (q.length ≤ 4096) := by have : q.length = n := hyn.out; show q.length ≤ 4096; omega
  go_wp2_with fail
  refine (sums_any X c1 n p hxn.out w3 hp16.out hxb.out hx).mono ?_
  rintro e u1 ⟨t1, rfl, ho1, hb1⟩
  have hx := (hx.below hb1).more hb1.size
  have hy := (hy.below hb1).more hb1.size
  have hbw := hbw.trans (hb1.mono hbw.size)
  go_wp2_with fail
  refine (sums_any Y c2 n q hyn.out u1 hq16.out hyb.out hy).mono ?_
  rintro e u2 ⟨t2, rfl, ho2, hb2⟩
  have hx := (hx.below hb2).more hb2.size
  have hy := (hy.below hb2).more hb2.size
  have hbw := hbw.trans (hb2.mono hbw.size)
  rw [show p.length = n from hxn.out] at ho1
  rw [show q.length = n from hyn.out] at ho2
  obtain ⟨A1, k1, rfl, _, hr1, _⟩ := own_slice ho1
  obtain ⟨A2, k2, rfl, _, hr2, _⟩ := own_slice ho2
  have hr1 := (hr1.below hb2).more hb2.size
  have hol1 := hide ((Fnv.sums_length p 0#64).trans hxn.out)
  have hol2 := hide ((Fnv.sums_length q 0#64).trans hyn.out)
  have HN1 : Hid (p.length = n) := hxn
  have HN2 : Hid (q.length = n) := hyn
  clear ho1 ho2 hb1 hb2
  go_wp2
  go_loopw [10, 43] (fun s i wr => ∃ k : Nat, k ≤ n ∧ i = .int .i64 k ∧ s = .bool (sameB (p.take k) (q.take k)) ∧ Drawn u2 wr) (fun _ i _ => n - (intOf i).toNat)
  case atStart => exact ⟨0, Nat.zero_le _, rfl, rfl, Drawn.refl _⟩
  case round =>
    obtain ⟨k, hk, rfl, rfl, hdr⟩ := hrel
    by_cases hlt : k < n
    · have hka : k < p.length := by have : p.length = n := HN1.out; omega
      have hkb : k < q.length := by have : q.length = n := HN2.out; omega
      obtain ⟨b1, o1, a1, d1, rfl, _, hx1, _, hs1⟩ := (hx.drawn hdr).row hka
      obtain ⟨b2, o2, a2, d2, rfl, _, hx2, _, ht1⟩ := (hy.drawn hdr).row hkb
      have hlen1 := hxb.out _ (List.getElem_mem hka)
      have hlen2 := hyb.out _ (List.getElem_mem hkb)
      have hst := hide (same_step p q k hka hkb)
      have hsm := hide (fun q' => same_any a1 a2 d1 d2 _ _ p[k] q[k] rfl rfl (wr.drewN q') _ hlen1 hlen2 hs1 ht1)
      have HD := hide hdr
      generalize p[k] = L at hst hx1 hsm
      generalize q[k] = M at hst hx2 hsm
      clear hs1 ht1 hdr hlen1 hlen2 hx hy hr1 hr2
      cases e1 : sameB (p.take k) (q.take k)
      · rw [e1] at hst
        clear e1
        go_wp2
        go_quiet (fail)
        go_wp2
        go_roundw
        case rel => exact ⟨k + 1, by omega, by go_num, by rw [hst.out]; rfl, HD.out.drewN _⟩
        case measure => simp [intOf]; omega
      · rw [e1] at hst
        clear e1
        go_wp2
        go_quiet ((go_at_call 28; exact Calls.quiet_of (hsm.out _)))
        go_wp2
        go_roundw
        case rel => exact ⟨k + 1, by omega, by go_num, by rw [hst.out]; rfl, HD.out.drewN _⟩
        case measure => simp [intOf]; omega
    · obtain rfl : k = n := by omega
      have hpt : p.take k = p := List.take_of_length_le (Nat.le_of_eq HN1.out)
      have hqt : q.take k = q := List.take_of_length_le (Nat.le_of_eq HN2.out)
      rw [hpt, hqt]
      have hx := drawn_rws hx hdr
      have hy := drawn_rws hy hdr
      have hr1 := drawn_sl hr1 hdr
      have hr2 := drawn_sl hr2 hdr
      have hbw := hdr.below hbw
      clear hdr hpt hqt hlt
      by_cases h0 : k = 0
      · have z0 : ((k : Int) == 0) = true := by simp; omega
        have HB := hide hbw
        clear h0 hx hy hr1 hr2
        cases e1 : sameB p q
        all_goals
          clear e1
          go_wp2
          go_quiet (fail)
          have hb := below_drewN HB.out nq
          generalize wr.drewN nq = w5 at hb ⊢
          go_wp2_with fail
          refine (chainRuns_walk _).mono ?_
          rintro e u8 ⟨rfl, hb1⟩
          have hbw := hb.trans (hb1.mono hb.size)
          go_wp2
          go_ret
          exact ⟨rfl, hbw⟩
      · have z0 : ((k : Int) == 0) = false := by simp; omega
        have hk1 : 1 ≤ k := by omega
        have g1 : k - 1 < (Fnv.sums 0#64 p).length := by have : (Fnv.sums 0#64 p).length = k := hol1.out; omega
        have g2 : k - 1 < (Fnv.sums 0#64 q).length := by have : (Fnv.sums 0#64 q).length = k := hol2.out; omega
        obtain ⟨b5, o5, rfl, _, hy1⟩ := hr1.word g1
        obtain ⟨b6, o6, rfl, _, hy2⟩ := hr2.word g2
        rw [last_sum p k HN1.out (by omega) g1] at hy1
        rw [last_sum q k HN2.out (by omega) g2] at hy2
        have q2 := n64_ne (Fnv.after 0#64 p) (Fnv.after 0#64 q)
        have hcl := hide (clash_law p q (HN1.out.trans HN2.out.symm))
        have hsn := hide (fun h : sameB p q = true => congrArg (Fnv.after 0#64) ((sameB_iff p q).1 h))
        clear hr1 hr2 g1 g2 h0
        generalize Fnv.after 0#64 p = P1 at hy1 q2 hcl hsn
        generalize Fnv.after 0#64 q = P2 at hy2 q2 hcl hsn
        have HB := hide hbw
        cases e2 : (P1 == P2)
        · rw [e2] at q2
          have hs0 : sameB p q = false := by
            cases e : sameB p q
            · rfl
            · have := hsn.out e
              subst this
              simp at e2
          rw [hs0]
          clear hs0 hcl hsn hx hy e2
          go_wp2
          go_quiet (fail)
          have hb := below_drewN HB.out nq
          generalize wr.drewN nq = w5 at hb ⊢
          go_wp2_with fail
          refine (chainRuns_walk _).mono ?_
          rintro e u8 ⟨rfl, hb1⟩
          have hbw := hb.trans (hb1.mono hb.size)
          go_wp2
          go_ret
          exact ⟨rfl, hbw⟩
        · rw [e2] at q2
          cases e1 : sameB p q
          · obtain ⟨c, hc, hca, hcb, hcc⟩ := hcl.out (beq_iff_eq.1 e2) e1
            clear hcl hsn e1 e2
            go_wp2
            go_quiet (fail)
            have hd := (Drawn.refl wr).drewN nq
            have hx := drawn_rws hx hd
            have hy := drawn_rws hy hd
            have hb := below_drewN HB.out nq
            generalize wr.drewN nq = w5 at hb hx hy ⊢
            go_wp2_with fail
            refine (clash_any X Y _ _ _ _ p q HN1.out HN2.out w5 hp16.out hq16.out hxb.out hyb.out hx hy).mono ?_
            rintro e w6 ⟨rfl, hb1⟩
            rw [hc]
            have hx := (hx.below hb1).more hb1.size
            have hy := (hy.below hb1).more hb1.size
            have hb := hb.trans (hb1.mono hb.size)
            go_wp2_with fail
            refine (clashes_any X Y _ _ _ _ c p q HN1.out HN2.out w6 _ hca hcb hp16.out hq16.out hxb.out hyb.out hx hy hcc).mono ?_
            rintro e w7 ⟨rfl, hd7⟩
            have hb : Below w.heap.size w w7 := Drawn.below hd7 hb
            go_wp2_with fail
            refine (chainRuns_walk _).mono ?_
            rintro e u8 ⟨rfl, hb1⟩
            have hbw := hb.trans (hb1.mono hb.size)
            go_wp2
            go_ret
            exact ⟨rfl, hbw⟩
          · clear hcl hsn e1 e2 hx hy
            go_wp2
            go_quiet (fail)
            have hb := below_drewN HB.out nq
            generalize wr.drewN nq = w5 at hb ⊢
            go_wp2_with fail
            refine (chainRuns_walk _).mono ?_
            rintro e u8 ⟨rfl, hb1⟩
            have hbw := hb.trans (hb1.mono hb.size)
            go_wp2
            go_ret
            exact ⟨rfl, hbw⟩
end Go.Proofs.Ytdfbmlaehdgcdaa
