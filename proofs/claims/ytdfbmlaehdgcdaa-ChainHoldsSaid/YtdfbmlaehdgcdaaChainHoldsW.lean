/-
  THE WALK OF bailifflaw21.ChainHolds: it returns true; only new memory is laid.
-/
import Derived.Test.YtdfbmlaehdgcdaaChainGrowsW
namespace Go.Proofs.Ytdfbmlaehdgcdaa
open Go.RowKit
set_option linter.unusedVariables false

/-- A row put into an owned row of rows. -/
theorem own_put {w : World} {base g n cap : Nat} {E e : TypeId} {vs : List Value} {l : List (List UInt8)} (h : w.ownsRow base E 1 (.slice (some ⟨g, 0, none⟩) n cap) n vs) (hr : OwnRows w base e vs l) (hne : e ≠ E) (j : Nat) {v : Value} {x : List UInt8} (hv : w.ownsRow base e 1 v x.length (vbytes x)) :
    (w.setCell ⟨g, j, none⟩ v).ownsRow base E 1 (.slice (some ⟨g, 0, none⟩) n cap) n (vs.set j v) ∧ OwnRows (w.setCell ⟨g, j, none⟩ v) base e (vs.set j v) (l.set j x) ∧
      ∀ v' n' xs', w.ownsRow base e 1 v' n' xs' → (w.setCell ⟨g, j, none⟩ v).ownsRow base e 1 v' n' xs' := by
  have hs := h.stored j v
  have hk : ∀ v' n' xs', w.ownsRow base e 1 v' n' xs' → (w.setCell ⟨g, j, none⟩ v).ownsRow base e 1 v' n' xs' := fun v' n' xs' h' => World.ownsRow.kept h' hs.2 (own_ne h' h hne)
  refine ⟨hs.1, ⟨by rw [List.length_set, List.length_set]; exact hr.1, fun i y hy => ?_⟩, hk⟩
  by_cases hij : j = i
  · subst hij
    by_cases hl : j < l.length
    · rw [List.getElem?_set_self (by simpa using hl)] at hy
      injection hy with hy
      subst hy
      exact ⟨v, by rw [List.getElem?_set_self (by rw [hr.1]; simpa using hl)], hk _ _ _ hv⟩
    · rw [List.getElem?_eq_none (by rw [List.length_set]; omega)] at hy; cases hy
  · rw [List.getElem?_set_ne hij] at hy
    rw [List.getElem?_set_ne hij]
    obtain ⟨v', h1, h2⟩ := hr.2 i y hy
    exact ⟨v', h1, hk _ _ _ h2⟩
/-- What Check answers of two rows of as many sums. -/
theorem part_cases (a b : List (BitVec 64)) (h : a.length = b.length) : (a = b ∧ Fnv.part a b = -1) ∨ (a ≠ b ∧ ∃ t : Nat, Fnv.part a b = (t : Int) ∧ t < a.length) := by
  by_cases e : a = b
  · subst e; exact .inl ⟨rfl, Fnv.part_yes a⟩
  · refine .inr ⟨e, Fnv.together a b, ?_, Fnv.part_lt a b h e⟩
    unfold Fnv.part; rw [if_neg (by simpa using e)]
/-- What stands behind the changes. -/
def HoldsMid (w : World) (X : Option Addr) (x : List (List UInt8)) (n : Nat) (s : Value) (wx : World) : Prop :=
  ∃ (Y : Option Addr) (c : Nat) (y : List (List UInt8)), s = .slice Y n c ∧ y.length = n ∧ (∀ z ∈ y, z.length ≤ 50) ∧ Rws wx wx.heap.size X x ∧ Rws wx wx.heap.size Y y ∧ Below w.heap.size w wx

set_option maxHeartbeats 2000000 in
theorem chainHolds_walk (a0 : Option Addr) (cap0 : Nat) (l0 : List (List UInt8)) (n1 : Int) (n2 : Int) (n3 : Int) (a4 : Option Addr) (cap4 : Nat) (l4 : List UInt8) (w : World) (hl0 : l0.length ≤ cap0) (hm0 : cap0 ≤ maxLen) (s0 : Rws w w.heap.size a0 l0) (lo1 : -9223372036854775808 ≤ n1) (hi1 : n1 ≤ 9223372036854775807) (lo2 : -9223372036854775808 ≤ n2) (hi2 : n2 ≤ 9223372036854775807) (lo3 : -9223372036854775808 ≤ n3) (hi3 : n3 ≤ 9223372036854775807) (hl4 : l4.length ≤ cap4) (hm4 : cap4 ≤ maxLen) (s4 : Sl w w.heap.size a4 (vbytes l4)) :
    Calls Try.prog 10 #[.slice a0 l0.length cap0, .int .i64 n1, .int .i64 n2, .int .i64 n3, .slice a4 l4.length cap4] w fun e w' => e = .returned (.bool true) ∧ Below w.heap.size w w' := by
  obtain ⟨i0, hi, hz0, hz1, hz2⟩ := info_parts infoF5
  have Hi := hide hi
  have Hz0 := hide hz0
  have Hz1 := hide hz1
  have Hz2 := hide hz2
  clear hi hz0 hz1 hz2
  unfold maxLen at hm4
  go_enter Try.func10, Try.ntmps10
  go_wp2_with fail
  refine (few_any a0 cap0 _ l0 rfl w hl0 hm0 s0).mono ?_
  rintro e w1 ⟨v1, vs1, rfl, hown1, hrows1, hb1⟩
  have s0' := (s0.below hb1).more hb1.size
  have s4' := (s4.below hb1).more hb1.size
  obtain ⟨X, c1, rfl, hc1, hx⟩ := own_rws hown1 hrows1
  clear s0 s4 hown1 hrows1
  have hxl := fewL_length l0
  have hxs := hide (fewL_short l0)
  have hx16 : (fewL l0).length ≤ 16 := by omega
  generalize hX : fewL l0 = x at hx hxl hx16 hxs hc1 ⊢
  have HX := hide hX
  clear hX hxl
  by_cases h0 : x.length = 0
  · clear hx hc1 HX s0' s4'
    go_wp2_with fail
    refine (chainRuns_walk _).mono ?_
    rintro e u8 ⟨rfl, hb⟩
    have hbw := hb1.trans (hb.mono hb1.size)
    go_wp2
    go_ret
    exact ⟨rfl, hbw⟩
  · have hpos : 0 < x.length := by omega
    have hW : ∀ (m : Int) (wi : World), ∃ I : Nat, I < x.length ∧ Hid (within m 0 ((x.length : Int) - 1) = (I : Int)) := by
      intro m wi
      obtain ⟨I, hI⟩ : ∃ I : Nat, within m 0 ((x.length : Int) - 1) = (I : Int) := ⟨_, (Int.toNat_of_nonneg (within_lo m 0 ((x.length : Int) - 1) (by omega))).symm⟩
      exact ⟨I, by have := within_hi m 0 ((x.length : Int) - 1) (by omega); omega, hI⟩
    obtain ⟨I, hI, hIe⟩ := hW n1 w1
    obtain ⟨J, hJ, hJe⟩ := hW n2 w1
    obtain ⟨M, hM, hMe⟩ := hW n3 w1
    have HI := hide (fun wi => within_any n1 0 ((x.length : Int) - 1) wi (by omega) (by omega) (by omega))
    have HJ := hide (fun wi => within_any n2 0 ((x.length : Int) - 1) wi (by omega) (by omega) (by omega))
    have HM := hide (fun wi => within_any n3 0 ((x.length : Int) - 1) wi (by omega) (by omega) (by omega))
    rw [hIe.out] at HI
    rw [hJe.out] at HJ
    rw [hMe.out] at HM
    clear hW hIe hJe hMe
    go_wp2_with fail
    refine (HI.out _).mono ?_
    rintro e w' ⟨rfl, rfl⟩
    go_wp2_with fail
    refine (HJ.out _).mono ?_
    rintro e w' ⟨rfl, rfl⟩
    go_wp2_with fail
    refine (few_any a0 cap0 _ l0 rfl w1 hl0 hm0 s0').mono ?_
    rintro e w2 ⟨v2, vs2, rfl, hown, hrows, hb2⟩
    rw [HX.out] at hown hrows
    clear s0'
    obtain ⟨g, c2, hv2, hg, hgl⟩ := hown.form hpos
    subst hv2
    have gI : x[I]? = some x[I] := List.getElem?_eq_getElem hI
    have gJ : x[J]? = some x[J] := List.getElem?_eq_getElem hJ
    obtain ⟨vI, hvI, hoI⟩ := hrows.2 I _ gI
    obtain ⟨vJ, hvJ, hoJ⟩ := hrows.2 J _ gJ
    obtain ⟨AI, dI, rfl, -, -, -⟩ := own_slice hoI
    obtain ⟨AJ, dJ, rfl, -, -, -⟩ := own_slice hoJ
    have cI : w2.cell? ⟨g, I, none⟩ = some (.slice AI x[I].length dI) := by rw [hown.cellAt I (by omega)]; exact hvI
    have cJ : w2.cell? ⟨g, J, none⟩ = some (.slice AJ x[J].length dJ) := by rw [hown.cellAt J (by omega)]; exact hvJ
    have fI : w2.frozen? ⟨g, I, none⟩ = false := hown.frozenAt I
    have fJ : w2.frozen? ⟨g, J, none⟩ = false := hown.frozenAt J
    have p1 := own_put hown hrows (by decide) I hoJ
    have cS : (w2.setCell ⟨g, I, none⟩ (.slice AJ x[J].length dJ)).cell? ⟨g, J, none⟩ = some (.slice AJ x[J].length dJ) := by
      rw [p1.1.cellAt J (by omega)]
      by_cases hIJ : I = J
      · subst hIJ
        rw [List.getElem?_set_self (by rw [hrows.1]; exact hI)]
      · rw [List.getElem?_set_ne hIJ]; exact hvJ
    have fS : (w2.setCell ⟨g, I, none⟩ (.slice AJ x[J].length dJ)).frozen? ⟨g, J, none⟩ = false := p1.1.frozenAt J
    have p2 := own_put p1.1 p1.2.1 (by decide) J (p1.2.2 _ _ _ hoI)
    have hbs : Below w1.heap.size w1 ((w2.setCell ⟨g, I, none⟩ (.slice AJ x[J].length dJ)).setCell ⟨g, J, none⟩ (.slice AI x[I].length dI)) := (hb2.setCell (p := ⟨g, I, none⟩) hg _).setCell (p := ⟨g, J, none⟩) hg _
    have hys : ∀ z ∈ (x.set I x[J]).set J x[I], z.length ≤ 50 := by
      intro z hz
      rcases List.mem_or_eq_of_mem_set hz with h | rfl
      · rcases List.mem_or_eq_of_mem_set h with h | rfl
        · exact hxs.out _ h
        · exact hxs.out _ (List.getElem_mem hJ)
      · exact hxs.out _ (List.getElem_mem hI)
    have hyl : ((x.set I x[J]).set J x[I]).length = x.length := by rw [List.length_set, List.length_set]
    clear hvI hvJ hoI hoJ gI gJ p1
    have HYS := hide hys
    have HYL := hide hyl
    clear hys hyl
    generalize (x.set I x[J]).set J x[I] = y at p2 HYS HYL
    generalize hw3 : (w2.setCell ⟨g, I, none⟩ (.slice AJ x[J].length dJ)).setCell ⟨g, J, none⟩ (.slice AI x[I].length dI) = w3 at p2 hbs
    have HW3 := hide hw3
    clear hw3
    go_wp2
    go_region
    have HW3' := HW3.out
    rw [HW3']
    have p2d : w3.drew.ownsRow _ _ _ _ _ _ ∧ OwnRows w3.drew _ _ _ _ := ⟨own_drawn p2.1 ⟨1, rfl⟩, p2.2.1.keep fun v n xs h => own_drawn h ⟨1, rfl⟩⟩
    have hbd := hbs.drew
    clear p2 HW3' HW3 hbs cI cJ fI fJ cS fS hown hrows
    generalize w3.drew = w4 at p2d hbd ⊢
    obtain ⟨hown, hrows⟩ := p2d
    generalize (vs2.set I (Value.slice AJ x[J].length dJ)).set J (Value.slice AI x[I].length dI) = vs at hown hrows
    go_upto_if 55 with (fail)
    go_cut [14] from 55 to 70 (HoldsMid w1 X x x.length)
    case first =>
      generalize (Int.tmod n3 2 == 0) = par
      cases par
      · go_wp2
        go_meet
        obtain ⟨A5, c5, hv5, _, hy⟩ := own_rws hown hrows
        injection hv5 with q1 q2 q3
        subst q1 q3
        exact ⟨_, c2, y, rfl, HYL.out, HYS.out, (hx.below hbd).more hbd.size, hy, hbd⟩
      · have hmin : ∀ (ts : Array TypeId) (t : TypeId) (w : World), (Builtin.min_ ts t #[.int .i64 (l4.length : Int), .int .i64 50]).run Try.prog w = .ok (.int .i64 ((min l4.length 50 : Nat) : Int)) w := less_of l4.length 50 Try.prog
        have hsp := s4'.takeBytes (min l4.length 50)
        have HPL : Hid ((l4.take (min l4.length 50)).length = min l4.length 50) := take_len _ _ (Nat.min_le_left _ _)
        have hq50 : min l4.length 50 ≤ 50 := Nat.min_le_right _ _
        have hql : min l4.length 50 ≤ l4.length := Nat.min_le_left _ _
        generalize min l4.length 50 = q at hmin hsp HPL hq50 hql
        generalize l4.take q = p at hsp HPL
        have hMy : Hid (M < y.length) := by have : y.length = x.length := HYL.out; show M < y.length; omega
        have hqc1 : (0 : Int) ≤ (q : Int) := by omega
        have hqc2 : (q : Int) ≤ (cap4 : Int) := by omega
        have HV : Hid ((vbytes p).length = q * 1) := by rw [vbytes_length, HPL.out, Nat.mul_one]; rfl
        go_wp2_with fail
        refine (HM.out _).mono ?_
        rintro e w' ⟨rfl, rfl⟩
        have hown0 : (w4.alloc (.cells #[] 5)).ownsRow w1.heap.size 5 1 (.slice (some ⟨w4.heap.size, 0, none⟩) 0 0) 0 [] := World.ownsRow_made w4 #[] 0 hbd.size (by simp [maxLen]) rfl
        have hb0 : Below w1.heap.size w1 (w4.alloc (.cells #[] 5)) := hbd.alloc hbd.size _
        have hsp4 := hsp.below hb0
        go_wp2_with (at_builtin; refine wpList_app _ rfl (.tmp 63) (.tmp 68) 24 rfl w1.heap.size 5 i0 (.int .u8 0) 1 1 Try.underlying24 Hi.out Hz0.out Hz1.out Hz2.out rfl (by decide) (.slice (some ⟨w4.heap.size, 0, none⟩) 0 0) 0 [] rfl hown0 w1.heap.size a4 q cap4 (vbytes p) rfl HV.out hsp4 (one_vbytes p) (by unfold maxLen; omega) (by omega) hb0.size ?_; intro v5 w5 hownA hgA hatA; have hcA : Below w1.heap.size w1 w5 := own_below hown0 hb0 hgA (Nat.le_refl _) hb0.size; rw [Nat.zero_add, List.nil_append] at hownA; obtain ⟨P1, d1, rfl, -, hsA, -⟩ := own_slice hownA; have hownB := own_keep_new hown (.cells #[] 5) 0 hgA; have hrB := hrows.keep fun v n xs h => own_keep_new h (.cells #[] 5) 0 hgA; obtain ⟨vM, hvM, hoM⟩ := hrB.2 M y[M] (List.getElem?_eq_getElem hMy.out); obtain ⟨AM, dM, rfl, -, -, -⟩ := own_slice hoM; have cM : w5.cell? ⟨g, M, none⟩ = some (.slice AM y[M].length dM) := (hownB.cellAt M (by omega)).trans hvM; have fM : w5.frozen? ⟨g, M, none⟩ = false := hownB.frozenAt M)
        have hnew : w5.ownsRow w1.heap.size 5 1 (.slice P1 q d1) p.length (vbytes p) := by rw [HPL.out]; exact hownA
        have p3 := own_put hownB hrB (by decide) M hnew
        have hb3 : Below w1.heap.size w1 (w5.setCell ⟨g, M, none⟩ (.slice P1 q d1)) := hcA.setCell (p := ⟨g, M, none⟩) hg _
        obtain ⟨A5, c5, hv5, _, hy⟩ := own_rws p3.1 p3.2.1
        injection hv5 with q1 q2 q3
        subst q1 q3
        go_meet
        refine ⟨_, c2, y.set M p, rfl, by rw [List.length_set]; exact HYL.out, fun z hz => ?_, (hx.below hb3).more hb3.size, hy, hb3⟩
        rcases List.mem_or_eq_of_mem_set hz with h | rfl
        · exact HYS.out _ h
        · have : z.length = q := HPL.out; omega
    case rest =>
      obtain ⟨Y, cY, y', rfl, hyl, hys, hx, hy, hbd'⟩ := hcut
      have hbw := hb1.trans (hbd'.mono hb1.size)
      clear HYL HYS hrows hown hbd hbd' hb2 HI HJ HM Hi Hz0 Hz1 Hz2 HX s4'
      rename_i yold
      generalize y' = y at hyl hys hx hy
      have HYL' : Hid (y.length = x.length) := hyl
      have hxb : Hid (∀ z ∈ x, z.length ≤ 140737488351232) := fun z hz => by have := hxs.out z hz; omega
      have hyb : Hid (∀ z ∈ y, z.length ≤ 140737488351232) := fun z hz => by have := hys z hz; omega
      clear hyl hys
      go_wp2
      go_loopw [16, 73] (fun s i wr => ∃ k : Nat, k ≤ x.length ∧ i = .int .i64 k ∧ s = .bool (sameB (x.take k) (y.take k)) ∧ Drawn wc wr) (fun _ i _ => x.length - (intOf i).toNat)
      case atStart => exact ⟨0, Nat.zero_le _, rfl, rfl, Drawn.refl _⟩
      case round =>
        obtain ⟨k, hk, rfl, rfl, hdr⟩ := hrel
        by_cases hlt : k < x.length
        · have hka : k < x.length := by omega
          have hkb : k < y.length := by have : y.length = x.length := HYL'.out; omega
          obtain ⟨b1, o1, a1, d1, rfl, _, hx1, _, hs1⟩ := (hx.drawn hdr).row hka
          obtain ⟨b2, o2, a2, d2, rfl, _, hx2, _, ht1⟩ := (hy.drawn hdr).row hkb
          have hlen1 := hxb.out _ (List.getElem_mem hka)
          have hlen2 := hyb.out _ (List.getElem_mem hkb)
          have hst := hide (same_step x y k hka hkb)
          have hsm := hide (fun q' => same_any a1 a2 d1 d2 _ _ x[k] y[k] rfl rfl (wr.drewN q') _ hlen1 hlen2 hs1 ht1)
          have HD := hide hdr
          generalize x[k] = L at hst hx1 hsm
          generalize y[k] = M at hst hx2 hsm
          clear hs1 ht1 hdr hlen1 hlen2 hx hy
          cases e1 : sameB (x.take k) (y.take k)
          · rw [e1] at hst
            clear e1
            go_wp2
            go_quiet (fail)
            go_wp2
            go_roundw
            case rel => exact ⟨k + 1, by omega, by go_num, by rw [hst.out]; rfl, HD.out.drewN _⟩
            case measure => simp [intOf]; omega
          · rw [e1] at hst
            clear e1
            go_wp2
            go_quiet ((go_at_call 28; exact Calls.quiet_of (hsm.out _)))
            go_wp2
            go_roundw
            case rel => exact ⟨k + 1, by omega, by go_num, by rw [hst.out]; rfl, HD.out.drewN _⟩
            case measure => simp [intOf]; omega
        · obtain rfl : k = x.length := by omega
          have hpt : x.take x.length = x := List.take_of_length_le (Nat.le_refl _)
          have hqt : y.take x.length = y := List.take_of_length_le (Nat.le_of_eq HYL'.out)
          rw [hpt, hqt]
          have hx := drawn_rws hx hdr
          have hy := drawn_rws hy hdr
          have hbw := hdr.below hbw
          clear hdr hpt hqt hlt
          go_wp2_with fail
          refine (sums_any X c1 _ x rfl wr (by omega) hxb.out hx).mono ?_
          rintro e u1 ⟨t1, rfl, ho1, hb1⟩
          have hx := (hx.below hb1).more hb1.size
          have hy := (hy.below hb1).more hb1.size
          have hbw := hbw.trans (hb1.mono hbw.size)
          obtain ⟨A1, k1, rfl, -, hr1, -⟩ := own_slice ho1
          clear ho1 hb1
          have hl1 : (Fnv.sums 0#64 x).length = x.length := Fnv.sums_length x 0#64
          have hl2 : (Fnv.sums 0#64 y).length = x.length := (Fnv.sums_length y 0#64).trans HYL'.out
          have hy16 : y.length ≤ 4096 := by have : y.length = x.length := HYL'.out; omega
          have hck := check_any Y A1 cY _ k1 _ y (Fnv.sums 0#64 x) HYL'.out hl1 u1 hy16 (by omega) hyb.out hy hr1
          have hpc := hide (part_cases (Fnv.sums 0#64 y) (Fnv.sums 0#64 x) (hl2.trans hl1.symm))
          have HL2 := hide hl2
          have HY16 := hide hy16
          have hcl := hide (clash_law x y HYL'.out.symm)
          have hsb := hide (sameB_iff x y)
          have haf := hide (fun h : Fnv.sums 0#64 y = Fnv.sums 0#64 x => Fnv.after_of_sums y x h)
          clear hl1 hl2 hy16 hr1
          cases e1 : sameB x y
          · rcases hpc.out with ⟨he, hp⟩ | ⟨hne, t, hp, ht⟩
            · rw [hp] at hck
              have HCK := hide hck
              obtain ⟨c, hc, hca, hcb, hcc⟩ := hcl.out (haf.out he).symm e1
              clear hck hp he e1 hcl hsb haf hpc
              go_wp2_with fail
              refine HCK.out.mono ?_
              rintro e u2 ⟨rfl, hb1⟩
              have hx := (hx.below hb1).more hb1.size
              have hy := (hy.below hb1).more hb1.size
              have hbw := hbw.trans (hb1.mono hbw.size)
              clear hb1 HCK
              go_wp2_with fail
              refine (clash_any X Y _ _ _ _ x y rfl HYL'.out u2 (by omega) HY16.out hxb.out hyb.out hx hy).mono ?_
              rintro e u3 ⟨rfl, hb1⟩
              rw [hc]
              have hx := (hx.below hb1).more hb1.size
              have hy := (hy.below hb1).more hb1.size
              have hbw := hbw.trans (hb1.mono hbw.size)
              clear hb1
              go_wp2_with fail
              refine (clashes_any X Y _ _ _ _ c x y rfl HYL'.out u3 _ hca hcb (by omega) HY16.out hxb.out hyb.out hx hy hcc).mono ?_
              rintro e u4 ⟨rfl, hd4⟩
              have hbw : Below w.heap.size w u4 := Drawn.below hd4 hbw
              clear hd4
              go_wp2_with fail
              refine (chainRuns_walk _).mono ?_
              rintro e u8 ⟨rfl, hb1⟩
              have hbw := hbw.trans (hb1.mono hbw.size)
              go_wp2
              go_ret
              exact ⟨rfl, hbw⟩
            · rw [hp] at hck
              have HCK := hide hck
              have htl : t < x.length := by have : (Fnv.sums 0#64 y).length = x.length := HL2.out; omega
              clear hck hp hne e1 hcl hsb haf hpc hx hy ht
              go_wp2_with fail
              refine HCK.out.mono ?_
              rintro e u2 ⟨rfl, hb1⟩
              have hbw := hbw.trans (hb1.mono hbw.size)
              clear hb1 HCK
              go_wp2_with fail
              refine (chainRuns_walk _).mono ?_
              rintro e u8 ⟨rfl, hb1⟩
              have hbw := hbw.trans (hb1.mono hbw.size)
              go_wp2
              go_ret
              exact ⟨rfl, hbw⟩
          · have hxy : y = x := (hsb.out.1 e1).symm
            have hp : Fnv.part (Fnv.sums 0#64 y) (Fnv.sums 0#64 x) = -1 := by rw [hxy]; exact Fnv.part_yes _
            rw [hp] at hck
            have HCK := hide hck
            clear hck hp hxy e1 hcl hsb haf hpc hx hy
            go_wp2_with fail
            refine HCK.out.mono ?_
            rintro e u2 ⟨rfl, hb1⟩
            have hbw := hbw.trans (hb1.mono hbw.size)
            clear hb1 HCK
            go_wp2_with fail
            refine (chainRuns_walk _).mono ?_
            rintro e u8 ⟨rfl, hb1⟩
            have hbw := hbw.trans (hb1.mono hbw.size)
            go_wp2
            go_ret
            exact ⟨rfl, hbw⟩
end Go.Proofs.Ytdfbmlaehdgcdaa
