/-
  THE WALK OF bailifflaw2.SumTurned: it returns true; only new memory is laid.
-/
import Derived.Test.YtdfbmlaehdgcdaaSumRunsW
import Derived.Test.YtdfbmlaehdgcdaaBook
import Derived.Test.YtdfbmlaehdgcdaaAppend
import Derived.Test.YtdfbmlaehdgcdaaSumTurnedP
namespace Go.Proofs.Ytdfbmlaehdgcdaa
open Go.RowKit
set_option linter.unusedVariables false

theorem infoT : (Try.prog.info? 5).map (fun i => (i.zero, i.size, i.bytes)) = some (some (.int .u8 0), 1, 1) := by kernel_rfl
theorem size5 : (Try.prog.info? 5).map (·.size) = some 1 := by kernel_rfl
set_option maxHeartbeats 2000000 in
theorem arr4_eq (a b c d : Int) (W : World) : (Op.equalIn 10000 26 (.agg #[.int .u8 a, .int .u8 b, .int .u8 c, .int .u8 d]) (.agg #[.int .u8 0, .int .u8 0, .int .u8 0, .int .u8 0])).run Try.prog W =
    .ok (a == 0 && b == 0 && c == 0 && d == 0) W := by
  obtain ⟨i, hi, hs⟩ := Option.map_eq_some_iff.1 size5
  show (Op.equalIn (9999 + 1) 26 _ _).run Try.prog W = _
  unfold Op.equalIn
  have hag : ∀ W, (isAgg 5).run Try.prog W = .ok false W := fun W => by simp [isAgg, run_underlying Try.underlying5]
  have he : ∀ (x : Int) W, (Op.equalIn 9999 5 (.int .u8 x) (.int .u8 0)).run Try.prog W = .ok (x == 0) W := fun x W => run_equalIn_int W 9998 5 .u8 .u8 x 0 Try.underlying5
  simp [run_underlying Try.underlying26, typeInfo, hi, hs, sizeOf]
  rw [show List.range' 0 4 = [0, 1, 2, 3] from rfl]
  simp only [List.forIn_cons, List.forIn_nil]
  by_cases ha : a = 0
  · by_cases hb : b = 0
    · by_cases hc : c = 0
      · by_cases hd : d = 0
        · simp [hag, he, part, ha, hb, hc, hd]
        · simp [hag, he, part, ha, hb, hc, hd]
      · simp [hag, he, part, ha, hb, hc]
    · simp [hag, he, part, ha, hb]
  · simp [hag, he, part, ha]

/-- A row of cells, one of which is stored anew, as bytes. -/
theorem vbytes_set (l : List UInt8) (i : Nat) (c : UInt8) : (vbytes l).set i (.int .u8 (c.toNat : Int)) = vbytes (l.set i c) := by
  unfold vbytes; rw [List.map_set]

set_option maxHeartbeats 1000000 in
theorem sumTurned_walk (a0 : Option Addr) (cap0 : Nat) (l0 : List UInt8) (n1 : Int) (p2a p2b p2c p2d : UInt8) (w : World) (hl0 : l0.length ≤ cap0) (hm0 : cap0 ≤ maxLen) (s0 : Sl w w.heap.size a0 (vbytes l0)) (lo1 : -9223372036854775808 ≤ n1) (hi1 : n1 ≤ 9223372036854775807) :
    Calls Try.prog 4 #[.slice a0 l0.length cap0, .int .i64 n1, .agg #[.int .u8 p2a.toNat, .int .u8 p2b.toNat, .int .u8 p2c.toNat, .int .u8 p2d.toNat]] w fun e w' => e = .returned (.bool true) ∧ Below w.heap.size w w' := by
  unfold maxLen at hm0
  by_cases hz : l0.length = 0
  · obtain rfl : l0 = [] := List.eq_nil_of_length_eq_zero hz
    clear hz s0
    go_enter Try.func4, Try.ntmps4
    go_wp2_with fail
    refine (sumRuns_walk _).mono ?_
    rintro e w' ⟨rfl, hb4⟩
    go_wp2
    go_ret
    exact ⟨rfl, ((Below.refl _ _).alloc (Nat.le_refl _) _).trans (hb4.mono (by simp))⟩
  obtain ⟨n, l, hmn, hl, hln, hn, hn2⟩ := cut_at l0 200 200 rfl
  have hpos : 0 < n := by
    rw [hl, List.length_take] at hln; omega
  have hs := s0.takeBytes 200
  rw [← hl] at hs
  have HLN := hide hln
  clear hl hln s0 hz
  have hz1 : ((n : Int) == 0) = false := by simp; omega
  have heq := arr4_eq (p2a.toNat : Int) (p2b.toNat : Int) (p2c.toNat : Int) (p2d.toNat : Int)
  cases hall : ((p2a.toNat : Int) == 0 && (p2b.toNat : Int) == 0 && (p2c.toNat : Int) == 0 && (p2d.toNat : Int) == 0)
  case true =>
    rw [hall] at heq
    clear hall
    go_enter Try.func4, Try.ntmps4
    go_wp2_with fail
    refine (sumRuns_walk _).mono ?_
    rintro e w' ⟨rfl, hb4⟩
    go_wp2
    go_ret
    exact ⟨rfl, ((Below.refl _ _).alloc (Nat.le_refl _) _).trans (hb4.mono (by simp))⟩
  case false =>
    rw [hall] at heq
    clear hall
    go_enter Try.func4, Try.ntmps4
    obtain ⟨i0, hi, hz0, hz1', hz2⟩ := info_parts infoT
    have Hi := hide hi
    have Hz0 := hide hz0
    have Hz1 := hide hz1'
    have Hz2 := hide hz2
    clear hi hz0 hz1' hz2
    have HV : Hid ((vbytes l).length = n * 1) := by rw [vbytes_length, HLN.out, Nat.mul_one]; rfl
    have hb0 : Below w.heap.size w (w.alloc (.cells #[.int .u8 (p2a.toNat : Int), .int .u8 (p2b.toNat : Int), .int .u8 (p2c.toNat : Int), .int .u8 (p2d.toNat : Int)] 26)) := (Below.refl _ _).alloc (Nat.le_refl _) _
    have hT : ∀ (T : List UInt8), T = [p2a, p2b, p2c, p2d] → ∀ j, j < 4 → (h : j < T.length) → (w.alloc (.cells #[.int .u8 (p2a.toNat : Int), .int .u8 (p2b.toNat : Int), .int .u8 (p2c.toNat : Int), .int .u8 (p2d.toNat : Int)] 26)).cell? ⟨w.heap.size, j, none⟩ = some (.int .u8 (T[j].toNat : Int)) := by
      rintro T rfl j hj h
      rw [World.cell?_alloc_mark]
      match j, hj with
      | 0, _ => rfl
      | 1, _ => rfl
      | 2, _ => rfl
      | 3, _ => rfl
    have hsz : (w.alloc (.cells #[.int .u8 (p2a.toNat : Int), .int .u8 (p2b.toNat : Int), .int .u8 (p2c.toNat : Int), .int .u8 (p2d.toNat : Int)] 26)).heap.size = w.heap.size + 1 := by simp
    have HT := hide hT
    have HS := hide hsz
    clear hT hsz
    have hown0 : ((w.alloc (.cells #[.int .u8 (p2a.toNat : Int), .int .u8 (p2b.toNat : Int), .int .u8 (p2c.toNat : Int), .int .u8 (p2d.toNat : Int)] 26)).alloc (.cells #[] 5)).ownsRow (w.heap.size + 1) 5 1 (.slice (some ⟨w.heap.size + 1, 0, none⟩) 0 0) 0 [] := by
      have := World.ownsRow_made (base := w.heap.size + 1) (e := 5) (size := 1) (w.alloc (.cells #[.int .u8 (p2a.toNat : Int), .int .u8 (p2b.toNat : Int), .int .u8 (p2c.toNat : Int), .int .u8 (p2d.toNat : Int)] 26)) #[] 0 (by rw [HS.out]; exact Nat.le_refl _) (by simp [maxLen]) rfl
      rwa [HS.out] at this
    have hbw : Below (w.heap.size + 1) (w.alloc (.cells #[.int .u8 (p2a.toNat : Int), .int .u8 (p2b.toNat : Int), .int .u8 (p2c.toNat : Int), .int .u8 (p2d.toNat : Int)] 26)) ((w.alloc (.cells #[.int .u8 (p2a.toNat : Int), .int .u8 (p2b.toNat : Int), .int .u8 (p2c.toNat : Int), .int .u8 (p2d.toNat : Int)] 26)).alloc (.cells #[] 5)) := (Below.refl _ _).alloc (by rw [HS.out]; exact Nat.le_refl _) _
    have hs0 := (hs.below hb0).below (hbw.mono (Nat.le_succ _))
    go_wp2_with (first
      | (at_builtin; refine wpList_app _ rfl (.tmp 25) (.tmp 26) 24 rfl (w.heap.size + 1) 5 i0 (.int .u8 0) 1 1 Try.underlying24 Hi.out Hz0.out Hz1.out Hz2.out rfl (by decide) (.slice (some ⟨w.heap.size + 1, 0, none⟩) 0 0) 0 [] rfl hown0 w.heap.size a0 n cap0 (vbytes l) rfl HV.out hs0 (one_vbytes l) (by unfold maxLen; omega) (by omega) (by simp) ?_; intro v1 w1 hown1 hg1 hat1))
    have hb1 : Below (w.heap.size + 1) (w.alloc (.cells #[.int .u8 (p2a.toNat : Int), .int .u8 (p2b.toNat : Int), .int .u8 (p2c.toNat : Int), .int .u8 (p2d.toNat : Int)] 26)) w1 := own_below hown0 hbw hg1 (Nat.le_refl _) (by simp)
    rw [Nat.zero_add, List.nil_append] at hown1
    obtain ⟨g, c, hv1, hg, hglt⟩ := hown1.form hpos
    subst hv1
    have hK := within_any n1 0 ((n : Int) - 1) w1 (by omega) (by omega) (by omega)
    obtain ⟨K, hKe⟩ : ∃ K : Nat, within n1 0 ((n : Int) - 1) = (K : Int) := ⟨_, (Int.toNat_of_nonneg (within_lo n1 0 ((n : Int) - 1) (by omega))).symm⟩
    have hKn : K < n := by have := within_hi n1 0 ((n : Int) - 1) (by omega); omega
    rw [hKe] at hK
    refine hK.mono ?_
    rintro e w' ⟨rfl, rfl⟩
    clear hK hKe hown0 hbw hs0 hat1 hg1 heq hmn
    obtain ⟨T, hTe⟩ : ∃ T : List UInt8, T = [p2a, p2b, p2c, p2d] := ⟨_, rfl⟩
    have HTc := hide (HT.out T hTe)
    have hTl : T.length = 4 := by rw [hTe]; rfl
    have HTl := hide hTl
    have H0 := hide hb0
    have HN := hide HS.out
    clear hTe HT hTl HS hb0
    have h0 : hown1 = hown1 := rfl
    clear h0
    rw [← Crc.turned_zero l K T] at hown1
    generalize (w.alloc (.cells #[.int .u8 (p2a.toNat : Int), .int .u8 (p2b.toNat : Int), .int .u8 (p2c.toNat : Int), .int .u8 (p2d.toNat : Int)] 26)) = W at hb1 HTc H0 HN
    go_wp2
    go_loopw [9, 10] (fun s i wr => ∃ j : Nat, j ≤ 4 ∧ K + j ≤ n ∧ i = .int .i64 j ∧ s = .bool (Crc.noughts T j) ∧ wr.ownsRow (w.heap.size + 1) 5 1 (.slice (some ⟨g, 0, none⟩) n c) n (vbytes (Crc.turned l K T j)) ∧ Below (w.heap.size + 1) W wr) (fun _ i _ => 4 - (intOf i).toNat)
    case atStart => exact ⟨0, by omega, by omega, rfl, rfl, hown1, hb1⟩
    case round =>
      obtain ⟨j, hj, hKj, rfl, rfl, hown, hb⟩ := hrel
      clear hown1 hb1
      by_cases hj4 : j < 4
      · by_cases hjn : K + j < n
        · have hKl : K + j < l.length := by rw [HLN.out]; exact hjn
          have hjT : j < T.length := by rw [HTl.out]; exact hj4
          have fc : wr.cell? ⟨g, K + j, none⟩ = some (.int .u8 (l[K + j].toNat : Int)) := by
            rw [hown.cellAt (K + j) (by omega), vbytes_at, Crc.turned_at l K T j hKl (by omega)]; rfl
          have ff : wr.frozen? ⟨g, K + j, none⟩ = false := hown.frozenAt (K + j)
          have ft : wr.cell? ⟨w.heap.size, j, none⟩ = some (.int .u8 (T[j].toNat : Int)) := (hb.cell (p := ⟨w.heap.size, j, none⟩) (Nat.lt_succ_self _)).trans (HTc.out j hj4 hjT)
          have hx := byte_xor l[K + j] T[j]
          have hstep := hide (Crc.turned_step l K T j hKl hjT)
          have hnn := hide (Crc.noughts_step T j hjT)
          have hno := byte_nought T[j]
          have HO := hide hown
          have HB := hide hb
          have hne : ¬ g = w.heap.size := by omega
          have HG := hide hg
          generalize l[K + j] = y at fc hx hstep
          generalize T[j] = t at ft hx hstep hnn hno
          generalize y ^^^ t = z at hx hstep
          clear hown hb hKl hjT hg hglt
          have FIN : Hid (((wr.setCell ⟨g, K + j, none⟩ (.int .u8 (z.toNat : Int))).drew).ownsRow (w.heap.size + 1) 5 1 (.slice (some ⟨g, 0, none⟩) n c) n (vbytes (Crc.turned l K T (j + 1))) ∧ Below (w.heap.size + 1) W (wr.setCell ⟨g, K + j, none⟩ (.int .u8 (z.toNat : Int))).drew) := by
            have st := (HO.out.stored (K + j) (.int .u8 (z.toNat : Int))).1
            rw [vbytes_set, hstep.out] at st
            exact ⟨st, (HB.out.setCell (p := ⟨g, K + j, none⟩) HG.out _).drew⟩
          clear HO HB
          cases hq : Crc.noughts T j
          · go_wp2
            go_region
            all_goals (go_wp2; go_roundw)
            case rel => exact ⟨j + 1, by omega, by omega, by go_num, by rw [hnn.out, hq]; rfl, FIN.out.1, FIN.out.2⟩
            case measure => simp [intOf]; omega
          · go_wp2
            go_region
            all_goals (go_wp2; go_roundw)
            case rel => exact ⟨j + 1, by omega, by omega, by go_num, by rw [hnn.out, hq]; rfl, FIN.out.1, FIN.out.2⟩
            case measure => simp [intOf]; omega
        · have hm : j ≤ T.length := by rw [HTl.out]; exact hj
          have hKm : K + j ≤ l.length := by rw [HLN.out]; exact hKj
          obtain ⟨A, c', hv, _, hsl, _⟩ := own_slice hown
          injection hv with hv1 hv2 hv3
          subst hv1 hv3
          have hsl2 := (hs.below H0.out).below (hb.mono (Nat.le_succ _))
          have hlen := hide (Crc.turned_length l K T j hKm hm)
          have hfin : (n32 (Crc.sum ((Crc.turned l K T j).map (·.toBitVec))) == n32 (Crc.sum (l.map (·.toBitVec)))) = Crc.noughts T j := by
            rw [n32_eq]; exact Crc.turned_noughts l K T j hKm hm hj
          have hbb := H0.out.trans (hb.mono (Nat.le_succ _))
          generalize Crc.turned l K T j = x at hsl hlen hfin
          generalize Crc.noughts T j = q at hfin ⊢
          clear hown hb hm hKm
          go_wp2_with fail
          refine (sum_any _ _ n x (by rw [hlen.out]; exact HLN.out) _ _ (by rw [hlen.out, HLN.out]; omega) hsl).mono ?_
          rintro e w' ⟨rfl, rfl⟩
          go_wp2_with fail
          refine (sum_any _ _ n l HLN.out _ _ (by rw [HLN.out]; omega) hsl2).mono ?_
          rintro e w' ⟨rfl, rfl⟩
          go_wp2_with fail
          refine (sumRuns_walk _).mono ?_
          rintro e w' ⟨rfl, hb4⟩
          go_wp2
          go_ret
          exact ⟨rfl, hbb.trans (hb4.mono hbb.size)⟩
      · have hm : j ≤ T.length := by rw [HTl.out]; exact hj
        have hKm : K + j ≤ l.length := by rw [HLN.out]; exact hKj
        obtain ⟨A, c', hv, _, hsl, _⟩ := own_slice hown
        injection hv with hv1 hv2 hv3
        subst hv1 hv3
        have hsl2 := (hs.below H0.out).below (hb.mono (Nat.le_succ _))
        have hlen := hide (Crc.turned_length l K T j hKm hm)
        have hfin : (n32 (Crc.sum ((Crc.turned l K T j).map (·.toBitVec))) == n32 (Crc.sum (l.map (·.toBitVec)))) = Crc.noughts T j := by
          rw [n32_eq]; exact Crc.turned_noughts l K T j hKm hm hj
        have hbb := H0.out.trans (hb.mono (Nat.le_succ _))
        generalize Crc.turned l K T j = x at hsl hlen hfin
        generalize Crc.noughts T j = q at hfin ⊢
        clear hown hb hm hKm
        go_wp2_with fail
        refine (sum_any _ _ n x (by rw [hlen.out]; exact HLN.out) _ _ (by rw [hlen.out, HLN.out]; omega) hsl).mono ?_
        rintro e w' ⟨rfl, rfl⟩
        go_wp2_with fail
        refine (sum_any _ _ n l HLN.out _ _ (by rw [HLN.out]; omega) hsl2).mono ?_
        rintro e w' ⟨rfl, rfl⟩
        go_wp2_with fail
        refine (sumRuns_walk _).mono ?_
        rintro e w' ⟨rfl, hb4⟩
        go_wp2
        go_ret
        exact ⟨rfl, hbb.trans (hb4.mono hbb.size)⟩
end Go.Proofs.Ytdfbmlaehdgcdaa
