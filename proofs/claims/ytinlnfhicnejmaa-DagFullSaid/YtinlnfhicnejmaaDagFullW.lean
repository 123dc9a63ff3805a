/-
  THE WALK OF bailifflaw16.DagFull: it returns true; only new memory is laid.
-/
import Derived.Test.YtinlnfhicnejmaaDagRunsW
namespace Go.Proofs.Ytinlnfhicnejmaa
open Go.RowKit
set_option linter.unusedVariables false

def brF (k : Nat) : Br := (((k % 7 : Nat) : Int), -1 - (k : Int), -2 - (k : Int), -3 - (k : Int))
def fullF : Nat → Nat → List Br
  | _, 0 => []
  | k, m + 1 => brF k :: fullF (k + 1) m
theorem fullF_len : ∀ m k, (fullF k m).length = m
  | 0, _ => rfl
  | m + 1, k => by simp only [fullF, List.length_cons, fullF_len m]
theorem fullF_snoc : ∀ m k, fullF k (m + 1) = fullF k m ++ [brF (k + m)]
  | 0, k => rfl
  | m + 1, k => by
    show brF k :: fullF (k + 1) (m + 1) = brF k :: (fullF (k + 1) m ++ [brF (k + (m + 1))])
    rw [fullF_snoc m (k + 1), show k + 1 + m = k + (m + 1) by omega]
theorem brF_inj {i j : Nat} (h : brF i = brF j) : i = j := by
  have := congrArg (fun b : Br => b.2.1) h
  simp only [brF] at this
  omega
theorem idx_full (j : Nat) : ∀ m k, idxP (brF j) (fullF k m) k = if k ≤ j ∧ j < k + m then (j : Int) else -1
  | 0, k => by rw [if_neg (by omega)]; rfl
  | m + 1, k => by
    show (if brF k = brF j then (k : Int) else idxP (brF j) (fullF (k + 1) m) (k + 1)) = _
    by_cases h : k = j
    · subst h
      rw [if_pos rfl, if_pos (by omega)]
    · rw [if_neg (fun e => h (brF_inj e)), idx_full j m (k + 1)]
      by_cases h2 : k + 1 ≤ j ∧ j < k + 1 + m
      · rw [if_pos h2, if_pos (by omega)]
      · rw [if_neg h2, if_neg (by omega)]
theorem idx_far (b : Br) (hb : b.2.1 < -99) : ∀ m k, k + m ≤ 90 → idxP b (fullF k m) k = -1
  | 0, k, _ => rfl
  | m + 1, k, h => by
    show (if brF k = b then (k : Int) else idxP b (fullF (k + 1) m) (k + 1)) = _
    rw [if_neg (by rintro rfl; simp only [brF] at hb; omega), idx_far b hb m (k + 1) (by omega)]
theorem may_low (l : List Br) (a : Int) (w : Int) (h1 : w < 0) (h2 : -1048576 ≤ w) : mayP l a w = true := by rw [mayP_neg h1]; exact decide_eq_true h2
theorem make_ends (n : Nat) (l : List Br) (b : Br) (h0 : 0 ≤ b.1) (h1 : b.1 < 64) (hx : -1048576 ≤ b.2.1 ∧ b.2.1 < 0) (hy : -1048576 ≤ b.2.2.1 ∧ b.2.2.1 < 0) (hz : -1048576 ≤ b.2.2.2 ∧ b.2.2.2 < 0) (hne : b.2.2.1 ≠ b.2.1) :
    makeP n l b = if 0 ≤ idxP b l 0 then (idxP b l 0, 0, l) else if n ≤ l.length then (0, 6, l) else ((l.length : Int), 0, l ++ [b]) := by
  unfold makeP
  rw [if_neg (by omega), if_neg (by rw [may_low l _ _ hx.2 hx.1, may_low l _ _ hy.2 hy.1, may_low l _ _ hz.2 hz.1]; simp), if_neg (fun h => hne h.1)]
theorem make_brF (n : Nat) (l : List Br) (i : Nat) (hi : i < 100) : makeP n l (brF i) = if 0 ≤ idxP (brF i) l 0 then (idxP (brF i) l 0, 0, l) else if n ≤ l.length then (0, 6, l) else ((l.length : Int), 0, l ++ [brF i]) := by
  refine make_ends n l (brF i) ?_ ?_ ?_ ?_ ?_ ?_ <;> simp only [brF] <;> omega
theorem make_new (n i : Nat) (hi : i < n) (hn : n ≤ 30) : makeP n (fullF 0 i) (brF i) = ((i : Int), 0, fullF 0 (i + 1)) := by
  rw [make_brF n _ i (by omega), idx_full i i 0, if_neg (show ¬ (0 ≤ i ∧ i < 0 + i) by omega), if_neg (show ¬ (0 : Int) ≤ -1 by decide), fullF_len, if_neg (show ¬ n ≤ i by omega), fullF_snoc, Nat.zero_add]
theorem make_old (n j : Nat) (hj : j < n) (hn : n ≤ 30) : makeP n (fullF 0 n) (brF j) = ((j : Int), 0, fullF 0 n) := by
  rw [make_brF n _ j (by omega), idx_full j n 0, if_pos (by omega), if_pos (by omega)]
theorem make_full (n : Nat) (hn : n ≤ 30) : makeP n (fullF 0 n) (0, -100, -101, -102) = (0, 6, fullF 0 n) := by
  rw [make_ends n _ _ (by decide) (by decide) (by decide) (by decide) (by decide) (by decide), idx_far _ (by decide) n 0 (by omega), if_neg (by omega), fullF_len, if_pos (Nat.le_refl _)]
theorem make_same (n : Nat) (l : List Br) : makeP n l (3, -50, -50, -50) = (-50, 0, l) := by
  unfold makeP
  rw [if_neg (by decide), if_neg (by rw [may_low l _ _ (by decide) (by decide)]; simp), if_pos (by decide)]
theorem rem7 (k : Nat) : (k : Int).tmod 7 = ((k % 7 : Nat) : Int) := by rw [Int.tmod_eq_emod_of_nonneg (by omega)]; omega
theorem sub_ends (k : Nat) (h : k ≤ 100) : wrap64 (-1 - (k : Int)) = -1 - (k : Int) ∧ wrap64 (-2 - (k : Int)) = -2 - (k : Int) ∧ wrap64 (-3 - (k : Int)) = -3 - (k : Int) :=
  ⟨IntWalk.wrap64_in _ ⟨by omega, by omega⟩, IntWalk.wrap64_in _ ⟨by omega, by omega⟩, IntWalk.wrap64_in _ ⟨by omega, by omega⟩⟩
set_option maxHeartbeats 2000000 in
theorem dagFull_walk (n0 : Int) (a1 : Option Addr) (cap1 : Nat) (l1 : List Int) (w : World) (lo0 : -9223372036854775808 ≤ n0) (hi0 : n0 ≤ 9223372036854775807) (hl1 : l1.length ≤ cap1) (hm1 : cap1 ≤ maxLen) (s1 : Sl w w.heap.size a1 (vints .i64 l1)) :
    Calls Try.prog 14 #[.int .i64 n0, .slice a1 l1.length cap1] w fun e w' => e = .returned (.bool true) ∧ Below w.heap.size w w' := by
  unfold maxLen at hm1
  have HW := hide (within_any n0 0 29 w (by omega) (by omega) (by omega))
  have h1 := within_lo n0 0 29 (by omega)
  have h2 := within_hi n0 0 29 (by omega)
  generalize within n0 0 29 = z at HW h1 h2
  obtain ⟨m, rfl⟩ := Int.eq_ofNat_of_zero_le h1
  have hm30 : m ≤ 29 := by omega
  have HS := hide s1
  obtain ⟨N, hN⟩ : ∃ N, N = m + 1 := ⟨_, rfl⟩
  have hw1 : IntKind.i64.wrap (1 + (m : Int)) = (N : Int) := by rw [IntWalk.i64_in _ (by omega)]; omega
  have hN1 : 1 ≤ N := by omega
  have hN30 : N ≤ 30 := by omega
  clear h1 h2 s1 lo0 hi0 hN hm30
  go_enter Try.func14, Try.ntmps14
  go_wp2_with fail
  refine HW.out.mono ?_
  rintro e w' ⟨rfl, rfl⟩
  go_wp2_with fail
  refine (new_own N hN1 (by omega) w).mono ?_
  rintro e w1 ⟨rfl, ho⟩
  have H1 := hide ho
  clear ho HW
  generalize hg : w.heap.size = g at *
  go_wp2
  go_loopw [8] (fun i wr => ∃ k : Nat, k ≤ N ∧ i = .int .i64 k ∧ Own w g N (fullF 0 k) wr) (fun i _ => N - (intOf i).toNat)
  case atStart => exact ⟨0, by omega, rfl, H1.out⟩
  case round =>
    clear H1
    obtain ⟨k, hk, rfl, ho⟩ := hrel
    have HO := hide ho
    clear ho
    by_cases hlt : k < N
    · obtain ⟨e1, e2, e3⟩ := sub_ends k (by omega)
      have er := rem7 k
      have hk1 : IntKind.i64.wrap ((k : Int) + 1) = (k : Int) + 1 := IntWalk.i64_in _ (by omega)
      have HM := hide (make_new N k hlt hN30)
      obtain ⟨M, hM⟩ : ∃ M, M = k % 7 := ⟨_, rfl⟩
      have HBR : Hid (brF k = ((M : Int), -1 - (k : Int), -2 - (k : Int), -3 - (k : Int))) := hide (by unfold brF; rw [hM])
      rw [← hM] at er
      rw [HBR.out] at HM
      clear hM
      go_wp2_with fail
      refine (br_any (M : Int) (-1 - (k : Int)) (-2 - (k : Int)) (-3 - (k : Int)) wr).mono ?_
      rintro e w2 ⟨rfl, hb⟩
      have H2 := hide (own_on HO.out hb)
      clear hb HO
      simp only [brV]
      go_wp2_with fail
      refine (own_make (M : Int) (-1 - (k : Int)) (-2 - (k : Int)) (-3 - (k : Int)) H2.out).mono ?_
      rw [HM.out]
      rintro e w3 ⟨rfl, ho⟩
      have H3 := hide ho
      clear ho H2 HM HBR
      go_wp2
      go_roundw
      case rel => exact ⟨k + 1, hlt, by go_num, H3.out⟩
      case measure => simp [intOf]; omega
    · obtain rfl : k = N := by omega
      have MF := hide (make_full k hN30)
      have MS := hide (make_same k (fullF 0 k))
      have ML := hide (fun j hj => make_old k j hj hN30)
      have FL := hide (fullF_len k 0)
      generalize fullF 0 k = L at *
      go_wp2_with fail
      refine (br_any 0 (-100) (-101) (-102) wr).mono ?_
      rintro e w2 ⟨rfl, hb⟩
      have H2 := hide (own_on HO.out hb)
      clear hb HO
      simp only [brV]
      go_wp2_with fail
      refine (own_make 0 (-100) (-101) (-102) H2.out).mono ?_
      rw [MF.out]
      rintro e w3 ⟨rfl, ho⟩
      have H3 := hide ho
      clear ho H2
      go_wp2_with fail
      refine (br_any 3 (-50) (-50) (-50) w3).mono ?_
      rintro e w4 ⟨rfl, hb⟩
      have H4 := hide (own_on H3.out hb)
      clear hb H3
      simp only [brV]
      go_wp2_with fail
      refine (own_make 3 (-50) (-50) (-50) H4.out).mono ?_
      rw [MS.out]
      rintro e w5 ⟨rfl, ho⟩
      have H5 := hide ho
      clear ho H4
      go_wp2
      go_loopw [15] (fun i wx => ∃ j : Nat, j ≤ 20 ∧ i = .int .i64 j ∧ Own w g k L wx) (fun i _ => 20 - (intOf i).toNat)
      case atStart => exact ⟨0, by omega, rfl, H5.out⟩
      case round =>
        clear H5
        obtain ⟨j, hj, rfl, ho⟩ := hrel
        have HO := hide ho
        clear ho
        by_cases hjl : j < l1.length
        · by_cases h20 : j < 20
          · obtain ⟨b, off, rfl, hb, hc⟩ := HS.out.at (i := j) (x := .int .i64 l1[j]) (by simp [vints, hjl])
            have hc' : wr.cell? ⟨b, off + j, none⟩ = some (.int .i64 l1[j]) := (HO.out.2.cell (hg.symm ▸ hb)).trans hc
            generalize l1[j] = v at hc'
            have hsub : IntKind.i64.wrap ((k : Int) - 1) = (k : Int) - 1 := IntWalk.i64_in _ (by omega)
            have hk1 : IntKind.i64.wrap ((j : Int) + 1) = (j : Int) + 1 := IntWalk.i64_in _ (by omega)
            have HW := hide (within_any v 0 ((k : Int) - 1) wr (by omega) (by omega) (by omega))
            have h1 := within_lo v 0 ((k : Int) - 1) (by omega)
            have h2 := within_hi v 0 ((k : Int) - 1) (by omega)
            generalize within v 0 ((k : Int) - 1) = q at HW h1 h2
            obtain ⟨i, rfl⟩ := Int.eq_ofNat_of_zero_le h1
            have hik : i < k := by omega
            obtain ⟨e1, e2, e3⟩ := sub_ends i (by omega)
            have er := rem7 i
            have HM := hide (ML.out i hik)
            obtain ⟨M, hM⟩ : ∃ M, M = i % 7 := ⟨_, rfl⟩
            have HBR : Hid (brF i = ((M : Int), -1 - (i : Int), -2 - (i : Int), -3 - (i : Int))) := hide (by unfold brF; rw [hM])
            rw [← hM] at er
            rw [HBR.out] at HM
            clear hM hc h1 h2 hb
            go_wp2_with fail
            refine HW.out.mono ?_
            rintro e w' ⟨rfl, rfl⟩
            go_wp2_with fail
            refine (br_any (M : Int) (-1 - (i : Int)) (-2 - (i : Int)) (-3 - (i : Int)) wr).mono ?_
            rintro e w2 ⟨rfl, hb⟩
            have H2 := hide (own_on HO.out hb)
            clear hb HO
            simp only [brV]
            go_wp2_with fail
            refine (own_make (M : Int) (-1 - (i : Int)) (-2 - (i : Int)) (-3 - (i : Int)) H2.out).mono ?_
            rw [HM.out]
            rintro e w3 ⟨rfl, ho⟩
            have H3 := hide ho
            clear ho H2 HM HBR
            go_wp2
            go_roundw
            case rel => exact ⟨j + 1, by omega, by go_num, H3.out⟩
            case measure => simp [intOf]; omega
          · go_wp2_with fail
            refine (len_any _ g k L wr HO.out.1).mono ?_
            rintro e w6 ⟨rfl, rfl⟩
            rw [FL.out]
            go_wp2_with fail
            refine (dagRuns_walk wr).mono ?_
            rintro e w7 ⟨rfl, hb⟩
            have HB := hide (below_on HO.out.2 hb)
            clear hb
            go_wp2
            go_ret
            exact ⟨rfl, hg ▸ HB.out⟩
        · go_wp2_with fail
          refine (len_any _ g k L wr HO.out.1).mono ?_
          rintro e w6 ⟨rfl, rfl⟩
          rw [FL.out]
          go_wp2_with fail
          refine (dagRuns_walk wr).mono ?_
          rintro e w7 ⟨rfl, hb⟩
          have HB := hide (below_on HO.out.2 hb)
          clear hb
          go_wp2
          go_ret
          exact ⟨rfl, hg ▸ HB.out⟩
end Go.Proofs.Ytinlnfhicnejmaa
