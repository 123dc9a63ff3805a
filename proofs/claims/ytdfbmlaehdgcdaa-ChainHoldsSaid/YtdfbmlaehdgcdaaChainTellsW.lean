/-
  THE WALK OF bailifflaw21.ChainTells: it returns true; only new memory is laid.
-/
import Derived.Test.YtdfbmlaehdgcdaaChainRunsW
import Derived.Test.YtdfbmlaehdgcdaaFew
import Derived.Test.YtdfbmlaehdgcdaaSameW
import Derived.Test.YtdfbmlaehdgcdaaOpenRows
import Derived.Deep.Cut
import Derived.Deep.CutRange
import Derived.Deep.DeepCutAuto
namespace Go.Proofs.Ytdfbmlaehdgcdaa
open Go.RowKit
set_option linter.unusedVariables false

theorem own_rws {w : World} {base n : Nat} {e e' : TypeId} {v : Value} {vs : List Value} {l : List (List UInt8)} (h : w.ownsRow base e 1 v n vs) (hr : OwnRows w base e' vs l) :
    ∃ A c, v = .slice A n c ∧ n ≤ c ∧ Rws w w.heap.size A l := by
  obtain ⟨A, c, rfl, hc, hs, _⟩ := own_slice h
  refine ⟨A, c, rfl, hc, Rws.of_sl hs fun i x hx => ?_⟩
  obtain ⟨v', hv, ho⟩ := hr.2 i x hx
  obtain ⟨A', c', rfl, hc', hs', _⟩ := own_slice ho
  exact ⟨A', c', hv, hc', hs'⟩
theorem vw_take (l : List (BitVec 64)) (n : Nat) : (vw l).take n = vw (l.take n) := by simp [vw, List.map_take]
theorem vw_set (l : List (BitVec 64)) (i : Nat) (c : BitVec 64) : (vw l).set i (.int .u64 (n64 c)) = vw (l.set i c) := by
  unfold vw; rw [List.map_set]
theorem n64_nat (n : Nat) (h : n < 18446744073709551616) : (n : Int) = n64 (BitVec.ofNat 64 n) := by
  unfold n64; rw [BitVec.toNat_ofNat]; omega
/-- What the law has behind its choice of sums. -/
def TellsMid (w : World) (X Y : Option Addr) (x y : List (List UInt8)) (s : Value) (wx : World) : Prop :=
  ∃ (S : Option Addr) (m c : Nat) (ss : List (BitVec 64)), s = .slice S m c ∧ ss.length = m ∧ m ≤ 4096 ∧ Sl wx wx.heap.size S (vw ss) ∧ Rws wx wx.heap.size X x ∧ Rws wx wx.heap.size Y y ∧ Below w.heap.size w wx

set_option maxHeartbeats 2000000 in
theorem chainTells_walk (a0 : Option Addr) (cap0 : Nat) (l0 : List (List UInt8)) (a1 : Option Addr) (cap1 : Nat) (l1 : List (List UInt8)) (a2 : Option Addr) (cap2 : Nat) (l2 : List (BitVec 64)) (b3 : Bool) (n4 : Int) (w : World) (hl0 : l0.length ≤ cap0) (hm0 : cap0 ≤ maxLen) (s0 : Rws w w.heap.size a0 l0) (hl1 : l1.length ≤ cap1) (hm1 : cap1 ≤ maxLen) (s1 : Rws w w.heap.size a1 l1) (hl2 : l2.length ≤ cap2) (hm2 : cap2 ≤ maxLen) (s2 : Sl w w.heap.size a2 (vwords l2)) (lo4 : -9223372036854775808 ≤ n4) (hi4 : n4 ≤ 9223372036854775807) :
    Calls Try.prog 9 #[.slice a0 l0.length cap0, .slice a1 l1.length cap1, .slice a2 l2.length cap2, .bool b3, .int .i64 n4] w fun e w' => e = .returned (.bool true) ∧ Below w.heap.size w w' := by
  obtain ⟨i0, hi, hz0, hz1, hz2⟩ := info_parts infoW
  have Hi := hide hi
  have Hz0 := hide hz0
  have Hz1 := hide hz1
  have Hz2 := hide hz2
  clear hi hz0 hz1 hz2
  go_enter Try.func9, Try.ntmps9
  go_wp2_with fail
  refine (few_any a0 cap0 _ l0 rfl w hl0 hm0 s0).mono ?_
  rintro e w1 ⟨v1, vs1, rfl, hown1, hrows1, hb1⟩
  have s1' := (s1.below hb1).more hb1.size
  have s2' := s2.below hb1
  clear s0 s1 s2
  go_wp2_with fail
  refine (few_any a1 cap1 _ l1 rfl w1 hl1 hm1 s1').mono ?_
  rintro e w2 ⟨v2, vs2, rfl, hown2, hrows2, hb2⟩
  obtain ⟨X, c1, rfl, hc1, hx⟩ := own_rws hown1 hrows1
  obtain ⟨Y, c2, rfl, hc2, hy⟩ := own_rws hown2 hrows2
  have hx2 := (hx.below hb2).more hb2.size
  have hs2 := s2'.below (hb2.mono hb1.size)
  have hbw := hb1.trans (hb2.mono hb1.size)
  have hxl := hide (fewL_length l0)
  have hyl := hide (fewL_length l1)
  have hxs := hide (fewL_short l0)
  have hys := hide (fewL_short l1)
  generalize fewL l0 = x at hx2 hxl hxs ⊢
  generalize fewL l1 = y at hy hyl hys ⊢
  clear hown1 hrows1 hown2 hrows2 hx s1' s2' hb1 hb2
  obtain ⟨n, ss, hmn, hss, hsl, hn, hn2⟩ := cut_at l2 20 20 rfl
  have hs3 := hs2.take 20
  rw [vwords_vw, vw_take, ← hss] at hs3
  have HSL := hide hsl
  clear hss hsl hs2
  have hown0 : (w2.alloc (.cells #[] 30)).ownsRow w2.heap.size 30 1 (.slice (some ⟨w2.heap.size, 0, none⟩) 0 0) 0 [] := World.ownsRow_made w2 #[] 0 (Nat.le_refl _) (by simp [maxLen]) rfl
  have hb0 : Below w2.heap.size w2 (w2.alloc (.cells #[] 30)) := (Below.refl _ _).alloc (Nat.le_refl _) _
  have hs0 := (hs3.more hbw.size).below hb0
  have HV : Hid ((vw ss).length = n * 1) := by rw [vw_length, HSL.out, Nat.mul_one]; rfl
  unfold maxLen at hm2
  go_upto_if 25 with (at_builtin; refine wpList_app _ rfl (.tmp 18) (.tmp 23) 36 rfl w2.heap.size 30 i0 (.int .u64 0) 1 8 Try.underlying36 Hi.out Hz0.out Hz1.out Hz2.out rfl (by decide) (.slice (some ⟨w2.heap.size, 0, none⟩) 0 0) 0 [] rfl hown0 w2.heap.size a2 n cap2 (vw ss) rfl HV.out hs0 (one_vw ss) (by unfold maxLen; omega) (by omega) hb0.size ?_; intro v3 w3 hown3 hg3 hat3)
  have hb3 : Below w2.heap.size w2 w3 := own_below hown0 hb0 hg3 (Nat.le_refl _) hb0.size
  rw [Nat.zero_add, List.nil_append] at hown3
  obtain ⟨S3, c3, rfl, hc3, hs4, _⟩ := own_slice hown3
  have hx3 := (hx2.below hb3).more hb3.size
  have hy3 := (hy.below hb3).more hb3.size
  have hbw3 := hbw.trans (hb3.mono hbw.size)
  clear hown0 hb0 hs0 hown3 hg3 hat3 hb3 hx2 hy hs3 hbw
  go_cut [13] (TellsMid w X Y x y)
  case first =>
    cases b3
    · go_wp2
      go_meet
      exact ⟨S3, n, c3, ss, rfl, HSL.out, by omega, hs4, hx3, hy3, hbw3⟩
    · go_wp2_with fail
      have hx16 : x.length ≤ 16 := by rw [hxl.out]; omega
      refine (refsums_any X c1 _ x rfl w3 (by omega) (fun z hz => by have := hxs.out z hz; omega) hx3).mono ?_
      rintro e w4 ⟨v4, rfl, hown4, hb4⟩
      have hxA := hx3.below hb4
      have hyA := hy3.below hb4
      have hx4 := hxA.more hb4.size
      have hy4 := hyA.more hb4.size
      have hbw4 := hbw3.trans (hb4.mono hbw3.size)
      have hol := hide (Fnv.sums_length x 0#64)
      generalize Fnv.sums 0#64 x = o at hown4 hol
      have hbw3s := hbw3.size
      clear hx3 hy3 hbw3 hs4
      by_cases hz : x.length = 0
      · obtain ⟨A4, c4, rfl, hc4, hs5, _⟩ := own_slice hown4
        have hz0 : ¬ 0 < x.length := by omega
        have HZ := hide hz
        clear hz hown4
        go_wp2
        go_meet
        exact ⟨A4, _, c4, o, rfl, hol.out, by omega, hs5, hx4, hy4, hbw4⟩
      · have hz0 : 0 < x.length := by omega
        obtain ⟨g, c4, hv4, hg, hgl⟩ := hown4.form hz0
        subst hv4
        have hK := within_any n4 0 ((x.length : Int) - 1) w4 (by omega) (by omega) (by omega)
        obtain ⟨K, hKe⟩ : ∃ K : Nat, within n4 0 ((x.length : Int) - 1) = (K : Int) := ⟨_, (Int.toNat_of_nonneg (within_lo n4 0 ((x.length : Int) - 1) (by omega))).symm⟩
        have hKn : K < x.length := by have := within_hi n4 0 ((x.length : Int) - 1) (by omega); omega
        rw [hKe] at hK
        have HK := hide hK
        have hKo : K < o.length := by rw [hol.out]; exact hKn
        have fc : w4.cell? ⟨g, K, none⟩ = some (.int .u64 (n64 o[K])) := by
          rw [hown4.cellAt K (by omega), vw_at, List.getElem?_eq_getElem hKo]; rfl
        have ff : w4.frozen? ⟨g, K, none⟩ = false := hown4.frozenAt K
        have hxr : bits .xor .u64 (n64 o[K]) (l2.length : Int) = n64 (o[K] ^^^ BitVec.ofNat 64 l2.length) := by
          rw [n64_nat l2.length (by omega), n64_xor]
        have hst := (hown4.stored K (.int .u64 (n64 (o[K] ^^^ BitVec.ofNat 64 l2.length)))).1
        rw [vw_set] at hst
        have hbst : Below w3.heap.size w4 (w4.setCell ⟨g, K, none⟩ (.int .u64 (n64 (o[K] ^^^ BitVec.ofNat 64 l2.length)))) := (Below.refl _ _).setCell (p := ⟨g, K, none⟩) hg _
        have hset : (o.set K (o[K] ^^^ BitVec.ofNat 64 l2.length)).length = x.length := by rw [List.length_set]; exact hol.out
        generalize o.set K (o[K] ^^^ BitVec.ofNat 64 l2.length) = o' at hst hset
        generalize o[K] ^^^ BitVec.ofNat 64 l2.length = z at hxr hst hbst
        generalize o[K] = y0 at fc hxr
        have hx5 := (hxA.below hbst).more (Nat.le_trans hb4.size hbst.size)
        have hy5 := (hyA.below hbst).more (Nat.le_trans hb4.size hbst.size)
        have hbw5 := hbw4.trans (hbst.mono hbw3s)
        obtain ⟨A5, c5, hv5, hc5, hs5, _⟩ := own_slice hst
        injection hv5 with q1 q2 q3
        subst q1 q3
        have HC := hide hset
        clear hx4 hy4 hxA hyA hst hown4 hset hbst hb4 hK hKe
        go_wp2_with fail
        refine HK.out.mono ?_
        rintro e w' ⟨rfl, rfl⟩
        go_wp2
        go_meet
        exact ⟨some ⟨g, 0, none⟩, _, c4, o', rfl, HC.out, by omega, hs5, hx5, hy5, hbw5⟩
  case rest =>
    obtain ⟨S, m, c, ss', rfl, hsl', hm', hs, hx, hy, hbw⟩ := hcut
    have hx16 : x.length ≤ 4096 := by rw [hxl.out]; omega
    have hy16 : y.length ≤ 4096 := by rw [hyl.out]; omega
    have hxb : Hid (∀ z ∈ x, z.length ≤ 140737488351232) := fun z hz => by have := hxs.out z hz; omega
    have hyb : Hid (∀ z ∈ y, z.length ≤ 140737488351232) := fun z hz => by have := hys.out z hz; omega
    have HSM := hide hsl'
    have hm2' : ss'.length ≤ 4096 := by omega
    clear hsl' hx3 hy3 hs4 hbw3 hxl hyl hxs hys HV HSL hmn
    go_wp2_with fail
    refine (sums_any X _ _ x rfl wc hx16 hxb.out hx).mono ?_
    rintro e u1 ⟨t1, rfl, ho1, hb1⟩
    have hx := (hx.below hb1).more hb1.size
    have hy := (hy.below hb1).more hb1.size
    have hs := (hs.below hb1).more hb1.size
    have hbw := hbw.trans (hb1.mono hbw.size)
    go_wp2_with fail
    refine (refsums_any X _ _ x rfl u1 hx16 hxb.out hx).mono ?_
    rintro e u2 ⟨t2, rfl, ho2, hb2⟩
    have hx := (hx.below hb2).more hb2.size
    have hy := (hy.below hb2).more hb2.size
    have hs := (hs.below hb2).more hb2.size
    have hbw := hbw.trans (hb2.mono hbw.size)
    obtain ⟨A1, k1, rfl, _, hr1, _⟩ := own_slice ho1
    obtain ⟨A2, k2, rfl, _, hr2, _⟩ := own_slice ho2
    have hol := Fnv.sums_length x 0#64
    have hsame := samew_any A1 A2 k1 k2 _ _ (Fnv.sums 0#64 x) (Fnv.sums 0#64 x) hol hol u2 u2.heap.size (by omega) (by omega) ((hr1.below hb2).more hb2.size) hr2
    rw [(sameB_iff (Fnv.sums 0#64 x) (Fnv.sums 0#64 x)).2 rfl] at hsame
    have HSA := hide hsame
    clear ho1 ho2 hr1 hr2 hb1 hb2 hol hsame
    go_wp2_with fail
    refine HSA.out.mono ?_
    rintro e u3 ⟨rfl, hd⟩
    have hd : Drawn u2 u3 := hd
    have hz3 : u3.heap.size = u2.heap.size := by rw [hd.heap]
    have hx : Rws u3 u3.heap.size X x := by rw [hz3]; exact hx.keep fun p _ => hd.cell p
    have hy : Rws u3 u3.heap.size Y y := by rw [hz3]; exact hy.keep fun p _ => hd.cell p
    have hs : Sl u3 u3.heap.size S (vw ss') := by rw [hz3]; exact hs.drawn hd
    have hbw := hd.below hbw
    clear hz3 hd HSA
    go_wp2_with fail
    refine (check_any X S _ _ c m x ss' rfl HSM.out u3 hx16 hm2' hxb.out hx hs).mono ?_
    rintro e u4 ⟨rfl, hb1⟩
    have hx := (hx.below hb1).more hb1.size
    have hy := (hy.below hb1).more hb1.size
    have hs := (hs.below hb1).more hb1.size
    have hbw := hbw.trans (hb1.mono hbw.size)
    clear hb1
    go_wp2_with fail
    refine (refcheck_any X S _ _ c m x ss' rfl HSM.out u4 hx16 hm2' hxb.out hx hs).mono ?_
    rintro e u5 ⟨rfl, hb1⟩
    have hx := (hx.below hb1).more hb1.size
    have hy := (hy.below hb1).more hb1.size
    have hbw := hbw.trans (hb1.mono hbw.size)
    clear hb1 hs
    go_wp2_with fail
    refine (clash_any X Y _ _ _ _ x y rfl rfl u5 hx16 hy16 hxb.out hyb.out hx hy).mono ?_
    rintro e u6 ⟨rfl, hb1⟩
    have hx := (hx.below hb1).more hb1.size
    have hy := (hy.below hb1).more hb1.size
    have hbw := hbw.trans (hb1.mono hbw.size)
    clear hb1
    go_wp2_with fail
    refine (refclash_any X Y _ _ _ _ x y rfl rfl u6 hx16 hy16 hxb.out hyb.out hx hy).mono ?_
    rintro e u7 ⟨rfl, hb1⟩
    have hbw := hbw.trans (hb1.mono hbw.size)
    clear hb1 hx hy
    go_wp2_with fail
    refine (chainRuns_walk _).mono ?_
    rintro e u8 ⟨rfl, hb1⟩
    have hbw := hbw.trans (hb1.mono hbw.size)
    go_wp2
    go_ret
    exact ⟨rfl, hbw⟩
end Go.Proofs.Ytdfbmlaehdgcdaa
