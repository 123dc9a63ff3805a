/-
  THE WALK OF bailifflaw21.ChainGrows: it returns true; only new memory is laid.
-/
import Derived.Test.YtdfbmlaehdgcdaaChainLastW
namespace Go.Proofs.Ytdfbmlaehdgcdaa
open Go.RowKit
set_option linter.unusedVariables false

/-- An owned row stays where only what comes behind it is written. -/
theorem own_stay {w w' : World} {base : Nat} {e : TypeId} {size n : Nat} {v : Value} {xs : List Value} {B : Nat} (h : w.ownsRow base e size v n xs) (hb : Below B w w') (hB : w.heap.size ≤ B) : w'.ownsRow base e size v n xs := by
  refine ⟨h.1, ?_⟩
  rcases h.2 with h' | ⟨g, cap, cur, hv, hg, hh, r⟩
  · exact .inl h'
  · have hlt := (Array.getElem?_eq_some_iff.1 hh).1
    exact .inr ⟨g, cap, cur, hv, hg, (hb.block g (by omega)).trans hh, r⟩
/-- .. and where a block below all of its own is written. -/
theorem own_above {w w' : World} {base : Nat} {e : TypeId} {size n : Nat} {v : Value} {xs : List Value} {g : Nat} (h : w.ownsRow base e size v n xs) (hg : w.grownBy w' (some g)) (hlt : g < base) : w'.ownsRow base e size v n xs := by
  refine World.ownsRow.kept h hg ?_
  cases hv : v.ownBlock with
  | none => exact .inl rfl
  | some k => exact .inr fun e0 => by injection e0 with e0; have := (h.lt k hv).1; omega
theorem OwnRows.base {w : World} {base base' : Nat} {e : TypeId} {vs : List Value} {l : List (List UInt8)} (h : OwnRows w base e vs l) (hb : base' ≤ base) : OwnRows w base' e vs l :=
  ⟨h.1, fun i x hx => by obtain ⟨v, h1, h2⟩ := h.2 i x hx; exact ⟨v, h1, own_base h2 hb⟩⟩
theorem grown_sums (x : List (List UInt8)) (p : List UInt8) : (Fnv.sums 0#64 (x ++ [p])).take x.length = Fnv.sums 0#64 x := by
  rw [Fnv.sums_append, List.take_left']; rw [Fnv.sums_length]
/-- Two rows of sums of which one is the other's beginning part where the shorter ends. -/
theorem part_cut (s : List (BitVec 64)) (k : Nat) (hk : k ≤ s.length) : Fnv.part (s.take k) s = (if k = s.length then -1 else (k : Int)) ∧ Fnv.part s (s.take k) = (if k = s.length then -1 else (k : Int)) := by
  by_cases h : k = s.length
  · subst h
    rw [List.take_length, if_pos rfl, Fnv.part_yes]
    exact ⟨rfl, rfl⟩
  · have hl : (s.take k).length = k := by rw [List.length_take]; omega
    have hne : s.take k ≠ s := fun e => by rw [e] at hl; omega
    rw [if_neg h]
    refine ⟨Fnv.part_no _ _ k ?_ (by omega) hk hne (fun ha hb => by omega), Fnv.part_no _ _ k ?_ hk (by omega) (Ne.symm hne) (fun ha hb => by omega)⟩
    · rw [List.take_take, Nat.min_self]
    · rw [List.take_take, Nat.min_self]
/-- What stands behind the statement that makes the longer row's sums. -/
def GrowsMid (w : World) (x : List (List UInt8)) (p : List UInt8) (s : Value) (wx : World) : Prop :=
  ∃ (S : Option Addr) (c : Nat), s = .slice S (x.length + 1) c ∧ x.length + 1 ≤ c ∧ Sl wx wx.heap.size S (vw (Fnv.sums 0#64 (x ++ [p]))) ∧ Below w.heap.size w wx

set_option maxHeartbeats 2000000 in
theorem chainGrows_walk (a0 : Option Addr) (cap0 : Nat) (l0 : List (List UInt8)) (a1 : Option Addr) (cap1 : Nat) (l1 : List UInt8) (n2 : Int) (w : World) (hl0 : l0.length ≤ cap0) (hm0 : cap0 ≤ maxLen) (s0 : Rws w w.heap.size a0 l0) (hl1 : l1.length ≤ cap1) (hm1 : cap1 ≤ maxLen) (s1 : Sl w w.heap.size a1 (vbytes l1)) (lo2 : -9223372036854775808 ≤ n2) (hi2 : n2 ≤ 9223372036854775807) :
    Calls Try.prog 12 #[.slice a0 l0.length cap0, .slice a1 l1.length cap1, .int .i64 n2] w fun e w' => e = .returned (.bool true) ∧ Below w.heap.size w w' := by
  obtain ⟨i0, hi, hz0, hz1, hz2⟩ := info_parts infoF5
  have Hi := hide hi
  have Hz0 := hide hz0
  have Hz1 := hide hz1
  have Hz2 := hide hz2
  clear hi hz0 hz1 hz2
  obtain ⟨j0, hi, hz0, hz1, hz2⟩ := info_parts infoF24
  have Gi := hide hi
  have Gz0 := hide hz0
  have Gz1 := hide hz1
  have Gz2 := hide hz2
  clear hi hz0 hz1 hz2
  unfold maxLen at hm1
  go_enter Try.func12, Try.ntmps12
  go_wp2_with fail
  refine (few_any a0 cap0 _ l0 rfl w hl0 hm0 s0).mono ?_
  rintro e w1 ⟨v1, vs1, rfl, hown1, hrows1, hb1⟩
  have s0' := (s0.below hb1).more hb1.size
  have s1' := (s1.below hb1).more hb1.size
  obtain ⟨X, c1, rfl, hc1, hx⟩ := own_rws hown1 hrows1
  clear s0 s1 hown1 hrows1
  have hxl := fewL_length l0
  have hxs := hide (fewL_short l0)
  have hx16 : (fewL l0).length ≤ 16 := by omega
  have hxb : Hid (∀ z ∈ fewL l0, z.length ≤ 140737488351232) := fun z hz => by have := hxs.out z hz; omega
  generalize hX : fewL l0 = x at hx hxl hx16 hxs hxb hc1 ⊢
  have HX := hide hX
  clear hX hxl
  go_wp2_with fail
  refine (sums_any X c1 _ x rfl w1 (by omega) hxb.out hx).mono ?_
  rintro e w2 ⟨t1, rfl, ho1, hb2⟩
  have hx := (hx.below hb2).more hb2.size
  have hbw := hb1.trans (hb2.mono hb1.size)
  have hs0 := (s0'.below hb2).more hb2.size
  have hs1 := (s1'.below hb2).more hb2.size
  obtain ⟨A1, k1, rfl, hk1, hr1, _⟩ := own_slice ho1
  clear ho1 s0' s1' hb1 hb2
  have hmin : ∀ (ts : Array TypeId) (t : TypeId) (w : World), (Builtin.min_ ts t #[.int .i64 (l1.length : Int), .int .i64 50]).run Try.prog w = .ok (.int .i64 ((min l1.length 50 : Nat) : Int)) w := less_of l1.length 50 Try.prog
  have hsp := hs1.takeBytes (min l1.length 50)
  have HPL : Hid ((l1.take (min l1.length 50)).length = min l1.length 50) := take_len _ _ (Nat.min_le_left _ _)
  have hq50 : min l1.length 50 ≤ 50 := Nat.min_le_right _ _
  have hql : min l1.length 50 ≤ l1.length := Nat.min_le_left _ _
  generalize min l1.length 50 = q at hmin hsp HPL hq50 hql
  generalize l1.take q = p at hsp HPL
  clear hs1
  have hqc1 : (0 : Int) ≤ (q : Int) := by omega
  have hqc2 : (q : Int) ≤ (cap1 : Int) := by omega
  go_wp2
  go_cut [9] (GrowsMid w2 x p)
  case first =>
    have HXL : Hid ((x ++ [p]).length = x.length + 1) := by show (x ++ [p]).length = x.length + 1; simp
    have HX17 : Hid ((x ++ [p]).length ≤ 4096) := by show (x ++ [p]).length ≤ 4096; simp; omega
    have HXP : Hid (∀ z ∈ x ++ [p], z.length ≤ 140737488351232) := by
      intro z hz
      rcases List.mem_append.1 hz with h | h
      · exact hxb.out z h
      · rw [List.mem_singleton] at h; subst h; have : z.length = q := HPL.out; omega
    have HV : Hid ((vbytes p).length = q * 1) := by rw [vbytes_length, HPL.out, Nat.mul_one]; rfl
    have Hq1 : Hid (0 + q ≤ maxLen) := by show 0 + q ≤ maxLen; unfold maxLen; omega
    have Hq2 : Hid ((0 + q) * 1 ≤ 140737488355328) := by show (0 + q) * 1 ≤ 140737488355328; omega
    have Hk1 : Hid (x.length + 1 ≤ maxLen) := by show x.length + 1 ≤ maxLen; unfold maxLen; omega
    have Hk2 : Hid ((x.length + 1) * 24 ≤ 140737488355328) := by show (x.length + 1) * 24 ≤ 140737488355328; omega
    go_region_held3 (fun w' => Below w2.heap.size w2 w')
      (first | assumption | exact (Below.refl _ _).drew | exact hcF | exact hcA | exact hcB | exact hcS | (exact Below.alloc (by assumption) (Below.size (by assumption)) _))
      ((first
        | (go_at_call 23
           refine (few_any a0 cap0 _ l0 rfl _ hl0 hm0 ((hs0.below (by assumption)).more (Below.size (B := w2.heap.size) (by assumption)))).mono ?_
           rintro e wF ⟨vF, vsF, rfl, hownF, hrowsF, hbF⟩
           have hB0 : Hid (w2.heap.size ≤ _) := Below.size (B := w2.heap.size) (w := w2) (by assumption)
           have hcF : Below w2.heap.size w2 wF := Below.trans (by assumption) (hbF.mono (Below.size (B := w2.heap.size) (by assumption)))
           rw [HX.out] at hownF hrowsF)
        | (refine step_app _ rfl (.tmp 18) (.tmp 23) 24 rfl w2.heap.size 5 i0 (.int .u8 0) 1 1 Try.underlying24 Hi.out Hz0.out Hz1.out Hz2.out rfl (by decide) _ 0 [] rfl (World.ownsRow_made (base := w2.heap.size) (e := 5) (size := 1) wF #[] 0 hcF.size (by simp [maxLen]) rfl) w2.heap.size a1 q cap1 (vbytes p) rfl HV.out (hsp.below (by assumption)) (one_vbytes p) Hq1.out Hq2.out (Below.size (by assumption)) ?_
           intro v1 w1' hownA hgA hatA
           have hcA : Below w2.heap.size w2 w1' := own_below (World.ownsRow_made (base := w2.heap.size) (e := 5) (size := 1) wF #[] 0 hcF.size (by simp [maxLen]) rfl) (by assumption) hgA (Nat.le_refl _) (Below.size (by assumption))
           rw [Nat.zero_add, List.nil_append] at hownA
           obtain ⟨P1, d1, rfl, hd1, hsA, _⟩ := own_slice hownA
           have hoF := own_base (own_keep_new hownF (.cells #[] 5) 0 hgA) hB0.out
           have hrF := (hrowsF.keep fun v n xs h => own_keep_new h (.cells #[] 5) 0 hgA).base hB0.out)
        | (refine step_app _ rfl (.tmp 18) (.tmp 23) 24 rfl w2.heap.size 5 i0 (.int .u8 0) 1 1 Try.underlying24 Hi.out Hz0.out Hz1.out Hz2.out rfl (by decide) _ 0 [] rfl (own_stay (World.ownsRow_made (base := w2.heap.size) (e := 5) (size := 1) w2.drew #[] 0 (Nat.le_refl _) (by simp [maxLen]) rfl) hbF (Nat.le_refl _)) w2.heap.size a1 q cap1 (vbytes p) rfl HV.out (hsp.below (by assumption)) (one_vbytes p) Hq1.out Hq2.out (Below.size (by assumption)) ?_
           intro v1 w1' hownA hgA hatA
           have hcA : Below w2.heap.size w2 w1' := own_below (own_stay (World.ownsRow_made (base := w2.heap.size) (e := 5) (size := 1) w2.drew #[] 0 (Nat.le_refl _) (by simp [maxLen]) rfl) hbF (Nat.le_refl _)) (by assumption) hgA (Nat.le_refl _) (Below.size (by assumption))
           rw [Nat.zero_add, List.nil_append] at hownA
           obtain ⟨P1, d1, rfl, hd1, hsA, _⟩ := own_slice hownA
           have hoF := own_base (own_above hownF hgA (by simp)) hB0.out
           have hrF := (hrowsF.keep fun v n xs h => own_above h hgA (by simp)).base hB0.out)
        | (refine step_app _ rfl (.tmp 17) (.tmp 25) 38 rfl w2.heap.size 24 j0 (.slice none 0 0) 1 24 Try.underlying38 Gi.out Gz0.out Gz1.out Gz2.out rfl (by decide) _ x.length vsF rfl (hoF.alloc (.cells #[.slice P1 q d1] 24)) (w1'.heap.size + 1) (some ⟨w1'.heap.size, 0, none⟩) 1 1 [.slice P1 q d1] rfl rfl (Sl.laid w1' _ _ _ _ rfl) (fun u hu => by simp at hu; subst hu; rfl) Hk1.out Hk2.out (Below.size (by assumption)) ?_
           intro v2 w2' hownB hgB hatB
           have hcB : Below w2.heap.size w2 w2' := own_below (hoF.alloc (.cells #[.slice P1 q d1] 24)) (hcA.alloc hcA.size _) hgB (Nat.le_refl _) (hcA.alloc hcA.size _).size
           have hrB := hrF.keep fun v n xs h => World.ownsRow.kept (h.alloc (.cells #[.slice P1 q d1] 24)) hgB (own_ne (h.alloc (.cells #[.slice P1 q d1] 24)) (hoF.alloc (.cells #[.slice P1 q d1] 24)) (by decide))
           have hnB : w2'.ownsRow w2.heap.size 5 1 (.slice P1 q d1) p.length (vbytes p) := by rw [HPL.out]; exact World.ownsRow.kept (hownA.alloc (.cells #[.slice P1 q d1] 24)) hgB (own_ne (hownA.alloc (.cells #[.slice P1 q d1] 24)) (hoF.alloc (.cells #[.slice P1 q d1] 24)) (by decide))
           obtain ⟨Z, dz, rfl, hdz, hrz⟩ := own_rws hownB (hrB.snoc hnB))
        | (go_at_call 20
           refine (sums_any Z dz _ (x ++ [p]) HXL.out _ HX17.out HXP.out hrz).mono ?_
           rintro e wS ⟨vS, rfl, hownS, hbS⟩
           have hcS : Below w2.heap.size w2 wS := hcB.trans (hbS.mono hcB.size)
           rw [HXL.out] at hownS
           obtain ⟨S, ds, rfl, hds, hsS, _⟩ := own_slice hownS)))
    all_goals
      go_wp2
      go_meet
      exact ⟨S, ds, rfl, hds, hsS, hcS⟩
  case rest =>
    obtain ⟨S, c, rfl, hSc, hsS, hb⟩ := hcut
    have hx := (hx.below hb).more hb.size
    have hr1 := (hr1.below hb).more hb.size
    have hbw := hbw.trans (hb.mono hbw.size)
    clear hs0 hsp hb hmin HX HPL hxs hq50 hql hqc1 hqc2 Hi Hz0 Hz1 Hz2 Gi Gz0 Gz1 Gz2
    have hK := within_any n2 0 (x.length : Int) wc (by omega) (by omega) (by omega)
    obtain ⟨K, hKe⟩ : ∃ K : Nat, within n2 0 (x.length : Int) = (K : Int) := ⟨_, (Int.toNat_of_nonneg (within_lo n2 0 (x.length : Int) (by omega))).symm⟩
    have hKn : K ≤ x.length := by have := within_hi n2 0 (x.length : Int) (by omega); omega
    rw [hKe] at hK
    have HK := hide hK
    clear hK hKe
    have hsl := Fnv.sums_length x 0#64
    have hpc := part_cut (Fnv.sums 0#64 x) K (by omega)
    rw [Fnv.sums_take, hsl] at hpc
    have hgs := grown_sums x p
    have hsS' := Sl.take hsS x.length
    rw [vw_take, hgs] at hsS'
    have hr1' := Sl.take hr1 K
    rw [vw_take, Fnv.sums_take] at hr1'
    have hsame : sameB (Fnv.sums 0#64 x) (Fnv.sums 0#64 x) = true := (sameB_iff _ _).2 rfl
    have HP1 := hide hpc.1
    have HP2 := hide hpc.2
    have HSL := hide hsl
    have HSM := hide hsame
    have hxk : Hid ((x.take K).length = K) := take_len x K hKn
    have hsk : Hid ((Fnv.sums 0#64 (x.take K)).length = K) := (Fnv.sums_length _ _).trans hxk.out
    have hxt := hx.take K
    have hxkb : Hid (∀ z ∈ x.take K, z.length ≤ 140737488351232) := fun z hz => hxb.out z (List.mem_of_mem_take hz)
    clear hpc hgs hsS hsl hsame
    go_wp2_with fail
    refine HK.out.mono ?_
    rintro e w' ⟨rfl, rfl⟩
    have HP1' := HP1.out
    have HP2' := HP2.out
    have hsm := samew_any S A1 c k1 x.length x.length (Fnv.sums 0#64 x) (Fnv.sums 0#64 x) HSL.out HSL.out wc wc.heap.size (by have : (Fnv.sums 0#64 x).length = x.length := HSL.out; omega) (by have : (Fnv.sums 0#64 x).length = x.length := HSL.out; omega) hsS' hr1
    rw [show sameB (Fnv.sums 0#64 x) (Fnv.sums 0#64 x) = true from HSM.out] at hsm
    have HSA := hide hsm
    clear hsm hsS' HSM HK HP1 HP2
    by_cases hKx : K = x.length
    · rw [if_pos hKx] at HP1' HP2'
      have HP1 := hide HP1'
      have HP2 := hide HP2'
      subst hKx
      clear HP1' HP2'
      go_wp2_with fail
      refine HSA.out.mono ?_
      rintro e u1 ⟨rfl, hd⟩
      have hd : Drawn wc u1 := hd
      have hx := drawn_rws hx hd
      have hr1 := drawn_sl hr1 hd
      have hxt := drawn_rws hxt hd
      have hr1' := drawn_sl hr1' hd
      have hbw := hd.below hbw
      clear hd HSA
      go_wp2_with fail
      refine (check_any X A1 _ _ _ _ (x.take x.length) (Fnv.sums 0#64 x) hxk.out HSL.out u1 (by have : (x.take x.length).length = x.length := hxk.out; omega) (by have : (Fnv.sums 0#64 x).length = x.length := HSL.out; omega) hxkb.out hxt hr1).mono ?_
      rintro e u2 ⟨rfl, hb1⟩
      rw [HP1.out]
      have hx := (hx.below hb1).more hb1.size
      have hr1' := (hr1'.below hb1).more hb1.size
      have hbw := hbw.trans (hb1.mono hbw.size)
      clear hb1 hxt hr1
      go_wp2_with fail
      refine (check_any X A1 _ _ _ _ x (Fnv.sums 0#64 (x.take x.length)) rfl hsk.out u2 (by omega) (by have : (Fnv.sums 0#64 (x.take x.length)).length = x.length := hsk.out; omega) hxb.out hx hr1').mono ?_
      rintro e u3 ⟨rfl, hb1⟩
      rw [HP2.out]
      have hbw := hbw.trans (hb1.mono hbw.size)
      clear hb1 hx hr1'
      go_wp2_with fail
      refine (chainRuns_walk _).mono ?_
      rintro e u8 ⟨rfl, hb1⟩
      have hbw := hbw.trans (hb1.mono hbw.size)
      go_wp2
      go_ret
      exact ⟨rfl, hbw⟩
    · rw [if_neg hKx] at HP1' HP2'
      have HP1 := hide HP1'
      have HP2 := hide HP2'
      have hz : ((K : Int) == (x.length : Int)) = false := by simp; omega
      clear HP1' HP2'
      go_wp2_with fail
      refine HSA.out.mono ?_
      rintro e u1 ⟨rfl, hd⟩
      have hd : Drawn wc u1 := hd
      have hx := drawn_rws hx hd
      have hr1 := drawn_sl hr1 hd
      have hxt := drawn_rws hxt hd
      have hr1' := drawn_sl hr1' hd
      have hbw := hd.below hbw
      clear hd HSA
      go_wp2_with fail
      refine (check_any X A1 _ _ _ _ (x.take K) (Fnv.sums 0#64 x) hxk.out HSL.out u1 (by have : (x.take K).length = K := hxk.out; omega) (by have : (Fnv.sums 0#64 x).length = x.length := HSL.out; omega) hxkb.out hxt hr1).mono ?_
      rintro e u2 ⟨rfl, hb1⟩
      rw [HP1.out]
      have hx := (hx.below hb1).more hb1.size
      have hr1' := (hr1'.below hb1).more hb1.size
      have hbw := hbw.trans (hb1.mono hbw.size)
      clear hb1 hxt hr1
      go_wp2_with fail
      refine (check_any X A1 _ _ _ _ x (Fnv.sums 0#64 (x.take K)) rfl hsk.out u2 (by omega) (by have : (Fnv.sums 0#64 (x.take K)).length = K := hsk.out; omega) hxb.out hx hr1').mono ?_
      rintro e u3 ⟨rfl, hb1⟩
      rw [HP2.out]
      have hbw := hbw.trans (hb1.mono hbw.size)
      clear hb1 hx hr1'
      go_wp2_with fail
      refine (chainRuns_walk _).mono ?_
      rintro e u8 ⟨rfl, hb1⟩
      have hbw := hbw.trans (hb1.mono hbw.size)
      go_wp2
      go_ret
      exact ⟨rfl, hbw⟩
end Go.Proofs.Ytdfbmlaehdgcdaa
