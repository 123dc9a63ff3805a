/-
  CONTRACTS OF dag.answer, Dag.Walk, Dag.Branch.
-/
import Derived.Test.YtinlnfhicnejmaaDagMake
import Derived.Test.YtinlnfhicnejmaaOpen
import Derived.WalkMore
import Derived.Deep.Cut
import Derived.ScopeJumps
import Derived.Laws.ResultCell
namespace Go.Proofs.Ytinlnfhicnejmaa
open Go.RowKit
set_option linter.unusedVariables false

/-- The answer to an atom. -/
def ansP (ans : List Int) (k : Nat) : Nat := match ans[k]? with
  | some v => if v < 0 ∨ 2 < v then 1 else v.toNat
  | none => 1
theorem ansP_le (ans : List Int) (k : Nat) : ansP ans k = 0 ∨ ansP ans k = 1 ∨ ansP ans k = 2 := by
  unfold ansP
  split
  · split <;> omega
  · omega
def toP (b : Br) (k : Nat) : Int := if k = 0 then b.2.1 else if k = 1 then b.2.2.1 else b.2.2.2
/-- Branches as Make leaves them: each goes to an end or to one that was there before it. -/
def Good (l : List Br) : Prop := ∀ (i : Nat) (b : Br), l[i]? = some b → 0 ≤ b.1 ∧ b.1 < 64 ∧ (-1048576 ≤ b.2.1 ∧ b.2.1 < i) ∧ (-1048576 ≤ b.2.2.1 ∧ b.2.2.1 < i) ∧ (-1048576 ≤ b.2.2.2 ∧ b.2.2.2 < i)
theorem good_to {l : List Br} (h : Good l) {i : Nat} {b : Br} (hi : l[i]? = some b) (k : Nat) : -1048576 ≤ toP b k ∧ toP b k < i := by
  obtain ⟨_, _, h1, h2, h3⟩ := h i b hi
  unfold toP
  split
  · exact h1
  · split
    · exact h2
    · exact h3
/-- Where a walk ends; f: more than the way is long. -/
def walkF (l : List Br) (ans : List Int) : Nat → Int → Int
  | 0, _ => 0
  | f + 1, root => if root < 0 then -1 - root else match l[root.toNat]? with
    | some b => walkF l ans f (toP b (ansP ans b.1.toNat))
    | none => 0
theorem walkF_more {l : List Br} (hg : Good l) (ans : List Int) : ∀ (f f' : Nat) (root : Int), root + 2 ≤ f → 1 ≤ f → root + 2 ≤ f' → 1 ≤ f' → walkF l ans f root = walkF l ans f' root
  | 0, f', root, _, h, _, _ => by omega
  | f + 1, 0, root, _, _, _, h => by omega
  | f + 1, f' + 1, root, h1, _, h2, _ => by
    unfold walkF
    by_cases hr : root < 0
    · rw [if_pos hr, if_pos hr]
    · rw [if_neg hr, if_neg hr]
      rcases hb : l[root.toNat]? with _ | b
      · rfl
      · have := good_to hg hb (ansP ans b.1.toNat)
        exact walkF_more hg ans f f' _ (by omega) (by omega) (by omega) (by omega)
/-- Walk's answer. -/
def walkP (l : List Br) (ans : List Int) (root : Int) : Int := if (l.length : Int) ≤ root then -1 else walkF l ans ((root + 2).toNat + 1) root
theorem ans_any (A : Option Addr) (c n : Nat) (ans : List Int) (hn : ans.length = n) (k : Nat) (w : World) (B : Nat) (hs : Sl w B A (vints .i64 ans)) :
    Calls Try.prog 48 #[.slice A n c, .int .i64 (k : Nat)] w fun e w' => e = .returned (.int .i64 (ansP ans k : Nat)) ∧ w = w' := by
  subst hn
  by_cases hk : k < ans.length
  · obtain ⟨b, off, rfl, hb, hc⟩ := hs.at (i := k) (x := .int .i64 ans[k]) (by simp [vints, hk])
    have he : ansP ans k = if ans[k] < 0 ∨ 2 < ans[k] then 1 else ans[k].toNat := by unfold ansP; rw [List.getElem?_eq_getElem hk]
    have h1 : ¬ (ans.length : Int) ≤ (k : Int) := by omega
    have h2 : (k : Int) < (ans.length : Int) := by omega
    generalize ans[k] = v at *
    clear hs hk
    by_cases hv : v < 0
    · rw [if_pos (.inl hv)] at he
      go_enter Try.func48, Try.ntmps48
      go_wp2
      go_ret
      exact ⟨rfl, rfl⟩
    · by_cases hv2 : 2 < v
      · rw [if_pos (.inr hv2)] at he
        go_enter Try.func48, Try.ntmps48
        go_wp2
        go_ret
        exact ⟨rfl, rfl⟩
      · rw [if_neg (by omega)] at he
        obtain ⟨j, rfl⟩ := Int.eq_ofNat_of_zero_le (by omega : 0 ≤ v)
        go_enter Try.func48, Try.ntmps48
        go_wp2
        go_ret
        exact ⟨rfl, rfl⟩
  · have he : ansP ans k = 1 := by unfold ansP; rw [List.getElem?_eq_none (by omega)]
    have h1 : (ans.length : Int) ≤ (k : Int) := by omega
    have HE := hide he
    clear hs he
    go_enter Try.func48, Try.ntmps48
    go_wp2
    go_ret
    exact ⟨by rw [HE.out]; rfl, rfl⟩
/-- What holds at every jump of a walk. -/
def WalkJ (w : World) (g : Nat) (l : List Br) (A : Option Addr) (c : Nat) (ans : List Int) (R : Int) (a' : Act) (w' : World) : Prop :=
  ∃ (r : Int) (f : Nat) (u3 u4 u5 u6 u7 u8 u9 u10 u11 u12 u13 u14 u15 u16 u17 u18 u19 u20 u21 u22 u23 u24 u25 u26 u27 u28 u29 u30 u31 u32 u33 u34 u35 u36 : Value), a' = { tmps := #[.pointer (some ⟨g, 0, none⟩), .int .i64 r, .slice A ans.length c, u3, u4, u5, u6, u7, u8, u9, u10, u11, u12, u13, u14, u15, u16, u17, u18, u19, u20, u21, u22, u23, u24, u25, u26, u27, u28, u29, u30, u31, u32, u33, u34, u35, u36], defers := [] } ∧
    r < (l.length : Int) ∧ -9223372036854775808 ≤ r ∧ r + 2 ≤ (f : Int) ∧ 1 ≤ f ∧ walkF l ans f r = R ∧ Drawn w w'
theorem walk_step {l : List Br} (hg : Good l) (ans : List Int) {f k : Nat} {R : Int} (hk : k < l.length) (hf : (k : Int) + 2 ≤ (f : Int)) (hR : walkF l ans f (k : Int) = R) :
    ∃ (f' : Nat) (ka : Nat), f = f' + 1 ∧ l[k].1 = (ka : Int) ∧ walkF l ans f' (toP l[k] (ansP ans ka)) = R ∧ toP l[k] (ansP ans ka) < (k : Int) ∧ -9223372036854775808 ≤ toP l[k] (ansP ans ka) ∧ toP l[k] (ansP ans ka) + 2 ≤ (f' : Int) ∧ 1 ≤ f' := by
  obtain ⟨f', rfl⟩ : ∃ f', f = f' + 1 := ⟨f - 1, by omega⟩
  have hl := List.getElem?_eq_getElem hk
  obtain ⟨h0, h1, _⟩ := hg k l[k] hl
  obtain ⟨ka, hka⟩ := Int.eq_ofNat_of_zero_le h0
  have ht := good_to hg hl (ansP ans ka)
  unfold walkF at hR
  rw [if_neg (by omega), Int.toNat_natCast, hl] at hR
  simp only [hka, Int.toNat_natCast] at hR
  exact ⟨f', ka, rfl, hka, hR, ht.2, by omega, by omega, by omega⟩
theorem walk_end {l : List Br} {ans : List Int} {f : Nat} {r R : Int} (hn : r < 0) (hf : 1 ≤ f) (hR : walkF l ans f r = R) : R = -1 - r := by
  obtain ⟨f', rfl⟩ : ∃ f', f = f' + 1 := ⟨f - 1, by omega⟩
  unfold walkF at hR
  rw [if_pos hn] at hR
  exact hR.symm
set_option maxHeartbeats 1000000 in
theorem walk_any (lo g most : Nat) (l : List Br) (A : Option Addr) (c n : Nat) (ans : List Int) (hn : ans.length = n) (root : Int) (w : World) (B : Nat) (hr : -9223372036854775808 ≤ root) (hg : Good l) (h : Dags w lo g most l) (hs : Sl w B A (vints .i64 ans)) :
    Calls Try.prog 34 #[.pointer (some ⟨g, 0, none⟩), .int .i64 root, .slice A n c] w fun e w' => e = .returned (.int .i64 (walkP l ans root)) ∧ Drawn w w' := by
  subst hn
  obtain ⟨A1, c1, k0, k1, hsl, hc, hlm, hm20⟩ := dags_open h
  have HSL := hide hsl
  have HSA := hide hs
  have HGD := hide hg
  clear h hsl hs hg
  by_cases hro : (l.length : Int) ≤ root
  · have he : walkP l ans root = -1 := by unfold walkP; rw [if_pos hro]
    go_enter Try.func34, Try.ntmps34
    go_wp2
    go_step3
    go_wp2
    rw [Exit.noGoto_ret]
    go_ret
    exact ⟨by rw [he]; rfl, Drawn.refl _⟩
  · have he : walkP l ans root = walkF l ans ((root + 2).toNat + 1) root := by unfold walkP; rw [if_neg hro]
    obtain ⟨R, hR⟩ : ∃ R, R = walkP l ans root := ⟨_, rfl⟩
    rw [← hR]
    rw [he] at hR
    clear he
    go_enter Try.func34, Try.ntmps34
    go_wp2
    refine wp_scope_jumps 0 (fun a' w' => WalkJ w g l A c ans R a' w') (fun a' _ => (intOf (a'.tmps.getD 1 undef) + 1).toNat) rfl ?_ ?_
    · go_upto_region 3 with (fail)
      go_step3
      have HDR := hide (Drawn.refl w)
      obtain ⟨f, hfe⟩ : ∃ f, f = (root + 2).toNat + 1 := ⟨_, rfl⟩
      rw [← hfe] at hR
      have hR := hR.symm
      have hf1 : 1 ≤ f := by omega
      have hf : root + 2 ≤ (f : Int) := by omega
      clear hfe
      by_cases hneg : root < 0
      · have HE := hide (walk_end hneg hf1 hR)
        have hwr : wrap64 (-1 - root) = -1 - root := IntWalk.wrap64_in _ ⟨by omega, by omega⟩
        clear hR
        go_wp2
        simp only [Exit.jump]
        go_ret
        exact ⟨by rw [HE.out]; rfl, HDR.out⟩
      · obtain ⟨k, rfl⟩ := Int.eq_ofNat_of_zero_le (by omega : 0 ≤ root)
        have hk : k < l.length := by omega
        obtain ⟨f', ka, -, hka, hR', hlt, hlo', hf', hf1'⟩ := walk_step HGD.out ans hk hf hR
        obtain ⟨b, off, rfl, hb, x0, x1, x2, x3⟩ := HSL.out.branch hk
        have k1' := (HDR.out.cell _).trans k1
        have y0 := (HDR.out.cell _).trans x0
        have y1 := (HDR.out.cell _).trans x1
        have y2 := (HDR.out.cell _).trans x2
        have y3 := (HDR.out.cell _).trans x3
        have hans := hide (fun n => ans_any A c ans.length ans rfl ka (w.drewN n) B (HSA.out.drawn (HDR.out.drewN n)))
        have hkl : (k : Int) < (l.length : Int) := by omega
        rw [hka] at y0
        generalize l[k] = bb at *
        obtain ⟨b0, b1, b2, b3⟩ := bb
        clear x0 x1 x2 x3 hR hka hk hb
        rcases ansP_le ans ka with hK | hK | hK
        all_goals
          rw [hK] at hR' hlt hlo' hf' hans
          have HR' := hide hR'
          clear hK hR'
          simp only at y0 y1 y2 y3
          go_wp2
          go_quiet ((go_at_call 48; exact quiet_of_left (hans.out _)))
          go_wp2
          go_step3
          exact ⟨rfl, ⟨_, f', _, _, _, _, _, _, _, _, _, _, _, _, _, _, _, _, _, _, _, _, _, _, _, _, _, _, _, _, _, _, _, _, _, _, rfl, by simp only [toP] at hlt ⊢; simp at hlt ⊢; omega, hlo', hf', hf1', HR'.out, HDR.out.drewN _⟩⟩
    · rintro a' wr ⟨r, f, u3, u4, u5, u6, u7, u8, u9, u10, u11, u12, u13, u14, u15, u16, u17, u18, u19, u20, u21, u22, u23, u24, u25, u26, u27, u28, u29, u30, u31, u32, u33, u34, u35, u36, rfl, hrl, hr1, hf, hf1, hR, hdr⟩
      have HDR := hide hdr
      clear hdr
      by_cases hneg : r < 0
      · have HE := hide (walk_end hneg hf1 hR)
        have hwr : wrap64 (-1 - r) = -1 - r := IntWalk.wrap64_in _ ⟨by omega, by omega⟩
        clear hR
        go_wp2
        simp only [Exit.jump]
        go_ret
        exact ⟨by rw [HE.out]; rfl, HDR.out⟩
      · obtain ⟨k, rfl⟩ := Int.eq_ofNat_of_zero_le (by omega : 0 ≤ r)
        have hk : k < l.length := by omega
        obtain ⟨f', ka, -, hka, hR', hlt, hlo', hf', hf1'⟩ := walk_step HGD.out ans hk hf hR
        obtain ⟨b, off, rfl, hb, x0, x1, x2, x3⟩ := HSL.out.branch hk
        have k1' := (HDR.out.cell _).trans k1
        have y0 := (HDR.out.cell _).trans x0
        have y1 := (HDR.out.cell _).trans x1
        have y2 := (HDR.out.cell _).trans x2
        have y3 := (HDR.out.cell _).trans x3
        have hans := hide (fun n => ans_any A c ans.length ans rfl ka (wr.drewN n) B (HSA.out.drawn (HDR.out.drewN n)))
        have hkl : (k : Int) < (l.length : Int) := by omega
        rw [hka] at y0
        generalize l[k] = bb at *
        obtain ⟨b0, b1, b2, b3⟩ := bb
        clear x0 x1 x2 x3 hR hka hk hb
        rcases ansP_le ans ka with hK | hK | hK
        all_goals
          rw [hK] at hR' hlt hlo' hf' hans
          have HR' := hide hR'
          clear hK hR'
          simp only at y0 y1 y2 y3
          go_wp2
          go_quiet ((go_at_call 48; exact quiet_of_left (hans.out _)))
          go_wp2
          go_step3
          exact ⟨rfl, ⟨_, f', _, _, _, _, _, _, _, _, _, _, _, _, _, _, _, _, _, _, _, _, _, _, _, _, _, _, _, _, _, _, _, _, _, _, rfl, by simp only [toP] at hlt ⊢; simp at hlt ⊢; omega, hlo', hf', hf1', HR'.out, HDR.out.drewN _⟩, by simp [intOf, toP] at hlt ⊢; omega⟩
end Go.Proofs.Ytinlnfhicnejmaa
