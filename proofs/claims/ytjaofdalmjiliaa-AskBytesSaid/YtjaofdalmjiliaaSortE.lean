/-
  SORTING: CONTRACT OF slices.SortStableFunc at attributes: in order, the same ones.
-/
import Derived.Test.YtjaofdalmjiliaaSortD
namespace Go.Proofs.Ytjaofdalmjiliaa
open Go.RowKit
set_option linter.unusedVariables false

/-- Blocks of s each, every one in order. -/
def Good (s : Nat) (bl : List (List Gm)) : Prop := ∀ b ∈ bl, b.length = s ∧ Up b
theorem Good.snoc {s : Nat} {bl : List (List Gm)} {b : List Gm} (h : Good s bl) (h1 : b.length = s) (h2 : Up b) : Good s (bl ++ [b]) := fun c hc => by
  rcases List.mem_append.1 hc with hc | hc
  · exact h c hc
  · rw [List.mem_singleton] at hc; subst hc; exact ⟨h1, h2⟩
theorem Good.len {s : Nat} : ∀ {bl : List (List Gm)}, Good s bl → bl.flatten.length = bl.length * s
  | [], _ => by simp
  | b :: bl, h => by
    rw [List.flatten_cons, List.length_append, (h b (by simp)).1, Good.len (fun c hc => h c (by simp [hc])), List.length_cons, Nat.add_mul]
    omega
theorem Good.tail {s : Nat} {b : List Gm} {bl : List (List Gm)} (h : Good s (b :: bl)) : Good s bl := fun c hc => h c (by simp [hc])
theorem Good.head {s : Nat} {b : List Gm} {bl : List (List Gm)} (h : Good s (b :: bl)) : b.length = s ∧ Up b := h b (by simp)
theorem flat_snoc (bl : List (List Gm)) (b : List Gm) : (bl ++ [b]).flatten = bl.flatten ++ b := by simp
theorem perm_mid {p A C q : List Gm} (h : C.Perm A) : (p ++ C ++ q).Perm (p ++ A ++ q) := (h.append_left p).append_right q
/-- Rows and what is as it was. -/
def Sorting (w wr : World) (B g c : Nat) (L0 L : List Gm) : Prop := Rest w wr B g c L ∧ L.Perm L0
/-- Behind a helper that has put C in the place of A. -/
theorem Sorting.step {w wr w' : World} {B g c : Nat} {L0 p A C q : List Gm} {e : Ending} (h : Sorting w wr B g c L0 (p ++ A ++ q)) (hp : C.Perm A) (hs : SortPost wr B g c (p ++ C ++ q) e w') : Sorting w w' B g c L0 (p ++ C ++ q) :=
  ⟨⟨hs.2.1, grown_trans h.1.2 hs.2.2⟩, (perm_mid hp).trans h.2⟩
theorem Sorting.len {w wr : World} {B g c : Nat} {L0 L : List Gm} (h : Sorting w wr B g c L0 L) : L.length = L0.length := h.2.length_eq
set_option maxHeartbeats 4000000 in
set_option maxRecDepth 20000 in
theorem stable_any (B g c N : Nat) (L0 : List Gm) (w : World) (hN : L0.length = N) (hN2 : N ≤ 1000000) (h : RowAt w B g c L0) :
    Calls Try.prog 45 #[.slice (some ⟨g, 0, none⟩) N c, .int .i64 N, cmpV] w (fun e w' => ∃ t, Up t ∧ t.Perm L0 ∧ SortPost w B g c t e w') := by
  have HS : Hid (∃ bl R, Good 20 bl ∧ Sorting w w B g c L0 (bl.flatten ++ R) ∧ bl.flatten.length = 0) := hide ⟨[], L0, fun b hb => absurd hb (by simp), ⟨⟨by simpa using h, World.grownBy.refl w _⟩, by simp⟩, by simp⟩
  clear h
  unfold cmpV
  go_enter Try.func45, Try.ntmps45
  go_wp2
  go_loopw [7, 8] (fun u v wr => ∃ (a b : Nat), u = .int .i64 a ∧ v = .int .i64 b ∧ b = a + 20 ∧ a ≤ N ∧ Hid (∃ bl R, Good 20 bl ∧ Sorting w wr B g c L0 (bl.flatten ++ R) ∧ bl.flatten.length = a)) (fun u v _ => N - (intOf u).toNat)
  case atStart => exact ⟨0, 20, rfl, rfl, rfl, Nat.zero_le _, HS⟩
  case round =>
    clear HS
    obtain ⟨a, b, rfl, rfl, hab, haN, HE⟩ := hrel
    have HAB := hide hab
    obtain ⟨bl, R, hgd, hst, hla⟩ := HE.out
    have hlR : a + R.length = N := by have := hst.len; rw [List.length_append] at this; omega
    have HST := hide hst
    have HGD := hide hgd
    have HLA := hide hla
    clear HE hst hgd hla
    by_cases hle : b ≤ N
    · have z1 : (b : Int) ≤ (N : Int) := by omega
      obtain ⟨A, q, rfl, hA, hq⟩ := cut_two R 20 (by omega)
      have HI := hide (insertion_any B g c N bl.flatten A q a b wr (by have := HST.out.len; rw [← hN, ← this]; simp) hN2 HLA.out (by omega) (by have := HST.out.1.1; simpa using this))
      unfold cmpV at HI
      clear hab hlR
      go_wp2_with fail
      refine HI.out.mono ?_
      rintro e w2 ⟨C, hup, hpm, hsp⟩
      have hee := hsp.1
      subst hee
      have hab := HAB.out
      have HN : Hid (∃ bl R, Good 20 bl ∧ Sorting w w2 B g c L0 (bl.flatten ++ R) ∧ bl.flatten.length = b) := hide (by
        have h1 : Sorting w wr B g c L0 (bl.flatten ++ A ++ q) := by have := HST.out; simpa using this
        refine ⟨bl ++ [C], q, HGD.out.snoc (by rw [hpm.length_eq, hA]) hup, ?_, ?_⟩
        · rw [flat_snoc]; exact h1.step hpm hsp
        · rw [flat_snoc, List.length_append, HLA.out, hpm.length_eq, hA]; omega)
      clear HI hup hpm hsp HST HGD HLA hab
      go_wp2
      go_roundw
      case rel => exact ⟨b, b + 20, by go_num, by go_num, rfl, hle, HN⟩
      case measure => have := HAB.out; simp [intOf]; omega
    · have z1 : ¬ (b : Int) ≤ (N : Int) := by omega
      have HI := hide (insertion_any B g c N bl.flatten R [] a N wr (by have := HST.out.len; rw [← hN, ← this]; simp) hN2 HLA.out hlR (by have := HST.out.1.1; simpa using this))
      unfold cmpV at HI
      have HLR := hide hlR
      clear hab hlR
      go_wp2_with fail
      refine HI.out.mono ?_
      rintro e w2 ⟨C, hup, hpm, hsp⟩
      have hee := hsp.1
      subst hee
      have hab := HAB.out
      have hlR := HLR.out
      have HN : Hid (∃ bl T, Good 20 bl ∧ Up T ∧ T.length < 20 ∧ Sorting w w2 B g c L0 (bl.flatten ++ T)) := hide (by
        have h1 : Sorting w wr B g c L0 (bl.flatten ++ R ++ []) := by have := HST.out; simpa using this
        refine ⟨bl, C, HGD.out, hup, by rw [hpm.length_eq]; omega, ?_⟩
        have := h1.step hpm hsp
        simpa using this)
      clear HI hup hpm hsp HST HGD HLA hab haN hlR hle z1
      go_wp2
      go_loopw [6] (fun u wr => ∃ (z : Nat), u = .int .i64 z ∧ 20 ≤ z ∧ z ≤ 2000000 ∧ Hid (∃ bl T, Good z bl ∧ Up T ∧ T.length < z ∧ Sorting w wr B g c L0 (bl.flatten ++ T))) (fun u _ => N - (intOf u).toNat)
      case atStart => exact ⟨20, rfl, by omega, by omega, HN⟩
      case round =>
        clear HN
        obtain ⟨z, rfl, hz1, hz2, HE⟩ := hrel
        by_cases hzN : z < N
        · have zz1 : (z : Int) < (N : Int) := by omega
          have HE2 : Hid (∃ nb bl T, Good (2 * z) nb ∧ Good z bl ∧ Up T ∧ T.length < z ∧ Sorting w wr B g c L0 (nb.flatten ++ bl.flatten ++ T) ∧ nb.flatten.length = 0) := hide (by
            obtain ⟨bl, T, h1, h2, h3, h4⟩ := HE.out
            exact ⟨[], bl, T, fun b hb => absurd hb (by simp), h1, h2, h3, by simpa using h4, by simp⟩)
          clear HE
          obtain ⟨wo, hwo⟩ : ∃ wo, wo = wr := ⟨_, rfl⟩
          subst hwo
          go_wp2
          go_loopw [7, 8] (fun u v wr => ∃ (a b : Nat), u = .int .i64 a ∧ v = .int .i64 b ∧ Hid (b = a + 2 * z) ∧ a ≤ N ∧ Hid (∃ nb bl T, Good (2 * z) nb ∧ Good z bl ∧ Up T ∧ T.length < z ∧ Sorting w wr B g c L0 (nb.flatten ++ bl.flatten ++ T) ∧ nb.flatten.length = a)) (fun u _ _ => N - (intOf u).toNat)
          case atStart => exact ⟨0, 2 * z, rfl, by go_num, hide (by omega), Nat.zero_le _, HE2⟩
          case round =>
            clear HE2
            obtain ⟨a, b, rfl, rfl, HAB2, haN, HE⟩ := hrel
            obtain ⟨nb, bl, T, hg1, hg2, hu, htl, hst, hla⟩ := HE.out
            have hlen : a + bl.length * z + T.length = N := by
              have := hst.len
              rw [List.length_append, List.length_append, hla, hg2.len, hN] at this
              exact this
            have HG := hide (⟨hg1, hg2, hu, htl⟩ : _ ∧ _ ∧ _ ∧ _)
            have HST := hide hst
            have HLA := hide hla
            have HLEN := hide hlen
            clear HE hg1 hg2 hu htl hst hla hlen
            by_cases hle : b ≤ N
            · have z1 : (b : Int) ≤ (N : Int) := by omega
              have hbl : 2 ≤ bl.length := by
                have h1 := HAB2.out
                have h2 := HLEN.out
                have h3 := HG.out.2.2.2
                rcases Nat.lt_or_ge bl.length 2 with h4 | h4
                · exfalso
                  have : bl.length * z ≤ 1 * z := Nat.mul_le_mul_right z (by omega)
                  omega
                · exact h4
              obtain ⟨x, y, bl', rfl⟩ : ∃ x y bl', bl = x :: y :: bl' := by
                cases bl with
                | nil => simp at hbl
                | cons x bl => cases bl with
                  | nil => simp at hbl
                  | cons y bl => exact ⟨x, y, bl, rfl⟩
              have gx := HG.out.2.1.head
              have gy := HG.out.2.1.tail.head
              have HI := hide (symMerge_any B g c N hN2 N nb.flatten x y (bl'.flatten ++ T) a (a + z) b wr (by omega) (by have := HST.out.len; rw [← hN, ← this]; simp) HLA.out (by rw [gx.1]) (by rw [gy.1]; have := HAB2.out; omega) (by rw [gx.1]; omega) (by rw [gy.1]; omega) gx.2 gy.2 (by have := HST.out.1.1; simpa using this))
              unfold cmpV at HI
              have e1 : ((a + z : Nat) : Int) = (a : Int) + (z : Int) := by omega
              rw [e1] at HI
              have GX := hide gx.1
              have GY := hide gy.1
              have hbN2 : a + z ≤ N := by have := HAB2.out; omega
              clear gx gy e1 hbl
              go_wp2_with fail
              refine HI.out.mono ?_
              rintro e w2 ⟨C, hup, hpm, hsp⟩
              have hee := hsp.1
              subst hee
              have HN : Hid (∃ nb bl T, Good (2 * z) nb ∧ Good z bl ∧ Up T ∧ T.length < z ∧ Sorting w w2 B g c L0 (nb.flatten ++ bl.flatten ++ T) ∧ nb.flatten.length = b) := hide (by
                have h1 : Sorting w wr B g c L0 (nb.flatten ++ (x ++ y) ++ (bl'.flatten ++ T)) := by have := HST.out; simpa using this
                have hcl : C.length = 2 * z := by rw [hpm.length_eq, List.length_append, GX.out, GY.out]; omega
                refine ⟨nb ++ [C], bl', T, HG.out.1.snoc hcl hup, HG.out.2.1.tail.tail, HG.out.2.2.1, HG.out.2.2.2, ?_, ?_⟩
                · rw [flat_snoc, List.append_assoc (nb.flatten ++ C)]; exact h1.step hpm hsp
                · rw [flat_snoc, List.length_append, HLA.out, hcl]; have := HAB2.out; omega)
              clear HI hup hpm hsp HST HG HLA HLEN GX GY
              go_wp2
              go_roundw
              case rel => exact ⟨b, b + 2 * z, by go_num, by congr 1, hide rfl, hle, HN⟩
              case measure => have := HAB2.out; simp [intOf]; omega
            · have z1 : ¬ (b : Int) ≤ (N : Int) := by omega
              have hblt : bl.length ≤ 1 := by
                have h1 := HAB2.out
                have h2 := HLEN.out
                rcases Nat.lt_or_ge 1 bl.length with h4 | h4
                · exfalso
                  have : 2 * z ≤ bl.length * z := Nat.mul_le_mul_right z (by omega)
                  omega
                · exact h4
              by_cases hm : a + z < N
              · have zm : (a : Int) + (z : Int) < (N : Int) := by omega
                obtain ⟨x, rfl⟩ : ∃ x, bl = [x] := by
                  cases bl with
                  | nil => exfalso; have h1 := HLEN.out; have h2 := HG.out.2.2.2; simp at h1; omega
                  | cons x bl => cases bl with
                    | nil => exact ⟨x, rfl⟩
                    | cons y bl => simp at hblt
                have gx := HG.out.2.1.head
                have hTl : a + z + T.length = N := by have := HLEN.out; simp at this; omega
                have HI := hide (symMerge_any B g c N hN2 N nb.flatten x T [] a (a + z) N wr (by omega) (by have := HST.out.len; rw [← hN, ← this]; simp) HLA.out (by rw [gx.1]) hTl (by rw [gx.1]; omega) (by omega) gx.2 HG.out.2.2.1 (by have := HST.out.1.1; simpa using this))
                unfold cmpV at HI
                have e1 : ((a + z : Nat) : Int) = (a : Int) + (z : Int) := by omega
                rw [e1] at HI
                have GX := hide gx.1
                have HTL := hide hTl
                clear gx e1 hblt hTl
                go_wp2_with fail
                refine HI.out.mono ?_
                rintro e w2 ⟨C, hup, hpm, hsp⟩
                have hee := hsp.1
                subst hee
                have HN : Hid (∃ bl T, Good (2 * z) bl ∧ Up T ∧ T.length < 2 * z ∧ Sorting w w2 B g c L0 (bl.flatten ++ T)) := hide (by
                  have h1 : Sorting w wr B g c L0 (nb.flatten ++ (x ++ T) ++ []) := by have := HST.out; simpa using this
                  refine ⟨nb, C, HG.out.1, hup, by rw [hpm.length_eq, List.length_append, GX.out]; have := HG.out.2.2.2; omega, ?_⟩
                  have := h1.step hpm hsp
                  simpa using this)
                clear HI hup hpm hsp HST HG HLA HLEN GX HTL
                go_wp2
                go_roundw
                case rel => exact ⟨2 * z, by congr 1; omega, by omega, by omega, HN⟩
                case measure => simp [intOf]; omega
              · have zm : ¬ (a : Int) + (z : Int) < (N : Int) := by omega
                have HN : Hid (∃ bl T, Good (2 * z) bl ∧ Up T ∧ T.length < 2 * z ∧ Sorting w wr B g c L0 (bl.flatten ++ T)) := hide (by
                  cases bl with
                  | nil => exact ⟨nb, T, HG.out.1, HG.out.2.2.1, by have := HG.out.2.2.2; omega, by have := HST.out; simpa using this⟩
                  | cons x bl => cases bl with
                    | cons y bl => simp at hblt
                    | nil =>
                      have hT0 : T = [] := List.eq_nil_of_length_eq_zero (by have := HLEN.out; simp at this; omega)
                      subst hT0
                      exact ⟨nb, x, HG.out.1, HG.out.2.1.head.2, by rw [HG.out.2.1.head.1]; omega, by have := HST.out; simpa using this⟩)
                clear HST HG HLA HLEN hblt
                go_wp2
                go_roundw
                case rel => exact ⟨2 * z, by congr 1; omega, by omega, by omega, HN⟩
                case measure => simp [intOf]; omega
        · have zz1 : ¬ (z : Int) < (N : Int) := by omega
          have HF : Hid (∃ t, Up t ∧ Sorting w wr B g c L0 t) := hide (by
            obtain ⟨bl, T, h1, h2, h3, h4⟩ := HE.out
            have hl := h4.len
            rw [List.length_append, h1.len, hN] at hl
            cases bl with
            | nil => exact ⟨T, h2, by simpa using h4⟩
            | cons x bl => cases bl with
              | nil =>
                have hT0 : T = [] := List.eq_nil_of_length_eq_zero (by simp at hl; omega)
                subst hT0
                exact ⟨x, h1.head.2, by simpa using h4⟩
              | cons y bl =>
                exfalso
                have : 2 * z ≤ (x :: y :: bl).length * z := Nat.mul_le_mul_right z (by simp)
                omega)
          clear HE
          go_wp2
          go_end0
          obtain ⟨t, ht, hs⟩ := HF.out
          exact ⟨t, ht, hs.2, rfl, hs.1.1, hs.1.2⟩
theorem sort_own (B : Nat) (v : Value) (s : List Gm) (w : World) (hs : s.length ≤ 1000000) (h : w.ownsRow B 40 3 v s.length (cellsG s)) :
    Calls Try.prog 25 #[v, cmpV] w (fun e w' => e = .returned (.tuple #[]) ∧ ∃ t, Up t ∧ t.Perm s ∧ w'.ownsRow B 40 3 v t.length (cellsG t) ∧ Below B w w') := by
  have hcopy := h
  rcases h.2 with ⟨rfl, hx⟩ | ⟨g, cap, cur, rfl, hb, hg, hnc, _⟩
  · obtain rfl : s = [] := List.eq_nil_of_length_eq_zero hx
    unfold cmpV
    refine (sort_none w _).mono ?_
    rintro e w' ⟨rfl, rfl⟩
    exact ⟨rfl, [], List.Pairwise.nil, List.Perm.refl _, hcopy, Below.refl _ _⟩
  · have HI := hide (stable_any B g cap s.length s w rfl hs hcopy)
    have hlt := (Array.getElem?_eq_some_iff.1 hg).1
    have HF : Hid (B ≤ g ∧ B ≤ w.heap.size) := hide ⟨hb, by omega⟩
    unfold cmpV at HI ⊢
    clear hcopy hb hg hnc hlt
    go_enter Try.func25, Try.ntmps25
    go_wp2_with fail
    refine HI.out.mono ?_
    rintro e w2 ⟨t, hup, hpm, rfl, hrow, hout⟩
    have HR := hide hrow
    have HB := hide (below_grown (Below.refl B w) hout HF.out.1 HF.out.2)
    have HP := hide (⟨hup, hpm⟩ : _ ∧ _)
    clear HI hrow hout hup hpm
    go_wp2
    go_end0
    exact ⟨rfl, t, HP.out.1, HP.out.2, by have := HR.out; unfold RowAt at this; rw [HP.out.2.length_eq] at this ⊢; exact this, HB.out⟩
end Go.Proofs.Ytjaofdalmjiliaa
