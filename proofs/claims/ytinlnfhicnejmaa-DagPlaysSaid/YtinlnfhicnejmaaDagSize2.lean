/-
  CONTRACT OF Dag.Size.
-/
import Derived.Test.YtinlnfhicnejmaaDagSize
import Derived.Maps.OwnOps
namespace Go.Proofs.Ytinlnfhicnejmaa
open Go.RowKit Go.Maps
set_option linter.unusedVariables false

theorem keyedInt : Keyed Try.prog 3 := int_keyed Try.underlying3
theorem zeroUnit (w : World) : (zeroValue 92).run Try.prog w = .ok (.agg #[]) w := by kernel_rfl
theorem infoInt : (Try.prog.info? 3).map (fun i => (i.zero, i.size, i.bytes)) = some (some (.int .i64 0), 1, 8) := by kernel_rfl
/-- A set of numbers in memory. -/
def SetAt (w : World) (mb : Nat) (seen : List Int) : Prop :=
  ∃ D : DataW Unit, w.ownsMap Try.prog 3 unitElem mb seen.length D ∧ Maps.size D = seen.length ∧ ∀ t : Int, Maps.has D (.int .i64 t) = decide (t ∈ seen)
theorem set_made (w : World) : SetAt (w.alloc (.map #[] 0)) w.heap.size [] :=
  ⟨.map [], World.ownsMap_made _ _ _ _, rfl, fun t => by simp [Maps.has]⟩
theorem set_put {w' : World} {mb : Nat} {seen : List Int} {D : DataW Unit} {t : Int} (hs : Maps.size D = seen.length) (hh : ∀ t : Int, Maps.has D (.int .i64 t) = decide (t ∈ seen)) (ht : Tidy D) (hn : t ∉ seen)
    (h : w'.ownsMap Try.prog 3 unitElem mb (seen.length + 1) (D.put (.int .i64 t) (.agg []))) : SetAt w' mb (seen ++ [t]) := by
  refine ⟨_, by rw [List.length_append]; exact h, ?_, fun u => ?_⟩
  · rw [size_put ht, hh t, decide_eq_false hn, List.length_append, hs]; rfl
  · by_cases hu : u = t
    · subst hu
      rw [has_put_same (k := .int .i64 u) ht.isMap True.intro]
      simp
    · rw [has_put_other (by intro e; injection e with _ e; exact hu e), hh u]
      simp [hu]
theorem grown_of_below {w w' : World} (h : Below w.heap.size w w') (row : Option Nat) : w.grownBy w' row := ⟨h.os, h.tape, h.output, h.size, fun k hk _ => h.block k hk⟩
theorem set_keep {w w' : World} {mb : Nat} {seen : List Int} (h : SetAt w mb seen) (hb : Below w.heap.size w w') : SetAt w' mb seen := by
  obtain ⟨D, h1, h2, h3⟩ := h
  exact ⟨D, h1.kept (grown_of_below hb none) (by simp), h2, h3⟩
theorem set_kept {w w' : World} {mb : Nat} {seen : List Int} {row : Option Nat} (h : SetAt w mb seen) (hg : w.grownBy w' row) (hne : some mb ≠ row) : SetAt w' mb seen := by
  obtain ⟨D, h1, h2, h3⟩ := h
  exact ⟨D, h1.kept hg hne, h2, h3⟩
/-- The first of an owned row. -/
theorem own_prefix {w : World} {B m : Nat} {e : TypeId} {A : Option Addr} {n c : Nat} {xs : List Value} (h : w.ownsRow B e 1 (.slice A n c) n xs) (hm : m ≤ n) (h0 : 0 < n) : w.ownsRow B e 1 (.slice A m c) m (xs.take m) := by
  refine ⟨by rw [List.length_take, h.1]; omega, ?_⟩
  rcases h.2 with ⟨h1, h2⟩ | ⟨g, cap, cur, h1, h2, h3, h4, h5, h6, h7⟩
  · omega
  · injection h1 with e1 e2 e3
    subst e1 e3
    refine .inr ⟨g, c, cur, rfl, h2, h3, by omega, h5, h6, ?_⟩
    rw [← h7, List.take_take]
    congr 1
    omega
theorem new_three {w5 w6 : World} {q mb : Nat} {xs : List Value} (hlt : q < w5.heap.size) (hc : ∀ j v, xs[j]? = some v → w5.cell? ⟨q, 1 + j, none⟩ = some v) (hg : w5.grownBy w6 (some mb)) (hm : mb < q) : Sl w6 w6.heap.size (some ⟨q, 1, none⟩) xs :=
  fun _ => ⟨q, 1, rfl, Nat.lt_of_lt_of_le hlt hg.size, fun j v hj => (World.cell?_of_block (hg.block q hlt (by intro h; injection h with h; omega))).trans (hc j v hj)⟩
/-- The branch of a number. -/
def brAt (l : List Br) (t : Int) : Option Br := if t < 0 then none else l[t.toNat]?
/-- The reached ones, gone through as Size does: the ways that are left, the last one first; what was seen. -/
def sizeRun (l : List Br) : Nat → List Int → List Int → Option Nat
  | 0, _, _ => none
  | _ + 1, [], seen => some seen.length
  | f + 1, t :: r, seen => if t ∈ seen then sizeRun l f r seen else match brAt l t with
    | none => sizeRun l f r seen
    | some b => sizeRun l f (b.2.2.2 :: b.2.2.1 :: b.2.1 :: r) (seen ++ [t])
def I64 (t : Int) : Prop := -9223372036854775808 ≤ t ∧ t ≤ 9223372036854775807
theorem wrap_small (m : Nat) (h : m ≤ 30004) : wrap64 (m : Int) = (m : Int) := IntWalk.wrap64_in _ ⟨by omega, by omega⟩
theorem wrap_small2 (m : Nat) (h : m ≤ 30004) : IntKind.i64.wrap (m : Int) = (m : Int) := IntWalk.i64_in _ (by omega)
/-- In the midst of Size. -/
def SizeRel (w : World) (l : List Br) (F n f : Nat) (v : Value) (wr : World) : Prop :=
  ∃ (st seen : List Int), sizeRun l f st seen = some n ∧ SetAt wr w.heap.size seen ∧ wr.ownsRow (w.heap.size + 1) 3 1 v st.length (vints .i64 st.reverse) ∧ Below w.heap.size w wr ∧ w.heap.size + 1 ≤ wr.heap.size ∧
    seen.length + f ≤ F ∧ st.length ≤ 1 + 3 * seen.length ∧ ∀ t ∈ st, I64 t
set_option maxHeartbeats 4000000 in
set_option maxRecDepth 20000 in
theorem size_any (lo g most : Nat) (l : List Br) (root : Int) (F n : Nat) (w : World) (hF : F ≤ 10000) (hr : I64 root) (hl : ∀ b ∈ l, I64 b.2.1 ∧ I64 b.2.2.1 ∧ I64 b.2.2.2) (hrun : sizeRun l F [root] [] = some n) (h : Dags w lo g most l) :
    Calls Try.prog 35 #[.pointer (some ⟨g, 0, none⟩), .int .i64 root] w fun e w' => e = .returned (.int .i64 (n : Nat)) ∧ Below w.heap.size w w' := by
  have hmm := @run_makeMap Try.prog
  obtain ⟨i0, hi, hz0, hz1, hz2⟩ := info_parts infoInt
  have Hi := hide hi
  have Hz0 := hide hz0
  have Hz1 := hide hz1
  have Hz2 := hide hz2
  have HD := hide h
  have HL := hide hl
  have HRUN := hide hrun
  clear hi hz0 hz1 hz2 h hl hrun
  go_enter Try.func35, Try.ntmps35
  go_wp2
  go_loopg [6] F (fun f v wr => SizeRel w l F n f v wr)
  case atStart =>
    refine ⟨[root], [], HRUN.out, ?_, ?_, ?_, ?_, by simp, by simp, by simpa using hr⟩
    · exact set_kept (set_made w) (World.grownBy_alloc _ _ none) (by simp)
    · have h := heap_alloc_new (w.alloc (.map #[] 0)) (.cells #[.int .i64 root] 3 (0, 0))
      have e : (w.alloc (.map #[] 0)).heap.size = w.heap.size + 1 := by simp
      rw [e] at h
      exact ⟨rfl, .inr ⟨w.heap.size + 1, 1, #[.int .i64 root], rfl, Nat.le_refl _, h, Nat.le_refl _, by simp [maxLen], rfl, rfl⟩⟩
    · exact ((Below.refl _ _).alloc (Nat.le_refl _) _).alloc (by simp) _
    · simp
  case round =>
    obtain ⟨st, seen, hrun, hset, hown, hbel, hsz, hsf, hst, hi64⟩ := hrel
    clear HRUN
    obtain ⟨D, hD, hDs, hDh⟩ := hset
    rcases gk with _ | f
    · simp [sizeRun] at hrun
    rcases st with _ | ⟨t, r⟩
    · have hn : seen.length = n := by simpa [sizeRun] using hrun
      obtain ⟨A, c, rfl, _, _, _⟩ := own_slice hown
      have HB := hide hbel
      have HN : Hid (Maps.size D = n) := hide (by rw [hDs, hn])
      clear hown hbel hrun hDh
      go_wp2_with (at_len; refine wpList_len_own _ rfl _ 91 rfl 3 92 Try.underlying91 unitElem w.heap.size seen.length D rfl hD ?_)
      go_ret
      exact ⟨rfl, HB.out⟩
    · obtain ⟨A, c, rfl, hcc, hsl, hbase0⟩ := own_slice hown
      have hlr : (t :: r).length = r.length + 1 := rfl
      obtain ⟨b, off, rfl, _, hcell⟩ := hsl.at (i := r.length) (x := .int .i64 t) (by simp [vints])
      have HBASE : Hid (w.heap.size + 1 ≤ b) := hide (hbase0 _ rfl)
      clear hbase0
      have hown1 := own_prefix hown (m := r.length) (by simp) (by simp)
      have hcells : (vints .i64 (t :: r).reverse).take r.length = vints .i64 r.reverse := by
        simp only [vints, List.reverse_cons, List.map_append]
        rw [List.take_left' (by simp)]
      rw [hcells] at hown1
      rw [hlr] at hcc hst ⊢
      have hit := hi64 t (by simp)
      have hir : ∀ u ∈ r, I64 u := fun u hu => hi64 u (List.mem_cons_of_mem _ hu)
      have hkey : keyOf Try.prog 3 (.int .i64 t) = some (.int .i64 t) := keyOf_int_mk Try.underlying3 (WalkArith.wf_i64 (by unfold I64 at hit; omega))
      have HO := hide hown1
      have HB := hide hbel
      have HD2 := hide hD
      have HDH := hide hDh
      have HDS := hide hDs
      have HI := hide hir
      have HDG := hide (dags_below HD.out hbel)
      generalize hm : r.length = m at *
      have hm3 : m ≤ 30004 := by omega
      have w1 : (0 : Int) < (m : Int) + 1 := by omega
      have w2 := wrap_small m hm3
      have w3 := wrap_small2 m hm3
      have hcc' : m ≤ c := Nat.le_of_succ_le hcc
      clear hcc
      have w4 : (m : Int) ≤ (c : Int) := Int.ofNat_le.2 hcc'
      clear hown hsl hown1 hbel hD hDh hDs hir hcells hi64
      unfold sizeRun at hrun
      by_cases hs : t ∈ seen
      · rw [if_pos hs] at hrun
        have HRUN := hide hrun
        clear hrun
        by_cases hout : t < 0 ∨ (l.length : Int) ≤ t
        · go_wp2_with fail
          refine (branch_out lo g most l t hout wr HDG.out).mono ?_
          rintro e w2 ⟨rfl, hb2⟩
          have hw2 := hb2.size
          simp only [brV]
          have hb3 := below_on hb2 (below_new w2 (.cells #[.int .i64 0, .int .i64 0, .int .i64 0, .int .i64 0] 57))
          have HO3 := hide (HD2.out.kept (grown_of_below hb3 none) (by simp))
          have HH : Maps.has D (.int .i64 t) = true := by rw [HDH.out t]; exact decide_eq_true hs
          have hb4 := below_on hb3 (below_new _ (.cells #[] 92))
          have HB4 := hide hb4
          have HBB := hide (HB.out.trans (hb4.mono HB.out.size))
          clear hb2 hb3 hb4
          go_wp2_with (at_lookup; refine wpList_lookup_own_unit _ rfl _ _ 91 rfl 3 92 keyedInt Try.underlying91 (zeroUnit _) w.heap.size seen.length D rfl HO3.out _ (.int .i64 t) rfl hkey ?_)
          go_roundg f
          case measure => omega
          case rel => exact ⟨r, seen, HRUN.out, ⟨D, HD2.out.kept (grown_of_below HB4.out none) (by simp), HDS.out, HDH.out⟩, by rw [hm]; exact own_below_keep HO.out HB4.out, HBB.out, Nat.le_trans hsz HB4.out.size, by omega, by rw [hm]; omega, HI.out⟩
        · have ht0 : 0 ≤ t := by omega
          obtain ⟨k, rfl⟩ := Int.eq_ofNat_of_zero_le ht0
          have hk : k < l.length := by omega
          obtain ⟨p, hp⟩ : ∃ p, p = l[k] := ⟨_, rfl⟩
          have hbr := hide (branch_in lo g most l k hk wr HDG.out)
          rw [← hp] at hbr
          clear hp
          obtain ⟨p0, p1, p2, p3⟩ := p
          go_wp2_with fail
          refine (hbr.out).mono ?_
          rintro e w2 ⟨rfl, hb2⟩
          have hw2 := hb2.size
          simp only [brV]
          have hb3 := below_on hb2 (below_new w2 (.cells #[.int .i64 p0, .int .i64 p1, .int .i64 p2, .int .i64 p3] 57))
          have HO3 := hide (HD2.out.kept (grown_of_below hb3 none) (by simp))
          have HH : Maps.has D (.int .i64 (k : Int)) = true := by rw [HDH.out (k : Int)]; exact decide_eq_true hs
          have hb4 := below_on hb3 (below_new _ (.cells #[] 92))
          have HB4 := hide hb4
          have HBB := hide (HB.out.trans (hb4.mono HB.out.size))
          clear hb2 hb3 hb4
          go_wp2_with (at_lookup; refine wpList_lookup_own_unit _ rfl _ _ 91 rfl 3 92 keyedInt Try.underlying91 (zeroUnit _) w.heap.size seen.length D rfl HO3.out _ (.int .i64 (k : Int)) rfl hkey ?_)
          go_roundg f
          case measure => omega
          case rel => exact ⟨r, seen, HRUN.out, ⟨D, HD2.out.kept (grown_of_below HB4.out none) (by simp), HDS.out, HDH.out⟩, by rw [hm]; exact own_below_keep HO.out HB4.out, HBB.out, Nat.le_trans hsz HB4.out.size, by omega, by rw [hm]; omega, HI.out⟩
      · rw [if_neg hs] at hrun
        by_cases hout : t < 0 ∨ (l.length : Int) ≤ t
        · have hba : brAt l t = none := by
            unfold brAt
            rcases hout with h | h
            · rw [if_pos h]
            · rw [if_neg (by omega), List.getElem?_eq_none (by omega)]
          rw [hba] at hrun
          have HRUN := hide hrun
          clear hrun hba
          go_wp2_with fail
          refine (branch_out lo g most l t hout wr HDG.out).mono ?_
          rintro e w2 ⟨rfl, hb2⟩
          have hw2 := hb2.size
          simp only [brV]
          have hb3 := below_on hb2 (below_new w2 (.cells #[.int .i64 0, .int .i64 0, .int .i64 0, .int .i64 0] 57))
          have HO3 := hide (HD2.out.kept (grown_of_below hb3 none) (by simp))
          have HH : Maps.has D (.int .i64 t) = false := by rw [HDH.out t]; exact decide_eq_false hs
          have hb4 := below_on hb3 (below_new _ (.cells #[] 92))
          have HB4 := hide hb4
          have HBB := hide (HB.out.trans (hb4.mono HB.out.size))
          clear hb2 hb3 hb4
          go_wp2_with (at_lookup; refine wpList_lookup_own_unit _ rfl _ _ 91 rfl 3 92 keyedInt Try.underlying91 (zeroUnit _) w.heap.size seen.length D rfl HO3.out _ (.int .i64 t) rfl hkey ?_)
          go_roundg f
          case measure => omega
          case rel => exact ⟨r, seen, HRUN.out, ⟨D, HD2.out.kept (grown_of_below HB4.out none) (by simp), HDS.out, HDH.out⟩, by rw [hm]; exact own_below_keep HO.out HB4.out, HBB.out, Nat.le_trans hsz HB4.out.size, by omega, by rw [hm]; omega, HI.out⟩
        · have ht0 : 0 ≤ t := by omega
          obtain ⟨k, rfl⟩ := Int.eq_ofNat_of_zero_le ht0
          have hk : k < l.length := by omega
          obtain ⟨p, hp⟩ : ∃ p, p = l[k] := ⟨_, rfl⟩
          have hbr := hide (branch_in lo g most l k hk wr HDG.out)
          rw [← hp] at hbr
          have hpl := HL.out p (by rw [hp]; exact List.getElem_mem hk)
          have hba : brAt l (k : Int) = some p := by unfold brAt; rw [if_neg (by omega), Int.toNat_natCast, List.getElem?_eq_getElem hk, hp]
          rw [hba] at hrun
          have HRUN := hide hrun
          have HPL := hide hpl
          clear hrun hba hpl
          clear hp
          obtain ⟨p0, p1, p2, p3⟩ := p
          go_wp2_with fail
          refine (hbr.out).mono ?_
          rintro e w2 ⟨rfl, hb2⟩
          have hw2 := hb2.size
          simp only [brV]
          have hb3 := below_on hb2 (below_new w2 (.cells #[.int .i64 p0, .int .i64 p1, .int .i64 p2, .int .i64 p3] 57))
          have HO3 := hide (HD2.out.kept (grown_of_below hb3 none) (by simp))
          have HH : Maps.has D (.int .i64 (k : Int)) = false := by rw [HDH.out (k : Int)]; exact decide_eq_false hs
          have hb4 := below_on hb3 (below_new _ (.cells #[] 92))
          have HB4 := hide hb4
          have HBB := hide (HB.out.trans (hb4.mono HB.out.size))
          clear hb2 hb3 hb4
          have HO5 := hide (HD2.out.kept (grown_of_below HB4.out none) (by simp))
          have HR5 := hide (own_below_keep HO.out HB4.out)
          have HTD : Hid (Tidy D) := hide (HD2.out.tidy keyedInt)
          have HNM : Hid (seen.length < maxLen) := hide (by unfold maxLen; omega)
          have HMB : Hid (w.heap.size < w2.heap.size) := hide (by have := HB4.out.size; have h2 := hw2; omega)
          have hcel5 : ∀ j v, [Value.int .i64 p1, .int .i64 p2, .int .i64 p3][j]? = some v → ((w2.alloc (.cells #[.int .i64 p0, .int .i64 p1, .int .i64 p2, .int .i64 p3] 57)).alloc (.cells #[] 92)).cell? ⟨w2.heap.size, 1 + j, none⟩ = some v := by
            intro j v hj
            have hb := below_new (w2.alloc (.cells #[.int .i64 p0, .int .i64 p1, .int .i64 p2, .int .i64 p3] 57)) (.cells #[] 92)
            rw [hb.cell (by simp)]
            match j, hj with
            | 0, hj => simp at hj; subst hj; exact new_cell w2 _ _ _ 1 _ rfl
            | 1, hj => simp at hj; subst hj; exact new_cell w2 _ _ _ 2 _ rfl
            | 2, hj => simp at hj; subst hj; exact new_cell w2 _ _ _ 3 _ rfl
          have HCEL := hide hcel5
          have HLT : Hid (w2.heap.size < ((w2.alloc (.cells #[.int .i64 p0, .int .i64 p1, .int .i64 p2, .int .i64 p3] 57)).alloc (.cells #[] 92)).heap.size) := hide (by simp; omega)
          have HSZ5 : Hid (w.heap.size + 1 ≤ ((w2.alloc (.cells #[.int .i64 p0, .int .i64 p1, .int .i64 p2, .int .i64 p3] 57)).alloc (.cells #[] 92)).heap.size) := hide (by have := HMB.out; simp; omega)
          have HNB : Hid (Value.ownBlock (.slice (some ⟨b, off, none⟩) m c) ≠ some w.heap.size) := hide (by have := HBASE.out; intro h; injection h with h; have h : b = w.heap.size := h; omega)
          have HONE : Hid (∀ u ∈ [Value.int .i64 p1, .int .i64 p2, .int .i64 p3], u.oneCell' = true) := hide (by intro u hu; simp at hu; rcases hu with rfl | rfl | rfl <;> rfl)
          have HQ1 : Hid (m + 3 ≤ maxLen) := hide (by unfold maxLen; omega)
          have HQ2 : Hid ((m + 3) * 8 ≤ 140737488355328) := hide (by omega)
          clear hcel5 hw2
          go_wp2_with (first
            | (at_lookup; refine wpList_lookup_own_unit _ rfl _ _ 91 rfl 3 92 keyedInt Try.underlying91 (zeroUnit _) w.heap.size seen.length D rfl HO3.out _ (.int .i64 (k : Int)) rfl hkey ?_)
            | (at_mapUpdate; refine wpList_mapUpdate_own _ rfl _ _ _ 91 rfl 3 92 keyedInt Try.underlying91 (unitElem (H := Unit)) w.heap.size seen.length D rfl HO5.out HNM.out _ _ _ rfl rfl hkey _ [] unitElem_mk ?_; intro w6 hown6 hgrow6; have HR6 := hide (World.ownsRow.kept HR5.out hgrow6 (Or.inr HNB.out)); have HS6 := hide (new_three HLT.out HCEL.out hgrow6 HMB.out); have HQ3 : Hid (w.heap.size + 1 ≤ w6.heap.size) := hide (Nat.le_trans HSZ5.out hgrow6.size))
            | (at_builtin; refine wpList_app _ rfl (.tmp 49) (.tmp 51) 60 rfl (w.heap.size + 1) 3 i0 (.int .i64 0) 1 8 Try.underlying60 Hi.out Hz0.out Hz1.out Hz2.out rfl (by decide) (.slice (some ⟨b, off, none⟩) m c) m (vints .i64 r.reverse) rfl HR6.out w6.heap.size (some ⟨w2.heap.size, 1, none⟩) 3 3 [.int .i64 p1, .int .i64 p2, .int .i64 p3] rfl rfl HS6.out HONE.out HQ1.out HQ2.out HQ3.out ?_; intro v7 w7 hown7 hg7 hat7))
          have hset : SetAt w6 w.heap.size (seen ++ [(k : Int)]) := set_put HDS.out HDH.out HTD.out hs hown6
          have hset7 := set_kept hset hg7 (by intro h; exact HNB.out h.symm)
          have hb6 : Below w.heap.size w w6 := HBB.out.grown hgrow6 HBB.out.size (fun j hj => by injection hj with hj; omega)
          have hb7 : Below w.heap.size w w7 := (own_below HR6.out (Below.refl _ _) hg7 (Nat.le_refl _) HQ3.out).mono (Nat.le_succ _) |> hb6.trans
          have hrow : w7.ownsRow (w.heap.size + 1) 3 1 v7 (p3 :: p2 :: p1 :: r).length (vints .i64 (p3 :: p2 :: p1 :: r).reverse) := by
            have e1 : (p3 :: p2 :: p1 :: r).length = m + 3 := by simp [hm]
            have e2 : vints .i64 (p3 :: p2 :: p1 :: r).reverse = vints .i64 r.reverse ++ [.int .i64 p1, .int .i64 p2, .int .i64 p3] := by simp [vints]
            rw [e1, e2]; exact hown7
          have REL : Hid (SizeRel w l F n f v7 w7) := hide ⟨p3 :: p2 :: p1 :: r, seen ++ [(k : Int)], HRUN.out, hset7, hrow, hb7, Nat.le_trans HQ3.out hg7.size, by simp; omega, by simp [hm]; omega, by
            obtain ⟨i1, i2, i3⟩ := HPL.out
            intro u hu
            simp only [List.mem_cons] at hu
            rcases hu with rfl | rfl | rfl | hu
            · exact i3
            · exact i2
            · exact i1
            · exact HI.out u hu⟩
          clear hset hset7 hb6 hb7 hrow hown6 hgrow6 hown7 hg7 hat7
          go_wp2
          go_roundg f
          case measure => omega
          case rel => exact REL.out
end Go.Proofs.Ytinlnfhicnejmaa
