/-
  CONTRACT OF the document's Put: the bytes of the attributes in order.
-/
import Derived.Test.YtjaofdalmjiliaaAkSelP
import Derived.Test.YtjaofdalmjiliaaAkRefNum
import Derived.Test.YtjaofdalmjiliaaSortP
import Derived.Laws.OwnMore
import Derived.Deep.Cut
import Derived.Deep.CutRange
import Derived.Deep.CutBlock
namespace Go.Proofs.Ytjaofdalmjiliaa
open Go.RowKit
set_option linter.unusedVariables false

theorem infoBool : (Try.prog.info? 4).map (fun i => (i.zero, i.size, i.bytes)) = some (some (.bool false), 1, 1) := by kernel_rfl
theorem own_keepTy {w w' : World} {B : Nat} {e : TypeId} {size n : Nat} {v : Value} {xs : List Value} (h : w.ownsRow B e size v n xs) (he : e ≠ 5) (hk : KeepTy w w') : w'.ownsRow B e size v n xs := by
  refine ⟨h.1, ?_⟩
  rcases h.2 with ⟨h1, h2⟩ | ⟨g, cap, cur, h1, h2, h3, h4⟩
  · exact .inl ⟨h1, h2⟩
  · exact .inr ⟨g, cap, cur, h1, h2, hk.2 g cur e _ he h3, h4⟩
/-- Where the outer loop stands. -/
structure PutRel (l : List Gm) (P0 : List UInt8) (w : World) (gd : Nat) (m : Nat) (idx R : List Nat) (bs : List UInt8) (b : Value) (wr : World) : Prop where
  len : idx.length = m
  sel : Sel l idx R
  byt : bs = P0 ++ (idx.map (fun i => gvP (atG l i).gv)).flatten
  bnd : bs.length ≤ 10 + 1400 * m
  own : wr.ownsRow w.heap.size 5 1 b bs.length (vbytes bs)
  flg : wr.ownsRow w.heap.size 4 1 (.slice (some ⟨gd, 0, none⟩) l.length l.length) l.length (flags R l.length)
  bel : Below w.heap.size w wr
theorem PutRel.keep {l : List Gm} {P0 : List UInt8} {w : World} {gd m : Nat} {idx R : List Nat} {bs : List UInt8} {b : Value} {wr w' : World} (h : PutRel l P0 w gd m idx R bs b wr) (hb : Below wr.heap.size wr w') : PutRel l P0 w gd m idx R bs b w' :=
  ⟨h.len, h.sel, h.byt, h.bnd, own_keep h.own hb, own_keep h.flg hb, below_on h.bel hb⟩
set_option maxHeartbeats 8000000 in
set_option maxRecDepth 20000 in
theorem refput_any (a : Option Addr) (c n : Nat) (l : List Gm) (hn : l.length = n) (w : World) (hri : rightG (gvs l) = 0) (hr : Req w w.heap.size a l) :
    Calls Try.prog 18 #[.slice a n c] w (fun e w' => ∃ t, Up t ∧ t.Perm l ∧ OwnPost w.heap.size w (askP (gvs t)) e w') := by
  subst hn
  have hl64 : l.length ≤ 64 := by have := ((right_ok _).1 hri).1; rwa [gvs_len] at this
  have HFIT := hide (fits_of hri (gvs_ok hr (l' := l) rfl))
  have HR := hide hr
  have HN := hide (refnumK_any (.slice none 0 0) 0 (l.length : Int) [] rfl w w.heap.size (by omega) (by omega) (by decide) (Nat.le_refl _) (World.ownsRow_nil _ _ _ _))
  obtain ⟨i0, hi, hz0, hz1, hz2⟩ := info_parts infoBool
  have hmk := fun (w1 : World) (hB : w.heap.size ≤ w1.heap.size) => run_make_full (P := Try.prog) w1 w.heap.size 68 4 i0 (.bool false) 1 Try.underlying68 hi hz0 hz1 .i64 .i64 l.length (by rw [hz2]; omega) (by unfold maxLen; omega) hB
  have HMK := hide hmk
  clear hr hri hi hz0 hz1 hz2 hmk
  have h10 := numP_10 (l.length : Int) (by omega) (by omega)
  rw [List.nil_append] at HN
  have HASK : Hid (∀ idx : List Nat, idx.length = l.length → askP (gvs (idx.map (atG l))) = numP (l.length : Int) ++ (idx.map (fun i => gvP (atG l i).gv)).flatten) := hide (fun idx h => by rw [sel_askP, h])
  generalize numP (l.length : Int) = P0 at *
  go_enter Try.func18, Try.ntmps18
  go_wp2_with fail
  refine HN.out.mono ?_
  rintro e w1 ⟨v1, rfl, hown1, hb1, _⟩
  obtain ⟨w2, hrun, hflg, hgr⟩ := HMK.out w1 hb1.size
  rw [show (Value.bool false).cells = #[.bool false] from rfl, Nat.mul_one, toList_madeCells_one, flags_start] at hflg
  have hb12 : Below w1.heap.size w1 w2 := ⟨hgr.os, hgr.tape, hgr.output, hgr.size, fun k hk => hgr.block k hk (by simp)⟩
  have HST : Hid (PutRel l P0 w w1.heap.size 0 [] (List.range l.length) P0 v1 w2) := hide ⟨rfl, Sel.start l, by simp, by omega, own_keep hown1 hb12, hflg, below_on hb1 hb12⟩
  have hgd : w.heap.size ≤ w1.heap.size := hb1.size
  clear HN hown1 hb1 hflg hgr hb12 HMK h10
  go_wp2
  clear hrun
  generalize w1.heap.size = gd at *
  go_loopw [3, 18] (fun b i wr => ∃ (m : Nat) (bs : List UInt8) (vb : Value), vb = b ∧ m ≤ l.length ∧ i = .int .i64 m ∧ Hid (∃ idx R, PutRel l P0 w gd m idx R bs vb wr)) (fun _ i _ => l.length - (intOf i).toNat)
  case atStart => exact ⟨0, P0, _, rfl, by omega, rfl, hide ⟨_, _, HST.out⟩⟩
  case round =>
    clear HST
    obtain ⟨m, bs, vb, rfl, hm, rfl, hrel⟩ := hrel
    obtain ⟨idx, R, hrel⟩ := hrel.out
    have HP := hide hrel
    clear hrel
    by_cases hlt : m < l.length
    · go_wp2
      go_loopw [5, 22] (fun kk i wx => ∃ (j : Nat) (k : Int), j ≤ l.length ∧ i = .int .i64 j ∧ kk = .int .i64 k ∧ Hid (Best l R j k) ∧ Hid (PutRel l P0 w gd m idx R bs vb wx)) (fun _ i _ => l.length - (intOf i).toNat)
      case atStart => exact ⟨0, -1, by omega, rfl, rfl, hide (Best.start l R), HP⟩
      case round =>
        obtain ⟨j, k, hj, rfl, rfl, HBE, HPX⟩ := hrel
        clear HP
        by_cases hjl : j < l.length
        · obtain ⟨b, off, rfl, hb, x0, x1, x2⟩ := (HR.out.below HPX.out.bel).at hjl
          have hEQ : Hid (atG l j = l[j]) := hide (atG_eq hjl)
          generalize l[j] = x at *
          obtain ⟨xc, xn, xa, xcap, bag⟩ := x
          simp only at x0 x1 x2
          go_wp2
          have hnew := below_new wr (.cells #[.int .i64 xc, .string xn, .slice xa bag.length xcap] 40)
          obtain ⟨z0, z1, z2⟩ := three_laid wr (.int .i64 xc) (.string xn) (.slice xa bag.length xcap) 40
          have HPY := hide (HPX.out.keep hnew)
          clear x0 x1 x2 hnew hb z2
          generalize wr.alloc (.cells #[.int .i64 xc, .string xn, .slice xa bag.length xcap] 40) = wy at *
          have hd0 := (HPY.out.flg.cellAt j (by omega)).trans (flags_at R hjl)
          have h0j : (0 : Int) ≤ (j : Int) := by omega
          have h1j : (j : Int) < (l.length : Int) := by omega
          by_cases hjR : j ∈ R
          case neg =>
            rw [decide_eq_true hjR] at hd0
            have HN := hide (HBE.out.skip hjR)
            clear hjR HBE
            go_quiet (fail)
            go_wp2
            go_roundw
            case rel => exact ⟨j + 1, k, by omega, by go_num, rfl, HN, hide (HPY.out.keep (below_drawn (Below.refl _ _) ⟨_, rfl⟩))⟩
            case measure => simp [intOf]; omega
          rw [decide_eq_false (fun h => h hjR)] at hd0
          rcases HBE.out with ⟨rfl, hlow⟩ | ⟨q, rfl, hqR, hqj, hqm⟩
          · have HN := hide (Best.first (l := l) hlow hjR)
            clear hjR HBE hlow
            go_quiet (fail)
            go_wp2
            go_roundw
            case rel => exact ⟨j + 1, (j : Int), by omega, by go_num, rfl, HN, hide (HPY.out.keep (below_drawn (Below.refl _ _) ⟨_, rfl⟩))⟩
            case measure => simp [intOf]; omega
          · have hql : q < l.length := by omega
            obtain ⟨b', off', e', hb', q0, q1, q2⟩ := (HR.out.below HPY.out.bel).at hql
            injection e' with e'
            injection e' with e1 e2
            subst e1 e2
            have hQQ := atG_eq hql
            have HLESS := hide (Best.less hqm hjR)
            have HSTAY := hide (Best.stay hqR hqj hqm)
            rw [hQQ, hEQ.out] at HLESS
            rw [hQQ, hEQ.out] at HSTAY
            have h0q : (0 : Int) ≤ (q : Int) := by omega
            have h1q : (q : Int) < (l.length : Int) := by omega
            have h2q : decide ((q : Int) < 0) = false := decide_eq_false (by omega)
            unfold Lt at HLESS HSTAY
            clear hjR HBE hqR hqj hqm hb' q2 hQQ
            generalize l[q].cat = qc at *
            generalize l[q].name = qn at *
            simp only at HLESS HSTAY
            have hls := less_eq xn.toList qn.toList
            by_cases c1 : xc < qc
            · have d1 : decide (xc < qc) = true := decide_eq_true c1
              have HN := hide (HLESS.out (.inl c1))
              clear c1 HLESS HSTAY hls
              go_quiet (fail)
              go_wp2
              go_roundw
              case rel => exact ⟨j + 1, (j : Int), by omega, by go_num, rfl, HN, hide (HPY.out.keep (below_drawn (Below.refl _ _) ⟨_, rfl⟩))⟩
              case measure => simp [intOf]; omega
            · have d1 : decide (xc < qc) = false := decide_eq_false c1
              by_cases c2 : xc = qc
              · have d2 : (xc == qc) = true := beq_iff_eq.2 c2
                by_cases c3 : xn.toList < qn.toList
                · rw [decide_eq_true c3] at hls
                  have HN := hide (HLESS.out (.inr ⟨c2, c3⟩))
                  clear c1 c2 c3 HLESS HSTAY
                  go_quiet (fail)
                  go_wp2
                  go_roundw
                  case rel => exact ⟨j + 1, (j : Int), by omega, by go_num, rfl, HN, hide (HPY.out.keep (below_drawn (Below.refl _ _) ⟨_, rfl⟩))⟩
                  case measure => simp [intOf]; omega
                · rw [decide_eq_false c3] at hls
                  have HN := hide (HSTAY.out (fun h => h.elim c1 (fun h => c3 h.2)))
                  clear c1 c2 c3 HLESS HSTAY
                  go_quiet (fail)
                  go_wp2
                  go_roundw
                  case rel => exact ⟨j + 1, (q : Int), by omega, by go_num, rfl, HN, hide (HPY.out.keep (below_drawn (Below.refl _ _) ⟨_, rfl⟩))⟩
                  case measure => simp [intOf]; omega
              · have d2 : (xc == qc) = false := beq_eq_false_iff_ne.2 c2
                have HN := hide (HSTAY.out (fun h => h.elim c1 (fun h => c2 h.1)))
                clear c1 c2 HLESS HSTAY hls
                go_quiet (fail)
                go_wp2
                go_roundw
                case rel => exact ⟨j + 1, (q : Int), by omega, by go_num, rfl, HN, hide (HPY.out.keep (below_drawn (Below.refl _ _) ⟨_, rfl⟩))⟩
                case measure => simp [intOf]; omega
        · obtain rfl : j = l.length := by omega
          obtain ⟨q, rfl, hqR, hqm⟩ := HBE.out.last (fun j hj => HPX.out.sel.mem hj) (by have := HPX.out.sel.len; have := HPX.out.len; omega)
          have hql := HPX.out.sel.mem hqR
          have HSEL := hide (HPX.out.sel.take hqR hqm)
          have hst := HPX.out.flg.stored q (.bool true)
          rw [flags_set HPX.out.sel.nodup hql] at hst
          have HFL := hide hst.1
          have HOW := hide (World.ownsRow.kept HPX.out.own hst.2 (own_ne HPX.out.own HPX.out.flg (by decide)))
          have HBL := hide (HPX.out.bel.setCell (p := ⟨gd, q, none⟩) hgd (.bool true))
          have hfz := HPX.out.flg.frozenAt q
          have hcl := (HPX.out.flg.cellAt q (by omega)).trans (flags_at R hql)
          have h0q : (0 : Int) ≤ (q : Int) := by omega
          have h1q : (q : Int) < (l.length : Int) := by omega
          have hEQ := atG_eq hql
          have HBYT := hide (fun (B4 : List UInt8) (h : B4 = bs ++ gvP (atG l q).gv) => (by rw [h, sel_bytes, HPX.out.byt, List.append_assoc] : B4 = P0 ++ ((idx ++ [q]).map (fun i => gvP (atG l i).gv)).flatten))
          have HBND := hide HPX.out.bnd
          have HLEN : Hid ((idx ++ [q]).length = m + 1) := hide (by rw [List.length_append, HPX.out.len]; rfl)
          rw [hEQ] at HBYT
          have HX := hide (HR.out.2 l[q] (List.getElem_mem _))
          have HFX := hide (HFIT.out l[q].gv (List.mem_map_of_mem (List.getElem_mem _)))
          obtain ⟨b, off, rfl, hb, x0, x1, x2⟩ := HR.out.at hql
          have HLX : Hid (∀ w' : World, Below w.heap.size w w' → w'.cell? ⟨b, off + q * 3, none⟩ = some (.int .i64 l[q].cat) ∧ w'.cell? ⟨b, off + q * 3 + 1, none⟩ = some (.string l[q].name) ∧ w'.cell? ⟨b, off + q * 3 + 2, none⟩ = some (.slice l[q].at_ l[q].bag.length l[q].cap)) := hide (fun w' hb' => ⟨(hb'.cell (p := ⟨b, off + q * 3, none⟩) hb).trans x0, (hb'.cell (p := ⟨b, off + q * 3 + 1, none⟩) hb).trans x1, (hb'.cell (p := ⟨b, off + q * 3 + 2, none⟩) hb).trans x2⟩)
          clear hst x0 x1 x2 hb hEQ hqR hqm HBE
          generalize l[q] = x at *
          obtain ⟨xc, xn, xa, xcap, bag⟩ := x
          simp only at HLX
          obtain ⟨ws, hws⟩ : ∃ ws, ws = wr.setCell ⟨gd, q, none⟩ (.bool true) := ⟨_, rfl⟩
          rw [← hws] at HFL HOW HBL
          have HWS := hide hws
          obtain ⟨y0, y1, y2⟩ := HLX.out ws HBL.out
          rw [hws] at y0
          have h10 := numP_10 xc (by have := HFX.out.cat; simp only [Gm.gv] at this; omega) (by have := HFX.out.cat; simp only [Gm.gv] at this; omega)
          have hbl : bs.length ≤ 100000 := by have := HBND.out; omega
          have HN1 := hide (refnumK_any vb bs.length xc bs rfl ws w.heap.size (by have := HFX.out.cat; simp only [Gm.gv] at this; omega) (by have := HFX.out.cat; simp only [Gm.gv] at this; omega) (by omega) HBL.out.size HOW.out)
          have hB1 : (bs ++ numP xc).length ≤ bs.length + 10 := by rw [List.length_append]; omega
          have hnm : xn.size ≤ 16 := HFX.out.name
          have HXT := hide (by unfold gvP; simp only [Gm.gv, List.append_assoc] : bs ++ gvP (Gm.gv ⟨xc, xn, xa, xcap, bag⟩) = (((bs ++ numP xc) ++ textP xn.data.toList) ++ numP (bag.length : Int)) ++ bag.flatMap valP)
          generalize bs ++ numP xc = B1 at *
          have h11 := textP_short xn 16 hnm (by omega)
          have hB2 : (B1 ++ textP xn.data.toList).length ≤ bs.length + 36 := by rw [List.length_append]; omega
          have HTX := hide (fun v5 w5 h1 h2 => reftextK_any v5 B1.length xn B1 rfl w5 w.heap.size (by omega) (by omega) h1 h2)
          generalize B1 ++ textP xn.data.toList = B2 at *
          have h12 := numP_10 (bag.length : Int) (by omega) (by have := HFX.out.bag; simp only [Gm.gv] at this; omega)
          have hB3 : (B2 ++ numP (bag.length : Int)).length ≤ bs.length + 46 := by rw [List.length_append]; omega
          have hbag : bag.length ≤ 16 := HFX.out.bag
          have HNX := hide (fun v6 w6 h1 h2 => refnumK_any v6 B2.length (bag.length : Int) B2 rfl w6 w.heap.size (by omega) (by omega) (by omega) h1 h2)
          generalize B2 ++ numP (bag.length : Int) = B3 at *
          clear h10 h11 h12 y1 y2
          go_wp2_with fail
          rw [← HWS.out]
          refine HN1.out.mono ?_
          rintro e w5 ⟨v5, rfl, hown5, hb5, hk5⟩
          have HB5 := hide (HBL.out.trans hb5)
          have HF5 := hide (own_keepTy HFL.out (by decide) hk5)
          have HT := hide (HTX.out v5 w5 HB5.out.size hown5)
          obtain ⟨y0, y1, y2⟩ := HLX.out w5 HB5.out
          clear hown5 hb5 hk5 HN1 HTX HFL HOW HBL hfz hcl HWS HPX y0 y2 hws
          go_wp2_with fail
          refine HT.out.mono ?_
          rintro e w6 ⟨v6, rfl, hown6, hb6, hk6⟩
          have HB6 := hide (HB5.out.trans hb6)
          have HF6 := hide (own_keepTy HF5.out (by decide) hk6)
          have HN6 := hide (HNX.out v6 w6 HB6.out.size hown6)
          obtain ⟨y0, y1, y2⟩ := HLX.out w6 HB6.out
          clear hown6 hb6 hk6 HT HNX HF5 HB5 y0 y1
          go_wp2_with fail
          refine HN6.out.mono ?_
          rintro e w7 ⟨v7, rfl, hown7, hb7, hk7⟩
          have HB7 := hide (HB6.out.trans hb7)
          have HF7 := hide (own_keepTy HF6.out (by decide) hk7)
          have HO7 := hide hown7
          obtain ⟨y0, y1, y2⟩ := HLX.out w7 HB7.out
          clear hown7 hb7 hk7 HN6 HF6 HB6 y0 y1
          go_wp2
          clear y2 HLX
          go_loopw [3, 99] (fun b i wr => ∃ (j : Nat) (bs' : List UInt8) (vb : Value), vb = b ∧ j ≤ bag.length ∧ i = .int .i64 j ∧ Hid (bs' = B3 ++ (bag.take j).flatMap valP) ∧ Hid (bs'.length ≤ B3.length + 84 * j) ∧ Hid (wr.ownsRow w.heap.size 5 1 vb bs'.length (vbytes bs')) ∧ Hid (wr.ownsRow w.heap.size 4 1 (.slice (some ⟨gd, 0, none⟩) l.length l.length) l.length (flags (R.erase q) l.length)) ∧ Hid (Below w.heap.size w wr)) (fun _ i _ => bag.length - (intOf i).toNat)
          case atStart => exact ⟨0, B3, _, rfl, by omega, rfl, hide (by simp), hide (by omega), HO7, HF7, HB7⟩
          case round =>
            clear HO7 HF7 HB7
            obtain ⟨j, bs', vb, rfl, hj, rfl, HBS', HBL', HO, HF, HB⟩ := hrel
            by_cases hlt2 : j < bag.length
            · obtain ⟨b', off', rfl, hb', y0, y1, y2⟩ := (HX.out.2.2.2.2.1.below HB.out).val hlt2
              have hsv := HFX.out.vals bag[j] (List.getElem_mem _)
              have hst2 := flat_step valP bag j hlt2
              have h84 := valP_short hsv
              have HSV := hide hsv.v
              generalize bag[j] = v at *
              obtain ⟨v0, v1, v2⟩ := v
              simp only at y0 y1 y2
              have hnew := below_new wr (.cells #[.int .i64 v0, .int .i64 v1, .string v2] 35)
              have HVP := refputvK_any vb bs'.length (v0, v1, v2) HSV.out bs' rfl (wr.alloc (.cells #[.int .i64 v0, .int .i64 v1, .string v2] 35)) w.heap.size (by have := HBL'.out; omega) (Nat.le_trans HB.out.size hnew.size) (own_keep HO.out hnew)
              simp only at HVP
              have HE2 : Hid (bs' ++ valP (v0, v1, v2) = B3 ++ (bag.take (j + 1)).flatMap valP) := hide (by rw [hst2, HBS'.out, List.append_assoc])
              have HL2 : Hid ((bs' ++ valP (v0, v1, v2)).length ≤ B3.length + 84 * (j + 1)) := hide (by rw [List.length_append]; have := HBL'.out; omega)
              have HVP := hide HVP
              have HNW := hide (below_on HB.out hnew)
              have HFW := hide (own_keep HF.out hnew)
              generalize bs' ++ valP (v0, v1, v2) = B4 at *
              clear hsv hst2 h84 hnew
              go_wp2_with fail
              refine HVP.out.mono ?_
              rintro e w8 ⟨v8, rfl, hown8, hb8, hk8⟩
              have HB9 := hide (HNW.out.trans hb8)
              have HF9 := hide (own_keepTy HFW.out (by decide) hk8)
              have HO9 := hide hown8
              clear HVP hown8 hb8 hk8 y0 y1 y2 HNW HFW HB HO HF HBS' HBL'
              go_wp2
              go_roundw
              case rel => exact ⟨j + 1, B4, _, rfl, by omega, by go_num, HE2, HL2, HO9, HF9, HB9⟩
              case measure => simp [intOf]; omega
            · obtain rfl : j = bag.length := by omega
              have HFB := hide (HBYT.out bs' (by rw [HXT.out, HBS'.out, List.take_length]))
              have HFLN : Hid (bs'.length ≤ 10 + 1400 * (m + 1)) := hide (by have := HBL'.out; have := HBND.out; omega)
              clear HBS' HBL' HBYT HBND HXT
              go_wp2
              go_roundw
              case rel => exact ⟨m + 1, bs', _, rfl, by omega, by go_num, hide ⟨_, _, HLEN.out, HSEL.out, HFB.out, HFLN.out, HO.out, HF.out, HB.out⟩⟩
              case measure => simp [intOf]; omega
    · obtain rfl : m = l.length := by omega
      have hdn := HP.out.sel.done HP.out.len
      have HF : Hid (bs = askP (gvs (idx.map (atG l)))) := hide (by rw [HASK.out idx HP.out.len]; exact HP.out.byt)
      have HDN := hide hdn
      clear hdn
      go_wp2
      go_ret
      exact ⟨idx.map (atG l), HDN.out.1, HDN.out.2, _, rfl, by rw [← HF.out]; exact HP.out.own, HP.out.bel⟩
end Go.Proofs.Ytjaofdalmjiliaa
