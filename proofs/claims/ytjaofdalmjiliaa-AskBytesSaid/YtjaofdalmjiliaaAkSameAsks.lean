/-
  CONTRACT OF bailiffkeep.SameAsks: it tells whether two requests are the same.
-/
import Derived.Test.YtjaofdalmjiliaaAkCopied
namespace Go.Proofs.Ytjaofdalmjiliaa
open Go.RowKit
set_option linter.unusedVariables false

def eqG (l m : List Gv) : Bool := decide (l = m)
theorem eqG_refl (l : List Gv) : eqG l l = true := decide_eq_true rfl
theorem eqG_no (l m : List Gv) (h : ¬ l.length = m.length) : eqG l m = false := decide_eq_false (fun e => h (by rw [e]))
theorem eqG_no_at (l m : List Gm) (k : Nat) (hl : k < l.length) (hm : k < m.length) (h : ¬ l[k].gv = m[k].gv) : eqG (gvs l) (gvs m) = false := decide_eq_false (fun e => h (by
  rw [← gvs_at l k hl, ← gvs_at m k hm]
  simp only [e]))
theorem eqG_yes (l m : List Gv) (h : l.length = m.length) (hk : l.take l.length = m.take l.length) : eqG l m = true := decide_eq_true (by rw [← List.take_length (l := l), hk, h, List.take_length])
theorem gv_ext {x y : Gm} (h1 : x.cat = y.cat) (h2 : x.name = y.name) (h3 : x.bag = y.bag) : x.gv = y.gv := by unfold Gm.gv; rw [h1, h2, h3]
/-- What a round of SameAsks comes to. -/
structure SameRound (l m : List Gm) (k : Nat) (x y : Gm) : Prop where
  cat : ¬ x.cat = y.cat → eqG (gvs l) (gvs m) = false
  name : ¬ x.name = y.name → eqG (gvs l) (gvs m) = false
  bag : eqL x.bag y.bag = false → eqG (gvs l) (gvs m) = false
  go : x.cat = y.cat → x.name = y.name → eqL x.bag y.bag = true → (gvs l).take (k + 1) = (gvs m).take (k + 1)
theorem sameRound {l m : List Gm} {k : Nat} (hl : k < l.length) (hm : k < m.length) (h : (gvs l).take k = (gvs m).take k) : SameRound l m k l[k] m[k] where
  cat h1 := eqG_no_at l m k hl hm (fun e => h1 (by injection e))
  name h1 := eqG_no_at l m k hl hm (fun e => h1 (by injection e with _ e; injection e))
  bag h1 := eqG_no_at l m k hl hm (fun e => by
    have e3 : l[k].bag = m[k].bag := by injection e with _ e; injection e
    unfold eqL at h1
    rw [decide_eq_true e3] at h1
    exact absurd h1 (by decide))
  go h1 h2 h3 := by rw [gvs_take_step hl, gvs_take_step hm, h, gv_ext h1 h2 (of_decide_eq_true h3)]
theorem str_dec_ne (a b : ByteArray) : (a.toList != b.toList) = !decide (a = b) := by
  show (!(a.toList == b.toList)) = _
  rw [str_dec]
theorem Req.drawn {w w' : World} {B : Nat} {a : Option Addr} {l : List Gm} (h : Req w B a l) (hd : Drawn w w') : Req w' B a l := by
  obtain ⟨n, rfl⟩ := hd
  exact ⟨h.1.drawn ⟨n, rfl⟩, fun x hx => ⟨(h.2 x hx).1, (h.2 x hx).2.1, (h.2 x hx).2.2.1, (h.2 x hx).2.2.2.1, (h.2 x hx).2.2.2.2.1.drawn ⟨n, rfl⟩, (h.2 x hx).2.2.2.2.2⟩⟩
set_option maxHeartbeats 1000000 in
theorem sameAsks_any (a b : Option Addr) (c d i j : Nat) (l m : List Gm) (hi : l.length = i) (hj : m.length = j) (w : World) (B : Nat) (hl : l.length ≤ maxLen) (hm : m.length ≤ maxLen) (hs : Req w B a l) (ht : Req w B b m) :
    Calls Try.prog 19 #[.slice a i c, .slice b j d] w (Quiet (.bool (eqG (gvs l) (gvs m))) w) := by
  subst hi hj
  unfold maxLen at hl hm
  by_cases hlen : l.length = m.length
  · have hb1 : ((l.length : Int) != (m.length : Int)) = false := by rw [hlen]; simp
    have hle : l.length ≤ m.length := by omega
    have HL := hide hlen
    have HS := hide hs
    have HT := hide ht
    clear hlen hs ht
    go_enter Try.func19, Try.ntmps19
    go_wp2
    go_loopw [13] (fun i wr => ∃ k : Nat, k ≤ l.length ∧ i = .int .i64 k ∧ Hid ((gvs l).take k = (gvs m).take k) ∧ Hid (Drawn w wr)) (fun i _ => l.length - (intOf i).toNat)
    case atStart => exact ⟨0, by omega, rfl, hide rfl, hide (Drawn.refl _)⟩
    case round =>
      obtain ⟨k, hk, rfl, HK, HD⟩ := hrel
      have HS1 := hide (HS.out.drawn HD.out)
      have HT1 := hide (HT.out.drawn HD.out)
      by_cases hlt : k < l.length
      · have hlt2 : k < m.length := by omega
        obtain ⟨x, ox, rfl, _, x0, x1, x2⟩ := HS1.out.at hlt
        obtain ⟨y, oy, rfl, _, y0, y1, y2⟩ := HT1.out.at hlt2
        have HX := hide (HS1.out.2 l[k] (List.getElem_mem _))
        have HY := hide (HT1.out.2 m[k] (List.getElem_mem _))
        have HRD := hide (sameRound hlt hlt2 HK.out)
        clear HK
        generalize l[k] = p at *
        generalize m[k] = q at *
        obtain ⟨p0, p1, pa, pc, pb⟩ := p
        obtain ⟨q0, q1, qa, qc, qb⟩ := q
        simp only at x0 x1 x2 y0 y1 y2
        have hs1 := str_dec p1 q1
        have hs2 := str_dec_ne p1 q1
        by_cases h1 : p0 = q0
        · have hc1 : (p0 != q0) = false := by rw [h1]; simp
          by_cases h2 : p1 = q1
          · have HSM : Hid (∀ n, Calls Try.prog 15 #[.slice pa pb.length pc, .slice qa qb.length qc] (wr.drewN n) (Quiet (.bool (eqL pb qb)) (wr.drewN n))) := hide (fun n => sameV_any pa qa pc qc pb.length qb.length pb qb rfl rfl (wr.drewN n) B (by have h1 := HX.out.2.2.1; have h2 := HX.out.2.2.2.1; exact Nat.le_trans h1 h2) (by have h1 := HY.out.2.2.1; have h2 := HY.out.2.2.2.1; exact Nat.le_trans h1 h2) (HX.out.2.2.2.2.1.drawn ⟨n, rfl⟩) (HY.out.2.2.2.2.1.drawn ⟨n, rfl⟩))
            rw [decide_eq_true h2] at hs1 hs2
            have HB3 := hide HRD.out.bag
            have HB4 := hide (HRD.out.go h1 h2)
            clear h2 HRD h1
            simp only at HB3 HB4
            generalize eqL pb qb = r at *
            cases r
            · have HF := hide (HB3.out rfl)
              clear HB3 HB4
              go_wp2
              go_quiet ((go_at_call 15; exact Calls.quiet_of (HSM.out _)))
              go_wp2
              go_ret
              exact ⟨by rw [HF.out]; rfl, HD.out.drewN _⟩
            · have HF := hide (HB4.out rfl)
              clear HB3 HB4
              go_wp2
              go_quiet ((go_at_call 15; exact Calls.quiet_of (HSM.out _)))
              go_wp2
              go_roundw
              case rel => exact ⟨k + 1, by omega, by go_num, HF, hide (HD.out.drewN _)⟩
              case measure => simp [intOf]; omega
          · have HF := hide (HRD.out.name h2)
            rw [decide_eq_false h2] at hs1 hs2
            clear h2 HRD h1
            go_wp2
            go_quiet (fail)
            go_wp2
            go_ret
            exact ⟨by rw [HF.out]; rfl, HD.out.drewN _⟩
        · have hc1 : (p0 != q0) = true := bne_iff_ne.2 h1
          have HF := hide (HRD.out.cat h1)
          clear h1 HRD
          go_wp2
          go_quiet (fail)
          go_wp2
          go_ret
          exact ⟨by rw [HF.out]; rfl, HD.out.drewN _⟩
      · obtain rfl : k = l.length := by omega
        have hfin := hide (eqG_yes (gvs l) (gvs m) (by rw [gvs_len, gvs_len]; exact HL.out) (by rw [gvs_len]; exact HK.out))
        go_wp2
        go_ret
        exact ⟨by rw [hfin.out]; rfl, HD.out⟩
  · have hb1 : ((l.length : Int) != (m.length : Int)) = true := by rw [bne_iff_ne]; omega
    have hfin := hide (eqG_no (gvs l) (gvs m) (by rw [gvs_len, gvs_len]; exact hlen))
    clear hlen
    go_enter Try.func19, Try.ntmps19
    go_wp2
    go_ret
    exact ⟨by rw [hfin.out]; rfl, 0, rfl⟩
end Go.Proofs.Ytjaofdalmjiliaa
