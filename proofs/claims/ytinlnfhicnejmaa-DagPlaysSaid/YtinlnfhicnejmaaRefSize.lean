/-
  CONTRACT OF the document's own Size of chapter 16.
-/
import Derived.Test.YtinlnfhicnejmaaRefSizeP
import Derived.Test.YtinlnfhicnejmaaRefWalk
import Derived.OwnWalk
namespace Go.Proofs.Ytinlnfhicnejmaa
open Go.RowKit
set_option linter.unusedVariables false

def vbools (l : List Bool) : List Value := l.map Value.bool
theorem vbools_set (l : List Bool) (j : Nat) (b : Bool) : (vbools l).set j (.bool b) = vbools (l.set j b) := by simp [vbools, List.map_set]
theorem vbools_at {l : List Bool} {j : Nat} {b : Bool} (h : l[j]? = some b) : (vbools l)[j]? = some (.bool b) := by simp [vbools, h]
theorem infoBool : (Try.prog.info? 4).map (fun i => (i.zero, i.size, i.bytes)) = some (some (.bool false), 1, 1) := by kernel_rfl
/-- The marks' row: block nb, of the call's own. -/
def Seen (w : World) (nb n : Nat) (s : List Bool) (wr : World) : Prop := wr.ownsRow w.heap.size 4 1 (.slice (some ⟨nb, 0, none⟩) n n) n (vbools s) ∧ Below w.heap.size w wr ∧ w.heap.size ≤ nb
theorem Seen.cell {w wr : World} {nb n : Nat} {s : List Bool} (h : Seen w nb n s wr) {j : Nat} {b : Bool} (hj : s[j]? = some b) : wr.cell? ⟨nb, j, none⟩ = some (.bool b) ∧ wr.frozen? ⟨nb, j, none⟩ = false := by
  have hl : j < n * 1 := by
    have h1 := h.1.1
    have h2 := (List.getElem?_eq_some_iff.1 hj).1
    simp [vbools] at h1
    omega
  exact ⟨(h.1.cellAt j hl).trans (vbools_at hj), h.1.frozenAt j⟩
theorem Seen.set {w wr : World} {nb n : Nat} {s : List Bool} (h : Seen w nb n s wr) (j : Nat) : Seen w nb n (s.set j true) (wr.setCell ⟨nb, j, none⟩ (.bool true)) := by
  refine ⟨?_, h.2.1.setCell h.2.2 _, h.2.2⟩
  rw [← vbools_set]
  exact (h.1.stored j (.bool true)).1
/-- The marks behind so many ways. -/
def markQ (b : Br) (s : List Bool) : Nat → List Bool
  | 0 => s
  | 1 => mark b.2.1 s
  | 2 => mark b.2.2.1 (mark b.2.1 s)
  | _ => mark3 b s
/-- Down to i. -/
def RSRel (w : World) (l : List Br) (root : Int) (S : List Int) (nb : Nat) (n i : Value) (wr : World) : Prop := ∃ (m : Nat) (k : Int) (s : List Bool), n = .int .i64 m ∧ i = .int .i64 k ∧ -1 ≤ k ∧ k < l.length ∧ RSz l root S k m s ∧ Seen w nb l.length s wr
set_option maxHeartbeats 2000000 in
theorem rsize_any (lo g most : Nat) (l : List Br) (v : Value) (root : Int) (w : World) (hg : Good l) (h : DagV 66 w lo g most l v) :
    Calls Try.prog 40 #[.pointer (some ⟨g, 0, none⟩), .int .i64 root] w fun e w' => e = .returned (.int .i64 (sizeP l root : Nat)) ∧ Below w.heap.size w w' := by
  obtain ⟨A1, c1, hv, _⟩ := own_slice h.2.1
  subst hv
  obtain ⟨_, k1, hsl, hc, hlm, hm20⟩ := dagV_open h
  have hg0 := dagV_lt h
  have HSL := hide hsl
  have HG := hide hg
  clear h hsl hg
  by_cases hroot : root < 0 ∨ (l.length : Int) ≤ root
  · rw [size_none hroot]
    rcases hroot with hr | hr
    · go_enter Try.func40, Try.ntmps40
      go_wp2
      go_ret
      exact ⟨rfl, Below.refl _ _⟩
    · have hr' : ¬ root < 0 := by omega
      go_enter Try.func40, Try.ntmps40
      go_wp2
      go_ret
      exact ⟨rfl, Below.refl _ _⟩
  · obtain ⟨r, rfl⟩ := Int.eq_ofNat_of_zero_le (by omega : 0 ≤ root)
    have hr : r < l.length := by omega
    have hr1 : ¬ (l.length : Int) ≤ (r : Int) := by omega
    obtain ⟨_, S, hSl, hSn, hS⟩ := size_spec l (r : Int)
    have hSl2 := size_len l (r : Int)
    rw [← hSl]
    rw [← hSl] at hSl2
    have HSN := hide hSn
    have HSM := hide hS
    have HST := hide (RSz.start HG.out hr hS)
    obtain ⟨i0, hi0, hz0, hz1, hz2⟩ := info_parts infoBool
    have Hi := hide hi0
    have Hz0 := hide hz0
    have Hz1 := hide hz1
    have HQ1 : Hid (i0.bytes * l.length ≤ 281474976710656) := hide (by rw [hz2]; omega)
    have HQ2 : Hid (l.length ≤ maxLen) := hide (by unfold maxLen; omega)
    clear hroot hSl hSn hS hi0 hz0 hz1 hz2
    generalize hnb : w.heap.size = nb
    go_enter Try.func40, Try.ntmps40
    go_wp2_with (at_make; refine wpList_make_full _ rfl (.tmp 25) (.tmp 25) 94 rfl w.heap.size 4 i0 (.bool false) 1 Try.underlying94 Hi.out Hz0.out Hz1.out .i64 .i64 _ _ l.length rfl rfl rfl rfl HQ1.out HQ2.out (Nat.le_refl _) ?_; intro w2 hown2 hg2; have HS0 : Hid (Seen w w.heap.size l.length (List.replicate l.length false) w2) := hide ⟨by rw [show vbools (List.replicate l.length false) = (madeCells (Value.bool false).cells (l.length * 1)).toList from by rw [show (Value.bool false).cells = #[Value.bool false] from rfl, toList_madeCells_one, Nat.mul_one]; simp [vbools]]; exact hown2, (Below.refl _ _).grown hg2 (Nat.le_refl _) (fun k hk => by cases hk), Nat.le_refl _⟩; have hcel := (HS0.out.cell (j := r) (b := false) (by simp [hr])); clear hown2 hg2; rw [hnb] at HS0 hcel; obtain ⟨hcel, hfz⟩ := hcel)
    have HS1 := hide (HS0.out.set r)
    clear HS0
    go_loopw [6, 7] (fun n i wr => RSRel w l (r : Int) S nb n i wr) (fun _ i _ => (intOf i + 1).toNat)
    case atStart => exact ⟨0, (r : Int), _, rfl, rfl, by omega, by omega, HST.out, HS1.out⟩
    case round =>
      clear HST HS1 hcel hfz
      obtain ⟨m, k, s, rfl, rfl, hk1, hkl, hrs, hseen⟩ := hrel
      have HR := hide hrs
      have HSE := hide hseen
      have hm := hrs.le
      clear hrs hseen
      by_cases hneg : k < 0
      · obtain rfl : k = -1 := by omega
        have hn0 : ¬ (0 : Int) ≤ -1 := by decide
        have HE := hide (HR.out.done HSM.out)
        clear hneg
        go_wp2
        go_ret
        exact ⟨by rw [← HE.out]; rfl, hnb ▸ HSE.out.2.1⟩
      · obtain ⟨q, rfl⟩ := Int.eq_ofNat_of_zero_le (by omega : 0 ≤ k)
        have hq : q < l.length := by omega
        have hqs : q < s.length := by rw [HR.out.len]; exact hq
        have hsq : s[q]? = some s[q] := List.getElem?_eq_getElem hqs
        obtain ⟨bb, hbb⟩ : ∃ bb, bb = s[q] := ⟨_, rfl⟩
        rw [← hbb] at hsq
        clear hbb
        obtain ⟨x0, _⟩ := HSE.out.cell hsq
        have hw1 : IntKind.i64.wrap ((q : Int) - 1) = (q : Int) - 1 := IntWalk.i64_in _ (by omega)
        have hq0 : (0 : Int) ≤ (q : Int) := by omega
        cases bb
        · have HN := hide (HR.out.skip HG.out HSN.out HSM.out hsq)
          clear hneg hsq
          go_wp2
          go_roundw
          case rel => exact ⟨m, (q : Int) - 1, s, rfl, rfl, by omega, by omega, HN.out, HSE.out⟩
          case measure => simp [intOf]
        · have hp : l[q]? = some l[q] := List.getElem?_eq_getElem hq
          obtain ⟨b, off, rfl, hb, y0, y1, y2, y3⟩ := HSL.out.branch hq
          generalize l[q] = p at *
          obtain ⟨p0, p1, p2, p3⟩ := p
          simp only at y0 y1 y2 y3
          obtain ⟨_, _, ⟨_, g1⟩, ⟨_, g2⟩, ⟨_, g3⟩⟩ := HG.out q _ hp
          simp only at g1 g2 g3
          have HN := hide (HR.out.mark HG.out HSN.out HSM.out hsq hp)
          have hwm : IntKind.i64.wrap ((m : Int) + 1) = (m : Int) + 1 := IntWalk.i64_in _ (by omega)
          have z1 := (HSE.out.2.1.cell hb).trans y1
          have z2 := (HSE.out.2.1.cell hb).trans y2
          have z3 := (HSE.out.2.1.cell hb).trans y3
          have zk := (HSE.out.2.1.cell hg0).trans k1
          have HLEN := hide HR.out.len
          clear hneg hsq hp y0 y1 y2 y3 hb
          have j0 : ∀ w : World, (Instr.index 55 (.agg #[.int .i64 p1, .int .i64 p2, .int .i64 p3]) (.int .i64 0)).run Try.prog w = .ok (.int .i64 p1) w := fun _ => by kernel_rfl
          have j1 : ∀ w : World, (Instr.index 55 (.agg #[.int .i64 p1, .int .i64 p2, .int .i64 p3]) (.int .i64 1)).run Try.prog w = .ok (.int .i64 p2) w := fun _ => by kernel_rfl
          have j2 : ∀ w : World, (Instr.index 55 (.agg #[.int .i64 p1, .int .i64 p2, .int .i64 p3]) (.int .i64 2)).run Try.prog w = .ok (.int .i64 p3) w := fun _ => by kernel_rfl
          go_wp2
          go_loopw [50] (fun i wx => ∃ t : Nat, t ≤ 3 ∧ i = .int .i64 t ∧ Seen w nb l.length (markQ (p0, p1, p2, p3) s t) wx) (fun i _ => 3 - (intOf i).toNat)
          case atStart => exact ⟨0, by omega, rfl, HSE.out⟩
          case round =>
            clear x0 z1 z2 z3 zk HSE
            obtain ⟨t, ht, rfl, hse⟩ := hrel
            have HSE := hide hse
            clear hse
            obtain rfl | rfl | rfl | rfl : t = 0 ∨ t = 1 ∨ t = 2 ∨ t = 3 := by omega
            · by_cases hn : p1 < 0
              · have hn' : ¬ 0 ≤ p1 := by omega
                have e : mark p1 (s) = s := by unfold mark; rw [if_pos hn]
                have HF : Hid (Seen w nb l.length (markQ (p0, p1, p2, p3) s 1) wr) := hide (by show Seen w nb l.length (mark p1 (s)) wr; rw [e]; exact HSE.out)
                clear hn e
                go_wp2
                go_roundw
                case rel => exact ⟨1, by omega, by go_num, HF.out⟩
                case measure => simp [intOf]
              · obtain ⟨x, rfl⟩ := Int.eq_ofNat_of_zero_le (by omega : 0 ≤ p1)
                have hx : x < l.length := by omega
                have hxs : x < (s).length := by (try simp only [mark_len]); rw [HLEN.out]; exact hx
                obtain ⟨hcel, hfz⟩ := HSE.out.cell (List.getElem?_eq_getElem hxs)
                have hx0 : (0 : Int) ≤ (x : Int) := by omega
                have e : mark (x : Int) (s) = (s).set x true := by unfold mark; rw [if_neg (by omega), Int.toNat_natCast]
                have HF : Hid (Seen w nb l.length (markQ (p0, (x : Int), p2, p3) s 1) (wr.setCell ⟨nb, x, none⟩ (.bool true))) := hide (by show Seen w nb l.length (mark (x : Int) (s)) _; rw [e]; exact HSE.out.set x)
                clear hn e
                generalize (s)[x] = old at hcel
                go_wp2
                go_roundw
                case rel => exact ⟨1, by omega, by go_num, HF.out⟩
                case measure => simp [intOf]
            · by_cases hn : p2 < 0
              · have hn' : ¬ 0 ≤ p2 := by omega
                have e : mark p2 (mark p1 s) = mark p1 s := by unfold mark; rw [if_pos hn]
                have HF : Hid (Seen w nb l.length (markQ (p0, p1, p2, p3) s 2) wr) := hide (by show Seen w nb l.length (mark p2 (mark p1 s)) wr; rw [e]; exact HSE.out)
                clear hn e
                go_wp2
                go_roundw
                case rel => exact ⟨2, by omega, by go_num, HF.out⟩
                case measure => simp [intOf]
              · obtain ⟨x, rfl⟩ := Int.eq_ofNat_of_zero_le (by omega : 0 ≤ p2)
                have hx : x < l.length := by omega
                have hxs : x < (mark p1 s).length := by (try simp only [mark_len]); rw [HLEN.out]; exact hx
                obtain ⟨hcel, hfz⟩ := HSE.out.cell (List.getElem?_eq_getElem hxs)
                have hx0 : (0 : Int) ≤ (x : Int) := by omega
                have e : mark (x : Int) (mark p1 s) = (mark p1 s).set x true := by unfold mark; rw [if_neg (by omega), Int.toNat_natCast]
                have HF : Hid (Seen w nb l.length (markQ (p0, p1, (x : Int), p3) s 2) (wr.setCell ⟨nb, x, none⟩ (.bool true))) := hide (by show Seen w nb l.length (mark (x : Int) (mark p1 s)) _; rw [e]; exact HSE.out.set x)
                clear hn e
                generalize (mark p1 s)[x] = old at hcel
                go_wp2
                go_roundw
                case rel => exact ⟨2, by omega, by go_num, HF.out⟩
                case measure => simp [intOf]
            · by_cases hn : p3 < 0
              · have hn' : ¬ 0 ≤ p3 := by omega
                have e : mark p3 (mark p2 (mark p1 s)) = mark p2 (mark p1 s) := by unfold mark; rw [if_pos hn]
                have HF : Hid (Seen w nb l.length (markQ (p0, p1, p2, p3) s 3) wr) := hide (by show Seen w nb l.length (mark p3 (mark p2 (mark p1 s))) wr; rw [e]; exact HSE.out)
                clear hn e
                go_wp2
                go_roundw
                case rel => exact ⟨3, by omega, by go_num, HF.out⟩
                case measure => simp [intOf]
              · obtain ⟨x, rfl⟩ := Int.eq_ofNat_of_zero_le (by omega : 0 ≤ p3)
                have hx : x < l.length := by omega
                have hxs : x < (mark p2 (mark p1 s)).length := by (try simp only [mark_len]); rw [HLEN.out]; exact hx
                obtain ⟨hcel, hfz⟩ := HSE.out.cell (List.getElem?_eq_getElem hxs)
                have hx0 : (0 : Int) ≤ (x : Int) := by omega
                have e : mark (x : Int) (mark p2 (mark p1 s)) = (mark p2 (mark p1 s)).set x true := by unfold mark; rw [if_neg (by omega), Int.toNat_natCast]
                have HF : Hid (Seen w nb l.length (markQ (p0, p1, p2, (x : Int)) s 3) (wr.setCell ⟨nb, x, none⟩ (.bool true))) := hide (by show Seen w nb l.length (mark (x : Int) (mark p2 (mark p1 s))) _; rw [e]; exact HSE.out.set x)
                clear hn e
                generalize (mark p2 (mark p1 s))[x] = old at hcel
                go_wp2
                go_roundw
                case rel => exact ⟨3, by omega, by go_num, HF.out⟩
                case measure => simp [intOf]
            · go_wp2
              go_roundw
              case rel => exact ⟨m + 1, (q : Int) - 1, mark3 (p0, p1, p2, p3) s, by go_num, rfl, by omega, by omega, HN.out, HSE.out⟩
              case measure => simp [intOf]
end Go.Proofs.Ytinlnfhicnejmaa
