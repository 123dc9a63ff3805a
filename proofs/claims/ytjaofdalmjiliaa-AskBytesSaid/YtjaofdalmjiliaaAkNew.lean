/-
  A REQUEST IN NEW MEMORY: its row and each bag are owned. CONTRACT OF bailiffkeep.Asks.
-/
import Derived.Test.YtjaofdalmjiliaaAkAskRight
namespace Go.Proofs.Ytjaofdalmjiliaa
open Go.RowKit
set_option linter.unusedVariables false

theorem own_keep {w w' : World} {B : Nat} {e : TypeId} {size n : Nat} {v : Value} {xs : List Value} (h : w.ownsRow B e size v n xs) (hb : Below w.heap.size w w') : w'.ownsRow B e size v n xs := by
  refine ⟨h.1, ?_⟩
  rcases h.2 with ⟨h1, h2⟩ | ⟨g, cap, cur, h1, h2, h3, h4⟩
  · exact .inl ⟨h1, h2⟩
  · exact .inr ⟨g, cap, cur, h1, h2, (hb.block g (Array.getElem?_eq_some_iff.1 h3).1).trans h3, h4⟩
theorem own_cap {w : World} {B : Nat} {e : TypeId} {size n m c : Nat} {a : Option Addr} {xs : List Value} (h : w.ownsRow B e size (.slice a m c) n xs) : c ≤ maxLen := by
  rcases h.2 with ⟨e0, _⟩ | ⟨g, cap, cur, e0, _, _, _, hcm, _⟩
  · injection e0 with _ _ e3; rw [e3]; exact Nat.zero_le _
  · injection e0 with _ _ e3; rw [e3]; exact hcm
/-- A bag of its own. -/
def NewG (w : World) (B : Nat) (x : Gm) : Prop := w.ownsRow B 35 3 (.slice x.at_ x.bag.length x.cap) x.bag.length (cellsV x.bag)
def GvOk (x : Gv) : Prop := I64 x.1 ∧ x.2.1.size ≤ maxLen ∧ ∀ v ∈ x.2.2, VOk v
def NewReq (w : World) (B : Nat) (v : Value) (l : List Gm) : Prop := w.ownsRow B 40 3 v l.length (cellsG l) ∧ ∀ x ∈ l, NewG w B x
theorem NewG.ok {w : World} {B : Nat} {x : Gm} (h : NewG w B x) (hx : GvOk x.gv) : GOk w w.heap.size x := by
  obtain ⟨A, c, e, hnc, hs, _⟩ := own_slice h
  injection e with e1 e2 e3
  exact ⟨hx.1, hx.2.1, by rw [e3]; exact hnc, own_cap h, by rw [e1]; exact hs, hx.2.2⟩
theorem GOk.gv {w : World} {B : Nat} {x : Gm} (h : GOk w B x) : GvOk x.gv := ⟨h.1, h.2.1, h.2.2.2.2.2⟩
theorem NewReq.req {w : World} {B : Nat} {v : Value} {l : List Gm} (h : NewReq w B v l) (hl : ∀ x ∈ gvs l, GvOk x) : ∃ A c, v = .slice A l.length c ∧ Req w w.heap.size A l := by
  obtain ⟨A, c, e, hnc, hs, _⟩ := own_slice h.1
  exact ⟨A, c, e, hs, fun x hx => (h.2 x hx).ok (hl x.gv (List.mem_map_of_mem hx))⟩
theorem NewG.keep {w w' : World} {B : Nat} {x : Gm} (h : NewG w B x) (hb : Below w.heap.size w w') : NewG w' B x := own_keep h hb
theorem NewReq.keep {w w' : World} {B : Nat} {v : Value} {l : List Gm} (h : NewReq w B v l) (hb : Below w.heap.size w w') : NewReq w' B v l := ⟨own_keep h.1 hb, fun x hx => (h.2 x hx).keep hb⟩
theorem NewReq.nil (w : World) (B : Nat) : NewReq w B (.slice none 0 0) [] := ⟨World.ownsRow_nil _ _ _ _, fun x h => absurd h (by simp)⟩
/-- Behind the append of one more. -/
theorem NewReq.snoc {w w' : World} {B : Nat} {v v' : Value} {l : List Gm} {x : Gm} (h : NewReq w B v l) (hx : NewG w B x) (hg : w.grownBy w' v.ownBlock) (hr : w'.ownsRow B 40 3 v' (l.length + 1) (cellsG l ++ cellsG [x])) : NewReq w' B v' (l ++ [x]) := by
  refine ⟨by rw [cellsG_append, List.length_append]; exact hr, fun y hy => ?_⟩
  rcases List.mem_append.1 hy with hy | hy
  · exact World.ownsRow.kept (h.2 y hy) hg (own_ne (h.2 y hy) h.1 (by decide))
  · rw [List.mem_singleton] at hy
    subst hy
    exact World.ownsRow.kept hx hg (own_ne hx h.1 (by decide))
theorem gvs_append (l m : List Gm) : gvs (l ++ m) = gvs l ++ gvs m := by unfold gvs; exact List.map_append
theorem three_kept {wr w1 : World} {x y z : Value} {t : TypeId} {o : Obj} (hg : ((wr.alloc (.cells #[x, y, z] t)).alloc o).grownBy w1 (some (wr.heap.size + 1))) :
    w1.heap[wr.heap.size]? = some (.cells #[x, y, z] t (0, 0)) ∧ w1.cell? ⟨wr.heap.size, 0, none⟩ = some x ∧ w1.cell? ⟨wr.heap.size, 1, none⟩ = some y ∧ w1.cell? ⟨wr.heap.size, 2, none⟩ = some z ∧ w1.frozen? ⟨wr.heap.size, 2, none⟩ = false := by
  have h1 : wr.heap.size < ((wr.alloc (.cells #[x, y, z] t)).alloc o).heap.size := by simp; omega
  have hgb : w1.heap[wr.heap.size]? = some (.cells #[x, y, z] t (0, 0)) := (hg.block wr.heap.size h1 (by simp)).trans ((heap_alloc_old _ o (by simp)).trans (heap_alloc_new wr _))
  exact ⟨hgb, by simp [World.cell?, hgb], by simp [World.cell?, hgb], by simp [World.cell?, hgb], frozen_of_row w1 wr.heap.size 2 _ _ hgb⟩
/-- Behind the bag's append and its store: the world ahead of the row's append. -/
theorem mid_store {w wr w1 : World} {B : Nat} {v : Value} {l : List Gm} {xc : Int} {xn : ByteArray} {A : Option Addr} {cc : Nat} {bag : List V3} (hq : NewReq wr B v l) (hb : Below B w wr) (hB : B ≤ wr.heap.size) (h1 : Below wr.heap.size wr w1) (hw1 : wr.heap.size < w1.heap.size) (hown : w1.ownsRow (wr.heap.size + 1) 35 3 (.slice A bag.length cc) bag.length (cellsV bag)) (w5 : World)
    (e5 : w5 = (w1.setCell ⟨wr.heap.size, 2, none⟩ (.slice A bag.length cc)).alloc (.cells #[.int .i64 xc, .string xn, .slice A bag.length cc] 40)) :
    NewReq w5 B v l ∧ NewG w5 B ⟨xc, xn, A, cc, bag⟩ ∧ Below B w w5 ∧ B ≤ w5.heap.size ∧ Sl w5 w5.heap.size (some ⟨w1.heap.size, 0, none⟩) (cellsG [⟨xc, xn, A, cc, bag⟩]) := by
  subst e5
  have hs : (w1.setCell ⟨wr.heap.size, 2, none⟩ (.slice A bag.length cc)).heap.size = w1.heap.size := World.size_setCell _ _ _
  have h2 : Below wr.heap.size wr (w1.setCell ⟨wr.heap.size, 2, none⟩ (.slice A bag.length cc)) := below_grown h1 (grown_set1 w1 wr.heap.size 2 _) (Nat.le_refl _) h1.size
  have h3 := h2.alloc h2.size (.cells #[.int .i64 xc, .string xn, .slice A bag.length cc] 40)
  have hw : w1.heap.size + 1 = ((w1.setCell ⟨wr.heap.size, 2, none⟩ (.slice A bag.length cc)).alloc (.cells #[.int .i64 xc, .string xn, .slice A bag.length cc] 40)).heap.size := by simp
  refine ⟨hq.keep h3, own_base ((ownsRow_setCell_below hown (a := ⟨wr.heap.size, 2, none⟩) (by simp) _).alloc _) (by omega), hb.trans (h3.mono hB), by omega, ?_⟩
  have := Sl.laid (w1.setCell ⟨wr.heap.size, 2, none⟩ (.slice A bag.length cc)) #[.int .i64 xc, .string xn, .slice A bag.length cc] 40 (0, 0) [.int .i64 xc, .string xn, .slice A bag.length cc] rfl
  rw [hs] at this
  rw [← hw]
  exact this
def AsksPost (w : World) (l : List Gv) (e : Ending) (w' : World) : Prop := ∃ v l', e = .returned v ∧ gvs l' = l ∧ NewReq w' w.heap.size v l' ∧ Below w.heap.size w w'
theorem gvs_take_step {l : List Gm} {k : Nat} (hk : k < l.length) : (gvs l).take (k + 1) = (gvs l).take k ++ [l[k].gv] := by
  rw [List.take_succ_eq_append_getElem (by rw [gvs_len]; exact hk), gvs_at l k hk]
set_option maxHeartbeats 1000000 in
theorem asks_any (a : Option Addr) (c n : Nat) (l : List Gm) (hn : l.length = n) (w : World) (hl : l.length ≤ 1000000) (hbl : ∀ x ∈ l, x.bag.length ≤ 1000000) (hr : Req w w.heap.size a l) :
    Calls Try.prog 14 #[.slice a n c] w (AsksPost w (gvs l)) := by
  subst hn
  obtain ⟨i0, hi, hz0, hz1, hz2⟩ := info_parts infoV
  have Hi := hide hi
  have Hz0 := hide hz0
  have Hz1 := hide hz1
  have Hz2 := hide hz2
  clear hi hz0 hz1 hz2
  obtain ⟨j0, hi, hz0, hz1, hz2⟩ := info_parts infoG
  have Gi := hide hi
  have Gz0 := hide hz0
  have Gz1 := hide hz1
  have Gz2 := hide hz2
  clear hi hz0 hz1 hz2
  have HR := hide hr
  have HBL := hide hbl
  clear hr hbl
  go_enter Try.func14, Try.ntmps14
  go_wp2
  go_loopw [3, 8] (fun o i wr => ∃ (k : Nat) (l' : List Gm), k ≤ l.length ∧ i = .int .i64 k ∧ l'.length = k ∧ Hid (gvs l' = (gvs l).take k) ∧ Hid (NewReq wr w.heap.size o l') ∧ Hid (Below w.heap.size w wr)) (fun _ i _ => l.length - (intOf i).toNat)
  case atStart => exact ⟨0, [], by omega, rfl, rfl, hide rfl, hide (NewReq.nil _ _), hide (Below.refl _ _)⟩
  case round =>
    obtain ⟨k, l', hk, rfl, hll, HG, HQ, HB⟩ := hrel
    by_cases hlt : k < l.length
    · obtain ⟨b, off, rfl, hb, x0, x1, x2⟩ := (HR.out.below HB.out).at hlt
      have HX := hide (HR.out.2 l[k] (List.getElem_mem _))
      have HL := hide (HBL.out l[k] (List.getElem_mem _))
      have HST := hide (gvs_take_step hlt)
      generalize l[k] = x at *
      obtain ⟨xc, xn, xa, xcap, bag⟩ := x
      simp only at x0 x1 x2 HL
      have hz1 : (wr.alloc (.cells #[.int .i64 xc, .string xn, .slice xa bag.length xcap] 40)).heap.size = wr.heap.size + 1 := by simp
      have hb3 : Below wr.heap.size wr ((wr.alloc (.cells #[.int .i64 xc, .string xn, .slice xa bag.length xcap] 40)).alloc (.cells #[] 35)) := below_on (below_new wr _) (below_new _ _)
      have hown0 : ((wr.alloc (.cells #[.int .i64 xc, .string xn, .slice xa bag.length xcap] 40)).alloc (.cells #[] 35)).ownsRow (wr.heap.size + 1) 35 3 (.slice (some ⟨wr.heap.size + 1, 0, none⟩) 0 0) 0 [] := by
        have := World.ownsRow_made (base := wr.heap.size + 1) (e := 35) (size := 3) (wr.alloc (.cells #[.int .i64 xc, .string xn, .slice xa bag.length xcap] 40)) #[] 0 (by rw [hz1]; exact Nat.le_refl _) (by simp [maxLen]) rfl
        rwa [hz1] at this
      have hsz : wr.heap.size + 1 ≤ ((wr.alloc (.cells #[.int .i64 xc, .string xn, .slice xa bag.length xcap] 40)).alloc (.cells #[] 35)).heap.size := by simp
      have HV : Hid ((cellsV bag).length = bag.length * 3) := hide (cellsV_len bag)
      have HS2 := hide (((HX.out.2.2.2.2.1.below HB.out).more HB.out.size).below hb3 |>.more hb3.size)
      have HO := hide (one_cellsV bag)
      have H0 := hide hown0
      have HB3 := hide hb3
      have HSZ := hide hsz
      clear hz1 hb3 hown0 hsz
      go_wp2_with (first
        | (at_builtin; refine wpList_app _ rfl (.tmp 12) (.tmp 14) 22 rfl (wr.heap.size + 1) 35 i0 (.agg #[.int .i64 0, .int .i64 0, .string ByteArray.empty]) 3 32 Try.underlying22 Hi.out Hz0.out Hz1.out Hz2.out rfl (by decide) (.slice (some ⟨wr.heap.size + 1, 0, none⟩) 0 0) 0 [] rfl H0.out _ xa bag.length xcap (cellsV bag) rfl HV.out HS2.out HO.out (by unfold maxLen; have := HL.out; omega) (by have := HL.out; omega) HSZ.out ?_; intro v1 w1 hown1 hg1 hat1; have HB1 := hide (own_below H0.out HB3.out hg1 (by omega) HSZ.out); rw [Nat.zero_add, List.nil_append] at hown1; obtain ⟨hgb, c0, c1, c2, f2⟩ := three_kept hg1; obtain ⟨A1, cc, rfl, _, _⟩ := own_slice hown1; have HOW := hide hown1; have HGB := hide hgb; have HW1 : Hid (wr.heap.size < w1.heap.size) := hide (by have := HSZ.out; have := hg1.size; omega); clear hgb hown1 hg1 hat1 x0 x1 x2)
        | (at_builtin; obtain ⟨hq5, hx5, hb5, hs5, hsl5⟩ := mid_store (xc := xc) (xn := xn) HQ.out HB.out HB.out.size HB1.out HW1.out HOW.out _ rfl; go_loud (refine wpList_app _ rfl (.tmp 17) (.tmp 19) 32 rfl w.heap.size 40 j0 (.agg #[.int .i64 0, .string ByteArray.empty, .slice none 0 0]) 3 48 Try.underlying32 Gi.out Gz0.out Gz1.out Gz2.out rfl (by decide) _ l'.length (cellsG l') rfl hq5.1 _ (some ⟨w1.heap.size, 0, none⟩) 1 1 (cellsG [⟨xc, xn, A1, cc, bag⟩]) rfl rfl hsl5 (one_cellsG _) (by unfold maxLen; omega) (by omega) hs5 ?_; intro v2 w6 hown2 hg2 hat2; have HN2 := hide (hq5.snoc hx5 hg2 hown2); have HBX := hide (own_below hq5.1 hb5 hg2 (Nat.le_refl _) hs5); clear hq5 hx5 hb5 hs5 hsl5 hown2 hg2 hat2 c0 c1 c2 f2)))
      go_roundw
      case rel => exact ⟨k + 1, l' ++ [⟨xc, xn, A1, cc, bag⟩], by omega, by go_num, by simp [hll], hide (by rw [gvs_append, HST.out, HG.out]; rfl), HN2, HBX⟩
      case measure => simp [intOf]; omega
    · obtain rfl : k = l.length := by omega
      have HX : Hid (gvs l' = gvs l) := hide (by rw [HG.out, List.take_of_length_le (by rw [gvs_len]; omega)])
      go_wp2
      go_ret
      exact ⟨_, l', rfl, HX.out, HQ.out, HB.out⟩
end Go.Proofs.Ytjaofdalmjiliaa
