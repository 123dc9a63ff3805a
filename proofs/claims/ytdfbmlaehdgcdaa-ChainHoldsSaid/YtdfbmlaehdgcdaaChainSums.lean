/-
  CONTRACTS OF chain.Sums AND THE DOCUMENT'S OWN Sums: records as they come in (a slice of slices of bytes); a new slice of their sums comes back, and what was there stays. Condition: no more than 4096 records, none longer than 2^47 bytes.
-/
import Derived.Test.YtdfbmlaehdgcdaaChainWalk
import Derived.Test.YtdfbmlaehdgcdaaChainPlain2
import Derived.Test.YtdfbmlaehdgcdaaAppend
namespace Go.Proofs.Ytdfbmlaehdgcdaa
open Go.RowKit
set_option linter.unusedVariables false

/-- Records that can be read: a slice whose elements are slices of bytes. -/
def Rws (w : World) (B : Nat) (a : Option Addr) (l : List (List UInt8)) : Prop :=
  ∀ i x, l[i]? = some x → ∃ b off a' c, a = some ⟨b, off, none⟩ ∧ b < B ∧ w.cell? ⟨b, off + i, none⟩ = some (.slice a' x.length c) ∧ x.length ≤ c ∧ Sl w B a' (vbytes x)
theorem Rws.keep {w w' : World} {B : Nat} {a : Option Addr} {l : List (List UInt8)} (h : Rws w B a l) (hk : ∀ p : Addr, p.block < B → w'.cell? p = w.cell? p) : Rws w' B a l := fun i x hx => by
  obtain ⟨b, off, a', c, e, hb, hc, hl, hs⟩ := h i x hx
  exact ⟨b, off, a', c, e, hb, (hk _ hb).trans hc, hl, hs.keep hk⟩
theorem Rws.below {w w' : World} {B : Nat} {a : Option Addr} {l : List (List UInt8)} (h : Rws w B a l) (hb : Below B w w') : Rws w' B a l := h.keep fun _ hp => hb.cell hp
theorem Rws.more {w : World} {B B' : Nat} {a : Option Addr} {l : List (List UInt8)} (h : Rws w B a l) (hB : B ≤ B') : Rws w B' a l := fun i x hx => by
  obtain ⟨b, off, a', c, e, hb, hc, hl, hs⟩ := h i x hx
  exact ⟨b, off, a', c, e, by omega, hc, hl, hs.more hB⟩
theorem Rws.take {w : World} {B : Nat} {a : Option Addr} {l : List (List UInt8)} (h : Rws w B a l) (n : Nat) : Rws w B a (l.take n) := fun i x hx => by
  rw [List.getElem?_take] at hx
  split at hx
  · exact h i x hx
  · cases hx
theorem Rws.row {w : World} {B : Nat} {a : Option Addr} {l : List (List UInt8)} (h : Rws w B a l) {i : Nat} (hi : i < l.length) :
    ∃ b off a' c, a = some ⟨b, off, none⟩ ∧ b < B ∧ w.cell? ⟨b, off + i, none⟩ = some (.slice a' l[i].length c) ∧ l[i].length ≤ c ∧ Sl w B a' (vbytes l[i]) := h i _ (List.getElem?_eq_getElem hi)

/-- Words as cells. -/
def vw (l : List (BitVec 64)) : List Value := l.map fun x => .int .u64 (n64 x)
theorem vw_length (l : List (BitVec 64)) : (vw l).length = l.length := by simp [vw]
theorem vw_append (l m : List (BitVec 64)) : vw (l ++ m) = vw l ++ vw m := by simp [vw]
theorem one_vw (l : List (BitVec 64)) : ∀ v ∈ vw l, v.oneCell' = true := by
  intro v hv
  simp only [vw, List.mem_map] at hv
  obtain ⟨c, _, rfl⟩ := hv
  rfl
theorem infoW : (Try.prog.info? 30).map (fun i => (i.zero, i.size, i.bytes)) = some (some (.int .u64 0), 1, 8) := by kernel_rfl

/-- What Sums hands back: an owned row of the sums, what was there as it was. -/
def SumsPost (w : World) (l : List (List UInt8)) (e : Ending) (w' : World) : Prop :=
  ∃ v, e = .returned v ∧ w'.ownsRow w.heap.size 30 1 v l.length (vw (Fnv.sums 0#64 l)) ∧ Below w.heap.size w w'

set_option maxHeartbeats 1000000 in
theorem sums_any (a : Option Addr) (cap n : Nat) (l : List (List UInt8)) (hn : l.length = n) (w : World) (hl : l.length ≤ 4096) (hb : ∀ x ∈ l, x.length ≤ 140737488351232) (hs : Rws w w.heap.size a l) :
    Calls Try.prog 20 #[.slice a n cap] w (SumsPost w l) := by
  subst hn
  obtain ⟨i0, hi, hz0, hz1, hz2⟩ := info_parts infoW
  have Hi := hide hi
  have Hz0 := hide hz0
  have Hz1 := hide hz1
  have Hz2 := hide hz2
  clear hi hz0 hz1 hz2
  go_enter Try.func20, Try.ntmps20
  go_wp2
  go_loopw [3, 4, 9] (fun v h i wr => ∃ k : Nat, k ≤ l.length ∧ i = .int .i64 k ∧ h = .int .u64 (n64 (Fnv.after 0#64 (l.take k))) ∧ wr.ownsRow w.heap.size 30 1 v k (vw (Fnv.sums 0#64 (l.take k))) ∧ Below w.heap.size w wr) (fun _ _ i _ => l.length - (intOf i).toNat)
  case atStart => exact ⟨0, Nat.zero_le _, rfl, rfl, World.ownsRow_nil _ _ _ _, Below.refl _ _⟩
  case round =>
    obtain ⟨k, hk, rfl, rfl, hown, hbel⟩ := hrel
    by_cases hlt : k < l.length
    · obtain ⟨b, off, a', c, rfl, hbB, hcell, hlc, hsl⟩ := (hs.below hbel).row hlt
      have hlen : l[k].length ≤ 140737488351232 := hb _ (List.getElem_mem hlt)
      have hs1 := hide (Fnv.sums_step l k hlt)
      have hs2 := hide (Fnv.after_step l k hlt)
      generalize l[k] = x at hcell hlc hsl hlen hs1 hs2
      generalize hxn : x.length = xn at hcell hlc hlen
      have HX := hide hxn
      generalize Fnv.sums 0#64 (l.take k) = S at hown hs1
      generalize Fnv.after 0#64 (l.take k) = h at hs1 hs2 ⊢
      clear hxn hs
      generalize hy : Fnv.chain h x = y at hs1 hs2
      have HY := hide hy
      clear hy
      have hown2 := hown.alloc (.cells #[.int .u64 (n64 y)] 30)
      have hc2 : Sl (wr.alloc (.cells #[.int .u64 (n64 y)] 30)) (wr.heap.size + 1) (some ⟨wr.heap.size, 0, none⟩) (vw [y]) := Sl.laid wr _ _ _ _ rfl
      have hbel2 := hbel.alloc hbel.size (.cells #[.int .u64 (n64 y)] 30)
      go_wp2_with (first
        | (go_at_call 17; refine (chain_any h a' c xn x HX.out _ _ (by rw [HX.out]; exact hlen) hsl).mono ?_; rintro e w' ⟨rfl, rfl⟩; rw [HY.out])
        | (at_builtin; refine wpList_app _ rfl (.tmp 16) (.tmp 18) 36 rfl w.heap.size 30 i0 (.int .u64 0) 1 8 Try.underlying36 Hi.out Hz0.out Hz1.out Hz2.out rfl (by decide) _ k (vw S) rfl hown2 _ _ 1 1 (vw [y]) rfl rfl hc2 (one_vw [y]) (by unfold maxLen; omega) (by omega) hbel2.size ?_; intro v3 w3 hown3 hg3 hat3; have hb3 : Below w.heap.size w w3 := own_below hown2 hbel2 hg3 (Nat.le_refl _) hbel2.size; rw [← vw_append] at hown3))
      go_roundw
      case rel => exact ⟨k + 1, by omega, by go_num, by rw [hs2.out], by rw [hs1.out]; exact hown3, hb3⟩
      case measure => simp [intOf]; omega
    · obtain rfl : k = l.length := by omega
      rw [List.take_length] at hown
      go_wp2
      go_ret
      exact ⟨_, rfl, hown, hbel⟩
set_option maxHeartbeats 1000000 in
theorem refsums_any (a : Option Addr) (cap n : Nat) (l : List (List UInt8)) (hn : l.length = n) (w : World) (hl : l.length ≤ 4096) (hb : ∀ x ∈ l, x.length ≤ 140737488351232) (hs : Rws w w.heap.size a l) :
    Calls Try.prog 24 #[.slice a n cap] w (SumsPost w l) := by
  subst hn
  obtain ⟨i0, hi, hz0, hz1, hz2⟩ := info_parts infoW
  have Hi := hide hi
  have Hz0 := hide hz0
  have Hz1 := hide hz1
  have Hz2 := hide hz2
  clear hi hz0 hz1 hz2
  go_enter Try.func24, Try.ntmps24
  go_wp2
  go_loopw [3, 4, 9] (fun v h i wr => ∃ k : Nat, k ≤ l.length ∧ i = .int .i64 k ∧ h = .int .u64 (n64 (Fnv.after 0#64 (l.take k))) ∧ wr.ownsRow w.heap.size 30 1 v k (vw (Fnv.sums 0#64 (l.take k))) ∧ Below w.heap.size w wr) (fun _ _ i _ => l.length - (intOf i).toNat)
  case atStart => exact ⟨0, Nat.zero_le _, rfl, rfl, World.ownsRow_nil _ _ _ _, Below.refl _ _⟩
  case round =>
    obtain ⟨k, hk, rfl, rfl, hown, hbel⟩ := hrel
    by_cases hlt : k < l.length
    · obtain ⟨b, off, a', c, rfl, hbB, hcell, hlc, hsl⟩ := (hs.below hbel).row hlt
      have hlen : l[k].length ≤ 140737488351232 := hb _ (List.getElem_mem hlt)
      have hs1 := hide (Fnv.sums_step l k hlt)
      have hs2 := hide (Fnv.after_step l k hlt)
      generalize l[k] = x at hcell hlc hsl hlen hs1 hs2
      generalize hxn : x.length = xn at hcell hlc hlen
      have HX := hide hxn
      generalize Fnv.sums 0#64 (l.take k) = S at hown hs1
      generalize Fnv.after 0#64 (l.take k) = h at hs1 hs2 ⊢
      clear hxn hs
      generalize hy : Fnv.chain h x = y at hs1 hs2
      have HY := hide hy
      clear hy
      have hown2 := hown.alloc (.cells #[.int .u64 (n64 y)] 30)
      have hc2 : Sl (wr.alloc (.cells #[.int .u64 (n64 y)] 30)) (wr.heap.size + 1) (some ⟨wr.heap.size, 0, none⟩) (vw [y]) := Sl.laid wr _ _ _ _ rfl
      have hbel2 := hbel.alloc hbel.size (.cells #[.int .u64 (n64 y)] 30)
      go_wp2_with (first
        | (go_at_call 18; refine (refchain_any h a' c xn x HX.out _ _ (by rw [HX.out]; exact hlen) hsl).mono ?_; rintro e w' ⟨rfl, rfl⟩; rw [HY.out])
        | (at_builtin; refine wpList_app _ rfl (.tmp 16) (.tmp 18) 36 rfl w.heap.size 30 i0 (.int .u64 0) 1 8 Try.underlying36 Hi.out Hz0.out Hz1.out Hz2.out rfl (by decide) _ k (vw S) rfl hown2 _ _ 1 1 (vw [y]) rfl rfl hc2 (one_vw [y]) (by unfold maxLen; omega) (by omega) hbel2.size ?_; intro v3 w3 hown3 hg3 hat3; have hb3 : Below w.heap.size w w3 := own_below hown2 hbel2 hg3 (Nat.le_refl _) hbel2.size; rw [← vw_append] at hown3))
      go_roundw
      case rel => exact ⟨k + 1, by omega, by go_num, by rw [hs2.out], by rw [hs1.out]; exact hown3, hb3⟩
      case measure => simp [intOf]; omega
    · obtain rfl : k = l.length := by omega
      rw [List.take_length] at hown
      go_wp2
      go_ret
      exact ⟨_, rfl, hown, hbel⟩
end Go.Proofs.Ytdfbmlaehdgcdaa
