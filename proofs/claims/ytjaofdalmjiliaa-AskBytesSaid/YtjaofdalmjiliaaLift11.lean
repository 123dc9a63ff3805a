/-
  WHAT EVERY LAW'S LAST STEP OF LAYER 11 NEEDS ONCE.
-/
import Derived.Test.YtjaofdalmjiliaaLift5
import Derived.Test.YtjaofdalmjiliaaGivens
import Derived.SizedLaws
namespace Go.Proofs.Ytjaofdalmjiliaa
open Go.ChangeShapes Go.WideShapes Go.ChangeAt Go.RowKit Go.Deep
theorem len_sized {H : Type} {enc : TypeId × Value → H} {P : Program} {W : World} {sp : Nat → Bool} {held : Bool} {ts : List TypeId} {ds : List (DataW H)} (hall : (DataW.weightsEach P ts ds).all (· ≤ reachBytes) = true) {j : Nat} {t e : TypeId} {d : DataW H} {p : List MemPlace} {a : Option Addr} {n cap : Nat}
    (ht : ts[j]? = some t) (hd : ds[j]? = some d) (hu : P.underlying t = some (.slice e)) (hb : 0 < P.bytesOf e) (h : DataW.Trod enc P W 0 sp held t (.slice a n cap) d p) : n ≤ reachBytes := by
  obtain ⟨m, hm⟩ := h
  rcases open_slice hu hm with ⟨hcs, _⟩ | ⟨a', len', cap', m', n', D, Pl, hcs, _, _, _, _, hx, _⟩
  · have e0 : Value.slice a n cap = .slice none 0 0 := by simpa [Value.cells] using hcs
    injection e0 with _ e2 _
    omega
  · have e0 : Value.slice a n cap = .slice (some a') len' cap' := by simpa [Value.cells] using hcs
    injection e0 with _ e2 _
    injection hx with hx _
    have := sized_slice hall ht (by rw [hd, hx]) hu
    rw [List.length_map, List.length_range] at this
    have h2 := Nat.le_mul_of_pos_right (len' + (List.map (fun j => D (len' + j)) (List.range (m' - len'))).length) hb
    omega
theorem reqTypes : ∃ g0 g1 g2 v0 v1 v2 : Field, ReqTypes Try.prog 40 35 22 g0 g1 g2 v0 v1 v2 ∧ oneCellFields Try.prog #[g0, g1, g2] = true ∧ oneCellFields Try.prog #[v0, v1, v2] = true :=
  ⟨_, _, _, _, _, _, ⟨Try.underlying40, Try.underlying35, Try.underlying22, by kernel_rfl, by kernel_rfl, ⟨rfl, rfl, rfl⟩, ⟨rfl, rfl, rfl⟩, ⟨by kernel_rfl, by kernel_rfl, by kernel_rfl⟩, ⟨by kernel_rfl, by kernel_rfl, by kernel_rfl⟩, ⟨Try.underlying3, Try.underlying9, rfl⟩, ⟨Try.underlying3, Try.underlying3, Try.underlying9⟩⟩, by kernel_rfl, by kernel_rfl⟩
end Go.Proofs.Ytjaofdalmjiliaa
