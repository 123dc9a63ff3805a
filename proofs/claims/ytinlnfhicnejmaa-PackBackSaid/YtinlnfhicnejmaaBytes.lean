/-
  BYTES AND TEXTS: the law of 'string(b)', and the contract of bytes.Equal: two slices of bytes, held against each other; nothing turns.
-/
import Derived.Test.YtinlnfhicnejmaaBook
namespace Go.Proofs.Ytinlnfhicnejmaa
open Go.RowKit
set_option linter.unusedVariables false

/-- A text of bytes. -/
def text (l : List UInt8) : ByteArray := ⟨l.toArray⟩
theorem text_toList (l : List UInt8) : (text l).toList = l := by
  rw [ByteArray.toList_eq]; rfl
theorem run_text {P : Program} (w : World) (src dst e : TypeId) (a : Option Addr) (c n B : Nat) (l : List UInt8) (hn : l.length = n) (hs : P.underlying src = some (.slice e)) (he : P.underlying e = some (.int .u8)) (hd : P.underlying dst = some .string)
    (h : Sl w B a (vbytes l)) : (convert src dst (.slice a n c)).run P w = .ok (.string (text l)) w := by
  subst hn
  rcases a with _ | ad
  · have : l = [] := by
      cases l with
      | nil => rfl
      | cons x l => obtain ⟨b, off, h', _⟩ := h (by simp [vbytes]); cases h'
    subst this
    rw [run_convert_bytes_string w src dst e _ _ c hs he hd]
    simp [Conv.bytesToString]; rfl
  · refine run_convert_bytes_back w src dst e ad c l hs he hd fun j hj => ?_
    obtain ⟨b, off, h', _, hc⟩ := h.byte hj
    injection h' with h'
    subst h'
    have ha : (⟨b, off, none⟩ : Addr).add j = ⟨b, off + j, none⟩ := by unfold Addr.add; split <;> simp_all
    rw [ha]; exact hc

end Go.Proofs.Ytinlnfhicnejmaa
