/-
  CONTRACT OF Reader.number: a number out of a reader's bytes; nothing turns but the draws.
-/
import Derived.Test.YtinlnfhicnejmaaPkNumber
namespace Go.Proofs.Ytinlnfhicnejmaa
open Go.RowKit
set_option linter.unusedVariables false

set_option maxHeartbeats 8000000 in
set_option maxRecDepth 20000 in
theorem number_any (lo g : Nat) (l : List UInt8) (at_ : Nat) (bad : Bool) (w : World) (h : Reads w lo g l at_ bad) :
    Calls Try.prog 45 #[.pointer (some ⟨g, 0, none⟩)] w fun e w' => e = .returned (numV (numAt l at_)) ∧ Drawn w w' := by
  obtain ⟨A, c, h1, h2, h3, h4, h4', h5, _⟩ := h
  have c0 : w.cell? ⟨g, 0, none⟩ = some (.slice A l.length c) := by simp [World.cell?, h1]
  have c1 : w.cell? ⟨g, 1, none⟩ = some (.int .i64 at_) := by simp [World.cell?, h1]
  obtain ⟨R, hR⟩ : ∃ R, R = parse (l.drop at_) 0 0 := ⟨_, rfl⟩
  have HR : Hid (numAt l at_ = R.map fun r => (unzz r.1, r.2)) := hide (by rw [hR]; rfl)
  have HR0 : Hid (SoFar l at_ 0 0 R) := hide ⟨by decide, hR.symm⟩
  clear h1 h3 hR
  go_enter Try.func45, Try.ntmps45
  go_wp2
  go_loopw [4, 5] (fun u i wr => ∃ i' u' n : Nat, i' ≤ 10 ∧ i = .int .i64 i' ∧ u = .int .u64 u' ∧ SoFar l at_ i' u' R ∧ wr = w.drewN n) (fun _ i _ => 10 - (intOf i).toNat)
  case atStart => exact ⟨0, 0, 0, by omega, rfl, rfl, HR0.out, rfl⟩
  case round =>
    clear HR0
    obtain ⟨i, u, n, hi, rfl, rfl, hsf, rfl⟩ := hrel
    have HSF := hide hsf
    clear hsf
    by_cases hi10 : i < 10
    · have hd : decide ((i : Int) < 10) = true := decide_eq_true (by omega)
      have hs1 : IntKind.i64.wrap ((at_ : Int) + (i : Int)) = (at_ : Int) + (i : Int) := IntWalk.i64_in _ (by omega)
      have hs2 : (0 : Int) ≤ (at_ : Int) + (i : Int) := by omega
      have hs3 : ((at_ : Int) + (i : Int)).toNat = at_ + i := by omega
      by_cases hlt : at_ + i < l.length
      · obtain ⟨b, off, rfl, _, hcell⟩ := h5.byte hlt
        have hs4 : (at_ : Int) + (i : Int) < (l.length : Int) := by omega
        have HST := hide (parse_step l (at_ + i) hlt)
        generalize l[at_ + i] = C at hcell HST
        have hC := C.toNat_lt
        clear h5
        by_cases hb : badC i C.toNat
        · have HRR : Hid (R = none) := hide (by rw [← HSF.out.2, HST.out]; exact parse_bad hb)
          rcases hb with ⟨h9, h1⟩ | ⟨h0, h1⟩
          · have h9' : 9 ≤ i := by omega
            clear hlt h9
            go_wp2
            go_quiet (fail)
            go_wp2
            go_quiet (fail)
            clear hs1 hs3
            go_wp2
            go_ret2
            exact ⟨by rw [HR.out, HRR.out]; rfl, _, rfl⟩
          · have h1' : C.toNat ≤ 0 := by omega
            have cz : ((C.toNat : Int) == 0) = true := beq_iff_eq.2 (by omega)
            clear hlt h1
            go_wp2
            go_quiet (fail)
            go_wp2
            go_quiet (fail)
            clear hs1 hs3
            go_wp2
            all_goals
              go_ret2
              exact ⟨by rw [HR.out, HRR.out]; rfl, _, rfl⟩
        · have hpc := piece i u C.toNat hi10 hC hb HSF.out.1
          have E1 := hpc.1
          have HU : Hid (u + (C.toNat % 128) * 2 ^ (7 * i) < 18446744073709551616) := hide hpc.2.1
          have HN : Hid (i ≤ 8 → u + (C.toNat % 128) * 2 ^ (7 * i) < 2 ^ (7 * (i + 1))) := hide hpc.2.2
          clear hpc
          by_cases hlast : C.toNat < 128
          · have HRR : Hid (R = some (u + (C.toNat % 128) * 2 ^ (7 * i), i + 1)) := hide (by
              have h2 := HSF.out.2
              rw [HST.out, parse_last hi10 hb hlast] at h2
              rw [← h2, Nat.mod_eq_of_lt hlast])
            clear HN
            generalize u + (C.toNat % 128) * 2 ^ (7 * i) = U at E1 HU HRR
            have hodd := odd_one U HU.out
            by_cases hp : U % 2 = 1
            · rw [decide_eq_true hp] at hodd
              have HF : Hid (bits .xor .i64 (-1) (wrap64 ((U : Int) / 2)) = unzz U) := hide (half_odd U HU.out hp)
              clear hp
              by_cases h9 : 9 ≤ i
              · have hc1 : C.toNat ≤ 1 := by
                  rcases Nat.lt_or_ge 1 C.toNat with h | h
                  · exact absurd (.inl ⟨by omega, h⟩) hb
                  · exact h
                have hc0 : 1 ≤ C.toNat := by
                  rcases Nat.eq_zero_or_pos C.toNat with h | h
                  · exact absurd (.inr ⟨by omega, h⟩) hb
                  · exact h
                clear hb
                have cz : ((C.toNat : Int) == 0) = false := beq_eq_false_iff_ne.2 (by omega)
                have hi9 : i = 9 := by omega
                rw [hi9, show (2 : Int) ^ (7 * 9) = 9223372036854775808 by decide] at E1
                clear hi9
                go_wp2
                go_quiet (fail)
                go_wp2
                go_quiet (fail)
                clear hs1 hs3
                go_wp2
                obtain rfl : i = 9 := by omega
                go_ret2
                refine ⟨?_, _, rfl⟩
                rw [HR.out, HRR.out]
                show _ = Ending.returned (.tuple #[.int .i64 (unzz U), .int .i64 ((9 + 1 : Nat) : Int)])
                rw [← HF.out]
                rfl
              · by_cases h0 : i ≤ 0
                · clear hb
                  go_wp2
                  go_quiet (fail)
                  go_wp2
                  go_quiet (fail)
                  clear hs1 hs3
                  go_wp2
                  go_ret2
                  refine ⟨?_, _, rfl⟩
                  rw [HR.out, HRR.out]
                  show _ = Ending.returned (.tuple #[.int .i64 (unzz U), .int .i64 ((i + 1 : Nat) : Int)])
                  rw [← HF.out]
                  rfl
                · have hc0 : 1 ≤ C.toNat := by
                    rcases Nat.eq_zero_or_pos C.toNat with h | h
                    · exact absurd (.inr ⟨by omega, h⟩) hb
                    · exact h
                  clear hb
                  have cz : ((C.toNat : Int) == 0) = false := beq_eq_false_iff_ne.2 (by omega)
                  go_wp2
                  go_quiet (fail)
                  go_wp2
                  go_quiet (fail)
                  clear hs1 hs3
                  go_wp2
                  go_ret2
                  refine ⟨?_, _, rfl⟩
                  rw [HR.out, HRR.out]
                  show _ = Ending.returned (.tuple #[.int .i64 (unzz U), .int .i64 ((i + 1 : Nat) : Int)])
                  rw [← HF.out]
                  rfl
            · rw [decide_eq_false hp] at hodd
              have HF : Hid (wrap64 ((U : Int) / 2) = unzz U) := hide (half_even U HU.out hp)
              clear hp
              by_cases h9 : 9 ≤ i
              · have hc1 : C.toNat ≤ 1 := by
                  rcases Nat.lt_or_ge 1 C.toNat with h | h
                  · exact absurd (.inl ⟨by omega, h⟩) hb
                  · exact h
                have hc0 : 1 ≤ C.toNat := by
                  rcases Nat.eq_zero_or_pos C.toNat with h | h
                  · exact absurd (.inr ⟨by omega, h⟩) hb
                  · exact h
                clear hb
                have cz : ((C.toNat : Int) == 0) = false := beq_eq_false_iff_ne.2 (by omega)
                have hi9 : i = 9 := by omega
                rw [hi9, show (2 : Int) ^ (7 * 9) = 9223372036854775808 by decide] at E1
                clear hi9
                go_wp2
                go_quiet (fail)
                go_wp2
                go_quiet (fail)
                clear hs1 hs3
                go_wp2
                obtain rfl : i = 9 := by omega
                go_ret2
                refine ⟨?_, _, rfl⟩
                rw [HR.out, HRR.out]
                show _ = Ending.returned (.tuple #[.int .i64 (unzz U), .int .i64 ((9 + 1 : Nat) : Int)])
                rw [← HF.out]
                rfl
              · by_cases h0 : i ≤ 0
                · clear hb
                  go_wp2
                  go_quiet (fail)
                  go_wp2
                  go_quiet (fail)
                  clear hs1 hs3
                  go_wp2
                  go_ret2
                  refine ⟨?_, _, rfl⟩
                  rw [HR.out, HRR.out]
                  show _ = Ending.returned (.tuple #[.int .i64 (unzz U), .int .i64 ((i + 1 : Nat) : Int)])
                  rw [← HF.out]
                  rfl
                · have hc0 : 1 ≤ C.toNat := by
                    rcases Nat.eq_zero_or_pos C.toNat with h | h
                    · exact absurd (.inr ⟨by omega, h⟩) hb
                    · exact h
                  clear hb
                  have cz : ((C.toNat : Int) == 0) = false := beq_eq_false_iff_ne.2 (by omega)
                  go_wp2
                  go_quiet (fail)
                  go_wp2
                  go_quiet (fail)
                  clear hs1 hs3
                  go_wp2
                  go_ret2
                  refine ⟨?_, _, rfl⟩
                  rw [HR.out, HRR.out]
                  show _ = Ending.returned (.tuple #[.int .i64 (unzz U), .int .i64 ((i + 1 : Nat) : Int)])
                  rw [← HF.out]
                  rfl
          · have h9 : ¬ 9 ≤ i := fun h => hb (.inl ⟨by omega, by omega⟩)
            have HRN : Hid (SoFar l at_ (i + 1) (u + (C.toNat % 128) * 2 ^ (7 * i)) R) := hide ⟨HN.out (by omega), by
              have h2 := HSF.out.2
              rw [HST.out, parse_more hi10 hb hlast] at h2
              rw [← h2, show at_ + i + 1 = at_ + (i + 1) by omega]⟩
            have h1 : 1 ≤ C.toNat := by omega
            have cz : ((C.toNat : Int) == 0) = false := beq_eq_false_iff_ne.2 (by omega)
            clear HN
            generalize u + (C.toNat % 128) * 2 ^ (7 * i) = U at E1 HU HRN
            go_wp2
            go_quiet (fail)
            go_wp2
            go_quiet (fail)
            clear hs1 hs3
            go_wp2
            all_goals
              go_roundw
              case rel => exact ⟨i + 1, U, _, by omega, by go_num, rfl, HRN.out, rfl⟩
              case measure => simp [intOf]; omega
      · have hs4 : ¬ (at_ : Int) + (i : Int) < (l.length : Int) := by omega
        have HRR : Hid (R = none) := hide (by rw [← HSF.out.2]; exact parse_end (.inr (List.drop_of_length_le (by omega))))
        clear h5
        go_wp2
        go_quiet (fail)
        clear hs1 hs3
        go_wp2
        go_ret2
        exact ⟨by rw [HR.out, HRR.out]; rfl, n + nq, World.drewN_drewN w n nq⟩
    · have hd : decide ((i : Int) < 10) = false := decide_eq_false (by omega)
      have HRR : Hid (R = none) := hide (by rw [← HSF.out.2]; exact parse_end (.inl (by omega)))
      clear h5
      go_wp2
      go_quiet (fail)
      go_wp2
      go_ret2
      exact ⟨by rw [HR.out, HRR.out]; rfl, n + nq, World.drewN_drewN w n nq⟩
end Go.Proofs.Ytinlnfhicnejmaa
