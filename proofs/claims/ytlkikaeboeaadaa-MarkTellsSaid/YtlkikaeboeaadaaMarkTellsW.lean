/-
  THE WALK OF bailifflaw4.MarkTells: it returns true; nothing turns.
-/
import Derived.Test.YtlkikaeboeaadaaMarkRef
namespace Go.Proofs.Ytlkikaeboeaadaa
open Go.RowKit
set_option linter.unusedVariables false

set_option maxHeartbeats 4000000 in
theorem tells_core (n m k l : Int) (a1 a2 b1 b2 i1 i2 t1 t2 j1 j2 o1 o2 : Nat) (R E0 E1 E2 E3 E4 E5 : Bool) (Na : ByteArray) (w : World)
    (h1 : Hid (Ans 23 #[.int .i64 n, .int .i64 m] (.complex .f64 a1 a2)))
    (h2 : Hid (Ans 23 #[.int .i64 k, .int .i64 l] (.complex .f64 b1 b2)))
    (r1 : Hid (Ans 22 #[(.complex .f64 a1 a2)] (.bool R)))
    (r2 : Hid (Ans 24 #[(.complex .f64 a1 a2)] (.bool R)))
    (hn : Hid (Ans 20 #[(.complex .f64 a1 a2)] (.string Na)))
    (ih1 : Hid (Ans 25 #[(.complex .f64 a1 a2)] (.complex .f64 i1 i2)))
    (ih2 : Hid (Ans 26 #[(.complex .f64 a1 a2)] (.complex .f64 i1 i2)))
    (th1 : Hid (Ans 19 #[(.complex .f64 a1 a2)] (.complex .f64 t1 t2)))
    (th2 : Hid (Ans 27 #[(.complex .f64 a1 a2)] (.complex .f64 t1 t2)))
    (j1h : Hid (Ans 17 #[(.complex .f64 a1 a2), (.complex .f64 b1 b2)] (.complex .f64 j1 j2)))
    (j2h : Hid (Ans 28 #[(.complex .f64 a1 a2), (.complex .f64 b1 b2)] (.complex .f64 j1 j2)))
    (o1h : Hid (Ans 18 #[(.complex .f64 a1 a2)] (.complex .f64 o1 o2)))
    (o2h : Hid (Ans 29 #[(.complex .f64 a1 a2)] (.complex .f64 o1 o2)))
    (e0 : ((FloatKind.f64.format.order a1 0 == some .eq) && (FloatKind.f64.format.order a2 0 == some .eq)) = E0)
    (e1 : ((FloatKind.f64.format.order a1 4607182418800017408 == some .eq) && (FloatKind.f64.format.order a2 0 == some .eq)) = E1)
    (e2 : ((FloatKind.f64.format.order a1 0 == some .eq) && (FloatKind.f64.format.order a2 4607182418800017408 == some .eq)) = E2)
    (e3 : ((FloatKind.f64.format.order a1 4602678819172646912 == some .eq) && (FloatKind.f64.format.order a2 0 == some .eq)) = E3)
    (e4 : ((FloatKind.f64.format.order a1 0 == some .eq) && (FloatKind.f64.format.order a2 4602678819172646912 == some .eq)) = E4)
    (e5 : ((FloatKind.f64.format.order a1 4602678819172646912 == some .eq) && (FloatKind.f64.format.order a2 4602678819172646912 == some .eq)) = E5)
    (si1 : (FloatKind.f64.format.order i1 i1 == some .eq) = true)
    (si2 : (FloatKind.f64.format.order i2 i2 == some .eq) = true)
    (st1 : (FloatKind.f64.format.order t1 t1 == some .eq) = true)
    (st2 : (FloatKind.f64.format.order t2 t2 == some .eq) = true)
    (sj1 : (FloatKind.f64.format.order j1 j1 == some .eq) = true)
    (sj2 : (FloatKind.f64.format.order j2 j2 == some .eq) = true)
    (so1 : (FloatKind.f64.format.order o1 o1 == some .eq) = true)
    (so2 : (FloatKind.f64.format.order o2 o2 == some .eq) = true)
    (hN : Na = (bif E0 then ⟨#[78, 111, 116, 65, 112, 112, 108, 105, 99, 97, 98, 108, 101]⟩ else (bif E1 then ⟨#[80, 101, 114, 109, 105, 116]⟩ else (bif E2 then ⟨#[68, 101, 110, 121]⟩ else (bif E3 then ⟨#[73, 110, 100, 101, 116, 101, 114, 109, 105, 110, 97, 116, 101, 123, 80, 125]⟩ else (bif E4 then ⟨#[73, 110, 100, 101, 116, 101, 114, 109, 105, 110, 97, 116, 101, 123, 68, 125]⟩ else (bif E5 then ⟨#[73, 110, 100, 101, 116, 101, 114, 109, 105, 110, 97, 116, 101, 123, 68, 80, 125]⟩ else ⟨#[]⟩))))))) :
    Calls Try.prog 7 #[.int .i64 n, .int .i64 m, .int .i64 k, .int .i64 l] w fun e w' => e = .returned (.bool true) ∧ w = w' := by
  rcases E0 with _ | _
  rotate_left 1
  · obtain rfl : Na = ⟨#[78, 111, 116, 65, 112, 112, 108, 105, 99, 97, 98, 108, 101]⟩ := hN
    clear e1 e2 e3 e4 e5
    go_enter Try.func7, Try.ntmps7
    go_wp2_with fail
    refine (h1.out w).mono ?_
    rintro e w' ⟨rfl, rfl⟩
    go_wp2_with fail
    refine (h2.out w).mono ?_
    rintro e w' ⟨rfl, rfl⟩
    go_wp2_with fail
    refine (r1.out w).mono ?_
    rintro e w' ⟨rfl, rfl⟩
    go_wp2_with fail
    refine (r2.out w).mono ?_
    rintro e w' ⟨rfl, rfl⟩
    go_wp2_with fail
    refine (hn.out w).mono ?_
    rintro e w' ⟨rfl, rfl⟩
    go_wp2_with fail
    refine (ih1.out w).mono ?_
    rintro e w' ⟨rfl, rfl⟩
    go_wp2_with fail
    refine (ih2.out w).mono ?_
    rintro e w' ⟨rfl, rfl⟩
    go_wp2_with fail
    refine (th1.out w).mono ?_
    rintro e w' ⟨rfl, rfl⟩
    go_wp2_with fail
    refine (th2.out w).mono ?_
    rintro e w' ⟨rfl, rfl⟩
    go_wp2_with fail
    refine (j1h.out w).mono ?_
    rintro e w' ⟨rfl, rfl⟩
    go_wp2_with fail
    refine (j2h.out w).mono ?_
    rintro e w' ⟨rfl, rfl⟩
    go_wp2_with fail
    refine (o1h.out w).mono ?_
    rintro e w' ⟨rfl, rfl⟩
    go_wp2_with fail
    refine (o2h.out w).mono ?_
    rintro e w' ⟨rfl, rfl⟩
    go_wp2_with fail
    refine (markRuns_still w).mono ?_
    rintro e w' ⟨rfl, rfl⟩
    go_wp2
    go_ret
    exact ⟨rfl, rfl⟩
  rcases E1 with _ | _
  rotate_left 1
  · obtain rfl : Na = ⟨#[80, 101, 114, 109, 105, 116]⟩ := hN
    clear e2 e3 e4 e5
    go_enter Try.func7, Try.ntmps7
    go_wp2_with fail
    refine (h1.out w).mono ?_
    rintro e w' ⟨rfl, rfl⟩
    go_wp2_with fail
    refine (h2.out w).mono ?_
    rintro e w' ⟨rfl, rfl⟩
    go_wp2_with fail
    refine (r1.out w).mono ?_
    rintro e w' ⟨rfl, rfl⟩
    go_wp2_with fail
    refine (r2.out w).mono ?_
    rintro e w' ⟨rfl, rfl⟩
    go_wp2_with fail
    refine (hn.out w).mono ?_
    rintro e w' ⟨rfl, rfl⟩
    go_wp2_with fail
    refine (ih1.out w).mono ?_
    rintro e w' ⟨rfl, rfl⟩
    go_wp2_with fail
    refine (ih2.out w).mono ?_
    rintro e w' ⟨rfl, rfl⟩
    go_wp2_with fail
    refine (th1.out w).mono ?_
    rintro e w' ⟨rfl, rfl⟩
    go_wp2_with fail
    refine (th2.out w).mono ?_
    rintro e w' ⟨rfl, rfl⟩
    go_wp2_with fail
    refine (j1h.out w).mono ?_
    rintro e w' ⟨rfl, rfl⟩
    go_wp2_with fail
    refine (j2h.out w).mono ?_
    rintro e w' ⟨rfl, rfl⟩
    go_wp2_with fail
    refine (o1h.out w).mono ?_
    rintro e w' ⟨rfl, rfl⟩
    go_wp2_with fail
    refine (o2h.out w).mono ?_
    rintro e w' ⟨rfl, rfl⟩
    go_wp2_with fail
    refine (markRuns_still w).mono ?_
    rintro e w' ⟨rfl, rfl⟩
    go_wp2
    go_ret
    exact ⟨rfl, rfl⟩
  rcases E2 with _ | _
  rotate_left 1
  · obtain rfl : Na = ⟨#[68, 101, 110, 121]⟩ := hN
    clear e3 e4 e5
    go_enter Try.func7, Try.ntmps7
    go_wp2_with fail
    refine (h1.out w).mono ?_
    rintro e w' ⟨rfl, rfl⟩
    go_wp2_with fail
    refine (h2.out w).mono ?_
    rintro e w' ⟨rfl, rfl⟩
    go_wp2_with fail
    refine (r1.out w).mono ?_
    rintro e w' ⟨rfl, rfl⟩
    go_wp2_with fail
    refine (r2.out w).mono ?_
    rintro e w' ⟨rfl, rfl⟩
    go_wp2_with fail
    refine (hn.out w).mono ?_
    rintro e w' ⟨rfl, rfl⟩
    go_wp2_with fail
    refine (ih1.out w).mono ?_
    rintro e w' ⟨rfl, rfl⟩
    go_wp2_with fail
    refine (ih2.out w).mono ?_
    rintro e w' ⟨rfl, rfl⟩
    go_wp2_with fail
    refine (th1.out w).mono ?_
    rintro e w' ⟨rfl, rfl⟩
    go_wp2_with fail
    refine (th2.out w).mono ?_
    rintro e w' ⟨rfl, rfl⟩
    go_wp2_with fail
    refine (j1h.out w).mono ?_
    rintro e w' ⟨rfl, rfl⟩
    go_wp2_with fail
    refine (j2h.out w).mono ?_
    rintro e w' ⟨rfl, rfl⟩
    go_wp2_with fail
    refine (o1h.out w).mono ?_
    rintro e w' ⟨rfl, rfl⟩
    go_wp2_with fail
    refine (o2h.out w).mono ?_
    rintro e w' ⟨rfl, rfl⟩
    go_wp2_with fail
    refine (markRuns_still w).mono ?_
    rintro e w' ⟨rfl, rfl⟩
    go_wp2
    go_ret
    exact ⟨rfl, rfl⟩
  rcases E3 with _ | _
  rotate_left 1
  · obtain rfl : Na = ⟨#[73, 110, 100, 101, 116, 101, 114, 109, 105, 110, 97, 116, 101, 123, 80, 125]⟩ := hN
    clear e4 e5
    go_enter Try.func7, Try.ntmps7
    go_wp2_with fail
    refine (h1.out w).mono ?_
    rintro e w' ⟨rfl, rfl⟩
    go_wp2_with fail
    refine (h2.out w).mono ?_
    rintro e w' ⟨rfl, rfl⟩
    go_wp2_with fail
    refine (r1.out w).mono ?_
    rintro e w' ⟨rfl, rfl⟩
    go_wp2_with fail
    refine (r2.out w).mono ?_
    rintro e w' ⟨rfl, rfl⟩
    go_wp2_with fail
    refine (hn.out w).mono ?_
    rintro e w' ⟨rfl, rfl⟩
    go_wp2_with fail
    refine (ih1.out w).mono ?_
    rintro e w' ⟨rfl, rfl⟩
    go_wp2_with fail
    refine (ih2.out w).mono ?_
    rintro e w' ⟨rfl, rfl⟩
    go_wp2_with fail
    refine (th1.out w).mono ?_
    rintro e w' ⟨rfl, rfl⟩
    go_wp2_with fail
    refine (th2.out w).mono ?_
    rintro e w' ⟨rfl, rfl⟩
    go_wp2_with fail
    refine (j1h.out w).mono ?_
    rintro e w' ⟨rfl, rfl⟩
    go_wp2_with fail
    refine (j2h.out w).mono ?_
    rintro e w' ⟨rfl, rfl⟩
    go_wp2_with fail
    refine (o1h.out w).mono ?_
    rintro e w' ⟨rfl, rfl⟩
    go_wp2_with fail
    refine (o2h.out w).mono ?_
    rintro e w' ⟨rfl, rfl⟩
    go_wp2_with fail
    refine (markRuns_still w).mono ?_
    rintro e w' ⟨rfl, rfl⟩
    go_wp2
    go_ret
    exact ⟨rfl, rfl⟩
  rcases E4 with _ | _
  rotate_left 1
  · obtain rfl : Na = ⟨#[73, 110, 100, 101, 116, 101, 114, 109, 105, 110, 97, 116, 101, 123, 68, 125]⟩ := hN
    clear e5
    go_enter Try.func7, Try.ntmps7
    go_wp2_with fail
    refine (h1.out w).mono ?_
    rintro e w' ⟨rfl, rfl⟩
    go_wp2_with fail
    refine (h2.out w).mono ?_
    rintro e w' ⟨rfl, rfl⟩
    go_wp2_with fail
    refine (r1.out w).mono ?_
    rintro e w' ⟨rfl, rfl⟩
    go_wp2_with fail
    refine (r2.out w).mono ?_
    rintro e w' ⟨rfl, rfl⟩
    go_wp2_with fail
    refine (hn.out w).mono ?_
    rintro e w' ⟨rfl, rfl⟩
    go_wp2_with fail
    refine (ih1.out w).mono ?_
    rintro e w' ⟨rfl, rfl⟩
    go_wp2_with fail
    refine (ih2.out w).mono ?_
    rintro e w' ⟨rfl, rfl⟩
    go_wp2_with fail
    refine (th1.out w).mono ?_
    rintro e w' ⟨rfl, rfl⟩
    go_wp2_with fail
    refine (th2.out w).mono ?_
    rintro e w' ⟨rfl, rfl⟩
    go_wp2_with fail
    refine (j1h.out w).mono ?_
    rintro e w' ⟨rfl, rfl⟩
    go_wp2_with fail
    refine (j2h.out w).mono ?_
    rintro e w' ⟨rfl, rfl⟩
    go_wp2_with fail
    refine (o1h.out w).mono ?_
    rintro e w' ⟨rfl, rfl⟩
    go_wp2_with fail
    refine (o2h.out w).mono ?_
    rintro e w' ⟨rfl, rfl⟩
    go_wp2_with fail
    refine (markRuns_still w).mono ?_
    rintro e w' ⟨rfl, rfl⟩
    go_wp2
    go_ret
    exact ⟨rfl, rfl⟩
  rcases E5 with _ | _
  rotate_left 1
  · obtain rfl : Na = ⟨#[73, 110, 100, 101, 116, 101, 114, 109, 105, 110, 97, 116, 101, 123, 68, 80, 125]⟩ := hN
    go_enter Try.func7, Try.ntmps7
    go_wp2_with fail
    refine (h1.out w).mono ?_
    rintro e w' ⟨rfl, rfl⟩
    go_wp2_with fail
    refine (h2.out w).mono ?_
    rintro e w' ⟨rfl, rfl⟩
    go_wp2_with fail
    refine (r1.out w).mono ?_
    rintro e w' ⟨rfl, rfl⟩
    go_wp2_with fail
    refine (r2.out w).mono ?_
    rintro e w' ⟨rfl, rfl⟩
    go_wp2_with fail
    refine (hn.out w).mono ?_
    rintro e w' ⟨rfl, rfl⟩
    go_wp2_with fail
    refine (ih1.out w).mono ?_
    rintro e w' ⟨rfl, rfl⟩
    go_wp2_with fail
    refine (ih2.out w).mono ?_
    rintro e w' ⟨rfl, rfl⟩
    go_wp2_with fail
    refine (th1.out w).mono ?_
    rintro e w' ⟨rfl, rfl⟩
    go_wp2_with fail
    refine (th2.out w).mono ?_
    rintro e w' ⟨rfl, rfl⟩
    go_wp2_with fail
    refine (j1h.out w).mono ?_
    rintro e w' ⟨rfl, rfl⟩
    go_wp2_with fail
    refine (j2h.out w).mono ?_
    rintro e w' ⟨rfl, rfl⟩
    go_wp2_with fail
    refine (o1h.out w).mono ?_
    rintro e w' ⟨rfl, rfl⟩
    go_wp2_with fail
    refine (o2h.out w).mono ?_
    rintro e w' ⟨rfl, rfl⟩
    go_wp2_with fail
    refine (markRuns_still w).mono ?_
    rintro e w' ⟨rfl, rfl⟩
    go_wp2
    go_ret
    exact ⟨rfl, rfl⟩
  obtain rfl : Na = ⟨#[]⟩ := hN
  go_enter Try.func7, Try.ntmps7
  go_wp2_with fail
  refine (h1.out w).mono ?_
  rintro e w' ⟨rfl, rfl⟩
  go_wp2_with fail
  refine (h2.out w).mono ?_
  rintro e w' ⟨rfl, rfl⟩
  go_wp2_with fail
  refine (r1.out w).mono ?_
  rintro e w' ⟨rfl, rfl⟩
  go_wp2_with fail
  refine (r2.out w).mono ?_
  rintro e w' ⟨rfl, rfl⟩
  go_wp2_with fail
  refine (hn.out w).mono ?_
  rintro e w' ⟨rfl, rfl⟩
  go_wp2_with fail
  refine (ih1.out w).mono ?_
  rintro e w' ⟨rfl, rfl⟩
  go_wp2_with fail
  refine (ih2.out w).mono ?_
  rintro e w' ⟨rfl, rfl⟩
  go_wp2_with fail
  refine (th1.out w).mono ?_
  rintro e w' ⟨rfl, rfl⟩
  go_wp2_with fail
  refine (th2.out w).mono ?_
  rintro e w' ⟨rfl, rfl⟩
  go_wp2_with fail
  refine (j1h.out w).mono ?_
  rintro e w' ⟨rfl, rfl⟩
  go_wp2_with fail
  refine (j2h.out w).mono ?_
  rintro e w' ⟨rfl, rfl⟩
  go_wp2_with fail
  refine (o1h.out w).mono ?_
  rintro e w' ⟨rfl, rfl⟩
  go_wp2_with fail
  refine (o2h.out w).mono ?_
  rintro e w' ⟨rfl, rfl⟩
  go_wp2_with fail
  refine (markRuns_still w).mono ?_
  rintro e w' ⟨rfl, rfl⟩
  go_wp2
  go_ret
  exact ⟨rfl, rfl⟩
end Go.Proofs.Ytlkikaeboeaadaa
