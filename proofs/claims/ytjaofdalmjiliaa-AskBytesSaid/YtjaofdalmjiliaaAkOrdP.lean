/-
  OWNED ROWS IN UNLIKE BLOCKS; a list without one place; what the walk of AskBytes needs besides.
  What AskBytes's two changed requests need: a bag put in one place; bytes of requests that are unlike.
-/
import Derived.Test.YtjaofdalmjiliaaAkPut
import Derived.Deep.LoopGhost
import Derived.Test.YtjaofdalmjiliaaAskWithW
namespace Go.Proofs.Ytjaofdalmjiliaa
open Go.RowKit
set_option linter.unusedVariables false

/-- An owned row stays where only what comes behind it is written. -/
theorem own_stay {w w' : World} {base : Nat} {e : TypeId} {size n : Nat} {v : Value} {xs : List Value} {B : Nat} (h : w.ownsRow base e size v n xs) (hb : Below B w w') (hB : w.heap.size ≤ B) : w'.ownsRow base e size v n xs := by
  refine ⟨h.1, ?_⟩
  rcases h.2 with h' | ⟨g, cap, cur, hv, hg, hh, r⟩
  · exact .inl h'
  · have hlt := (Array.getElem?_eq_some_iff.1 hh).1
    exact .inr ⟨g, cap, cur, hv, hg, (hb.block g (by omega)).trans hh, r⟩
theorem own_lt {w : World} {base : Nat} {e : TypeId} {size n : Nat} {v : Value} {xs : List Value} (h : w.ownsRow base e size v n xs) : ∀ k, v.ownBlock = some k → base ≤ k ∧ k < w.heap.size := fun k hk => h.lt k hk
/-- Out of a row that is not empty. -/
theorem own_some {w : World} {base : Nat} {e : TypeId} {size n : Nat} {v : Value} {xs : List Value} (h : w.ownsRow base e size v n xs) (hn : 0 < n) : ∃ g cap, v = .slice (some ⟨g, 0, none⟩) n cap ∧ n ≤ cap ∧ cap ≤ maxLen ∧ base ≤ g ∧ g < w.heap.size := by
  rcases h.2 with ⟨rfl, hx⟩ | ⟨g, cap, cur, rfl, hg0, hg, hnc, hcm, _⟩
  · have := h.1; subst hx
    exfalso
    have h2 := own_slice h
    obtain ⟨A, c, e1, h3, _⟩ := h2
    injection e1 with _ e2 _
    omega
  · exact ⟨g, cap, rfl, hnc, hcm, hg0, (Array.getElem?_eq_some_iff.1 hg).1⟩
theorem own_apart {w w' : World} {b b' : Nat} {e e' : TypeId} {s s' n m : Nat} {v u : Value} {xs ys : List Value} (h : w.ownsRow b e s v n xs) (h' : w'.ownsRow b' e' s' u m ys) (hB : w.heap.size ≤ b') : v.ownBlock = none ∨ v.ownBlock ≠ u.ownBlock := by
  cases hv : v.ownBlock with
  | none => exact .inl rfl
  | some k =>
    refine .inr fun e0 => ?_
    have h1 := (h.lt k hv).2
    have h2 := (h'.lt k e0.symm).1
    omega
def Apart (t v : Value) : Prop := t.ownBlock = none ∨ t.ownBlock ≠ v.ownBlock
theorem Apart.back {t : Value} {g : Nat} {n c : Nat} (h : Apart t (.slice (some ⟨g, 0, none⟩) n c)) : (Value.slice (some ⟨g, 0, none⟩) n c).ownBlock = none ∨ (Value.slice (some ⟨g, 0, none⟩) n c).ownBlock ≠ t.ownBlock := by
  rcases h with h | h
  · rw [h]; exact .inr (by simp [Value.ownBlock])
  · exact .inr (Ne.symm h)
theorem perm_at {α : Type} (T L l : List α) (k : Nat) (hk : k < L.length) (h : (T ++ L).Perm l) : ((T ++ [L[k]]) ++ (L.take k ++ L.drop (k + 1))).Perm l := by
  refine List.Perm.trans ?_ h
  rw [List.append_assoc]
  refine List.Perm.append_left T ?_
  have : L.Perm ([L[k]] ++ (L.take k ++ L.drop (k + 1))) := by
    conv => lhs; rw [← List.take_append_drop k L, List.drop_eq_getElem_cons hk]
    exact List.perm_middle
  exact this.symm
theorem Sl.drop {w : World} {B b off : Nat} {xs : List Value} (h : Sl w B (some ⟨b, off, none⟩) xs) (k : Nat) : Sl w B (some ⟨b, off + k, none⟩) (xs.drop k) := fun hn => by
  obtain ⟨b', off', e, hb, hc⟩ := h (by rintro rfl; simp at hn)
  injection e with e
  injection e with e1 e2
  subst e1 e2
  refine ⟨b, off + k, rfl, hb, fun i x hx => ?_⟩
  rw [List.getElem?_drop] at hx
  rw [show off + k + i = off + (k + i) by omega]
  exact hc _ x hx
theorem Sl.int {w : World} {B : Nat} {a : Option Addr} {l : List Int} {i : Nat} (h : Sl w B a (vints .i64 l)) (hi : i < l.length) :
    ∃ b off, a = some ⟨b, off, none⟩ ∧ b < B ∧ w.cell? ⟨b, off + i, none⟩ = some (.int .i64 l[i]) :=
  h.at (by simp [vints, hi])
theorem cells3_drop : ∀ (l : List (Value × Value × Value)) (n : Nat), (cells3 l).drop (n * 3) = cells3 (l.drop n)
  | l, 0 => by simp
  | [], n + 1 => by simp [cells3]
  | x :: l, n + 1 => by
    rw [show (n + 1) * 3 = n * 3 + 3 by omega]
    show (cells3 l).drop (n * 3) = _
    rw [cells3_drop l n]
    rfl
theorem cellsG_take (l : List Gm) (n : Nat) : (cellsG l).take (n * 3) = cellsG (l.take n) := by unfold cellsG; rw [cells3_take, List.map_take]
theorem cellsG_drop (l : List Gm) (n : Nat) : (cellsG l).drop (n * 3) = cellsG (l.drop n) := by unfold cellsG; rw [cells3_drop, List.map_drop]
def keyG (y : Gv) : Int × ByteArray := (y.1, y.2.1)
theorem right_keys (l : List Gv) : rightG l = 0 ↔ l.length ≤ 64 ∧ (∀ y ∈ l, fitG y = true) ∧ (l.map keyG).Pairwise (· ≠ ·) := by
  rw [right_iff]
  constructor
  · rintro ⟨h1, h2, h3⟩
    refine ⟨h1, fun y hy => by obtain ⟨i, hi, rfl⟩ := List.getElem_of_mem hy; exact h2 i hi, List.pairwise_iff_getElem.2 fun i j hi hj hij e => ?_⟩
    rw [List.length_map] at hi hj
    simp only [List.getElem_map, keyG, Prod.mk.injEq] at e
    have := h3 i j hi hj e.1 e.2
    omega
  · rintro ⟨h1, h2, h3⟩
    have key : ∀ i j (hi : i < l.length) (hj : j < l.length), i < j → l[i].1 = l[j].1 → l[i].2.1 = l[j].2.1 → False := fun i j hi hj hij e1 e2 => by
      have := List.pairwise_iff_getElem.1 h3 i j (by rw [List.length_map]; exact hi) (by rw [List.length_map]; exact hj) hij
      simp only [List.getElem_map, keyG, ne_eq, Prod.mk.injEq] at this
      exact this ⟨e1, e2⟩
    refine ⟨h1, fun i hi => h2 _ (List.getElem_mem hi), fun i j hi hj e1 e2 => ?_⟩
    rcases Nat.lt_trichotomy i j with h | h | h
    · exact (key i j hi hj h e1 e2).elim
    · exact h
    · exact (key j i hj hi h e1.symm e2.symm).elim
theorem right_perm {l m : List Gv} (h : rightG l = 0) (hp : m.Perm l) : rightG m = 0 := by
  obtain ⟨h1, h2, h3⟩ := (right_keys l).1 h
  exact (right_keys m).2 ⟨by rw [hp.length_eq]; exact h1, fun y hy => h2 y (hp.mem_iff.1 hy), (List.Perm.pairwise_iff (fun h => Ne.symm h) (hp.map keyG)).2 h3⟩
theorem put_turned {l T t u : List Gm} (h : rightG (gvs l) = 0) (hT : T.Perm l) (ht : Up t) (hu : Up u) (p1 : t.Perm l) (p2 : u.Perm T) : u = t := (sorted_unique h ht hu p1 (p2.trans hT)).symm
theorem sameB_refl (l : List UInt8) : sameB l l = true := (sameB_iff l l).2 rfl
/-- Where the loop that turns stands: so much is turned, so much is left. -/
def TurnRel (l : List Gm) (w0 : World) (g : Nat) (t v i : Value) (wr : World) : Prop :=
  ∃ (T L : List Gm) (i0 : Nat), L.length = g ∧ i = .int .i64 i0 ∧ i0 + L.length = l.length ∧ wr.ownsRow w0.heap.size 40 3 t T.length (cellsG T) ∧ wr.ownsRow w0.heap.size 40 3 v L.length (cellsG L) ∧ Apart t v ∧ (T ++ L).Perm l ∧ Below w0.heap.size w0 wr
def KMid (wr : World) (n : Nat) (v : Value) (wx : World) : Prop := ∃ K : Nat, K < n ∧ v = .int .i64 K ∧ wx = wr
/-- Of two right requests with the same bytes both have as many, and the same bags. -/
theorem put_other {l o t u : List Gm} (hl : rightG (gvs l) = 0) (ho : rightG (gvs o) = 0) (gl : ∀ y ∈ gvs l, GvOk y) (go_ : ∀ y ∈ gvs o, GvOk y) (pt : t.Perm l) (pu : u.Perm o) (h : askP (gvs u) = askP (gvs t)) : (gvs o).Perm (gvs l) := by
  have e : gvs u = gvs t := askP_inj (fun y hy => fitR_of ho go_ y ((pu.map Gm.gv).mem_iff.1 hy)) (fun y hy => fitR_of hl gl y ((pt.map Gm.gv).mem_iff.1 hy)) (by rw [gvs_len, pu.length_eq, ← gvs_len]; exact ((right_ok _).1 ho).1) (by rw [gvs_len, pt.length_eq, ← gvs_len]; exact ((right_ok _).1 hl).1) h
  have h1 : (gvs u).Perm (gvs o) := pu.map Gm.gv
  have h2 : (gvs t).Perm (gvs l) := pt.map Gm.gv
  rw [e] at h1
  exact h1.symm.trans h2
def bagSum (l : List Gv) : Nat := (l.map (fun y => y.2.2.length)).sum
theorem bagSum_perm {l m : List Gv} (h : l.Perm m) : bagSum l = bagSum m := (h.map _).sum_nat
theorem bagSum_set (l : List Gv) : ∀ (k : Nat) (hk : k < l.length) (y : Gv), bagSum (l.set k y) + l[k].2.2.length = bagSum l + y.2.2.length := by
  induction l with
  | nil => intro k hk; simp at hk
  | cons x l ih =>
    intro k hk y
    cases k with
    | zero => simp only [List.set_cons_zero, List.getElem_cons_zero, bagSum, List.map_cons, List.sum_cons]; omega
    | succ k =>
      have := ih k (by simpa using hk) y
      simp only [List.set_cons_succ, List.getElem_cons_succ, bagSum, List.map_cons, List.sum_cons] at this ⊢
      omega
end Go.Proofs.Ytjaofdalmjiliaa
namespace Go.Proofs.Ytjaofdalmjiliaa
open Go.RowKit
set_option linter.unusedVariables false

theorem NewReq.reqAt {w : World} {B n c : Nat} {A : Option Addr} {l : List Gm} (h : NewReq w B (.slice A n c) l) (hl : ∀ x ∈ gvs l, GvOk x) : Req w w.heap.size A l := by
  obtain ⟨A', c', e, hr⟩ := h.req hl
  injection e with e1 _ _
  rw [e1]; exact hr
theorem set_self {α : Type} {xs : List α} {i : Nat} {x : α} (h : xs[i]? = some x) : xs.set i x = xs := by
  obtain ⟨hi, rfl⟩ := List.getElem?_eq_some_iff.1 h
  exact List.set_getElem_self hi
theorem cellsG_set2 (y : Gm) (l : List Gm) (i : Nat) (hi : i < l.length) (hc : y.cat = l[i].cat) (hn : y.name = l[i].name) : (cellsG l).set (i * 3 + 2) (.slice y.at_ y.bag.length y.cap) = cellsG (l.set i y) := by
  obtain ⟨e0, e1, _⟩ := cells3_map_at gcell (l := l) hi
  have h := cellsG_set3 y l i hi
  rw [hc, hn] at h
  have e0' : (cellsG l)[i * 3]? = some (.int .i64 l[i].cat) := e0
  have e1' : (cellsG l)[i * 3 + 1]? = some (.string l[i].name) := e1
  rw [set_self e0', set_self e1'] at h
  exact h
theorem NewReq.put2 {w : World} {B g c n i : Nat} {l : List Gm} {y : Gm} (h : NewReq w B (.slice (some ⟨g, 0, none⟩) n c) l) (hi : i < l.length) (hc : y.cat = l[i].cat) (hn' : y.name = l[i].name) (hy : NewG w B y) :
    NewReq (w.setCell ⟨g, i * 3 + 2, none⟩ (.slice y.at_ y.bag.length y.cap)) B (.slice (some ⟨g, 0, none⟩) n c) (l.set i y) := by
  have hn : n = l.length := by obtain ⟨_, _, e, _⟩ := h.block hi; exact e
  subst hn
  have hown := h.1
  have h3 := hown.stored (i * 3 + 2) (.slice y.at_ y.bag.length y.cap)
  have hk : ∀ {x : Gm}, NewG w B x → NewG (w.setCell ⟨g, i * 3 + 2, none⟩ (.slice y.at_ y.bag.length y.cap)) B x := fun {x} hx => World.ownsRow.kept hx h3.2 (own_ne hx hown (by decide))
  refine ⟨?_, fun x hx => ?_⟩
  · rw [List.length_set, ← cellsG_set2 y l i hi hc hn']
    exact h3.1
  · rcases List.mem_or_eq_of_mem_set hx with hx | rfl
    · exact hk (h.2 x hx)
    · exact hk hy
/-- Behind the bag's two appends and its store. -/
theorem bag_stored {w w8 w5 : World} {B g n c K : Nat} {o : List Gm} {v : V3} {A5 : Option Addr} {c5 m : Nat} (hq : NewReq w8 B (.slice (some ⟨g, 0, none⟩) n c) o) (hB : B ≤ w8.heap.size) (hw : Below B w w8) (hK : K < o.length) (hm : m = o[K].bag.length) (hb : Below w8.heap.size w8 w5) (hown : w5.ownsRow w8.heap.size 35 3 (.slice A5 (m + 1) c5) (m + 1) (cellsV o[K].bag ++ cellsV [v])) :
    NewReq (w5.setCell ⟨g, K * 3 + 2, none⟩ (.slice A5 (m + 1) c5)) B (.slice (some ⟨g, 0, none⟩) n c) (o.set K ⟨o[K].cat, o[K].name, A5, c5, o[K].bag ++ [v]⟩) ∧ Below B w (w5.setCell ⟨g, K * 3 + 2, none⟩ (.slice A5 (m + 1) c5)) := by
  subst hm
  have hl : (o[K].bag ++ [v]).length = o[K].bag.length + 1 := by simp
  obtain ⟨g', e, _, hg, _⟩ := hq.block hK
  injection e with e; injection e with e _ _; subst e
  refine ⟨?_, (hw.trans (hb.mono hB)).setCell hg _⟩
  have hy : NewG w5 B ⟨o[K].cat, o[K].name, A5, c5, o[K].bag ++ [v]⟩ := by
    unfold NewG
    simp only [hl, cellsV_append]
    exact own_base hown hB
  have := (hq.keep hb).put2 (i := K) (y := ⟨o[K].cat, o[K].name, A5, c5, o[K].bag ++ [v]⟩) hK rfl rfl hy
  simp only [hl] at this
  exact this
theorem gvs_get (l : List Gm) (i : Nat) (hi : i < l.length) : (gvs l)[i]'(by rw [gvs_len]; exact hi) = l[i].gv := by unfold gvs; exact List.getElem_map _
/-- One value more in a bag. -/
theorem more_bag {l o : List Gm} {K : Nat} {v : V3} {A : Option Addr} {c : Nat} (ho : gvs o = gvs l) (hl : ∀ y ∈ gvs l, GvOk y) (hK : K < o.length) (hv : VOk v) :
    (∀ y ∈ gvs (o.set K ⟨o[K].cat, o[K].name, A, c, o[K].bag ++ [v]⟩), GvOk y) ∧ ¬ (gvs (o.set K ⟨o[K].cat, o[K].name, A, c, o[K].bag ++ [v]⟩)).Perm (gvs l) := by
  have hok : GvOk o[K].gv := hl _ (by rw [← ho]; exact List.mem_map_of_mem (List.getElem_mem hK))
  constructor
  · intro y hy
    rw [gvs_set] at hy
    rcases List.mem_or_eq_of_mem_set hy with hy | rfl
    · rw [ho] at hy; exact hl y hy
    · refine ⟨hok.1, hok.2.1, fun u hu => ?_⟩
      rcases List.mem_append.1 hu with hu | hu
      · exact hok.2.2 u hu
      · rw [List.mem_singleton] at hu; subst hu; exact hv
  · intro hp
    have h1 := bagSum_perm hp
    have h2 := bagSum_set (gvs o) K (by rw [gvs_len]; exact hK) (⟨o[K].cat, o[K].name, A, c, o[K].bag ++ [v]⟩ : Gm).gv
    rw [gvs_get o K hK] at h2
    rw [gvs_set, ] at h1
    rw [ho] at h1 h2
    have h3 : (⟨o[K].cat, o[K].name, A, c, o[K].bag ++ [v]⟩ : Gm).gv.2.2.length = o[K].gv.2.2.length + 1 := by show (o[K].bag ++ [v]).length = o[K].bag.length + 1; simp
    omega
/-- One attribute more. -/
theorem more_given {l m : List Gm} {g : Gm} (hm : gvs m = gvs l) (hl : ∀ y ∈ gvs l, GvOk y) (hg : GvOk g.gv) :
    (∀ y ∈ gvs (m ++ [g]), GvOk y) ∧ ¬ (gvs (m ++ [g])).Perm (gvs l) := by
  rw [gvs_append, hm]
  constructor
  · intro y hy
    rcases List.mem_append.1 hy with hy | hy
    · exact hl y hy
    · have : y = g.gv := by simpa [gvs] using hy
      rw [this]; exact hg
  · intro hp
    have := hp.length_eq
    rw [List.length_append] at this
    have h1 : (gvs [g]).length = 1 := rfl
    omega
/-- Unlike requests are put unlike. -/
theorem put_unlike {l o t u : List Gm} (hl : rightG (gvs l) = 0) (ho : rightG (gvs o) = 0) (gl : ∀ y ∈ gvs l, GvOk y) (go_ : ∀ y ∈ gvs o, GvOk y) (hn : ¬ (gvs o).Perm (gvs l)) (pt : t.Perm l) (pu : u.Perm o) : sameB (askP (gvs u)) (askP (gvs t)) = false := by
  rw [Bool.eq_false_iff]
  intro e
  exact hn (put_other hl ho gl go_ pt pu ((sameB_iff _ _).1 e))
/-- A put request is short. -/
theorem put_short {l t : List Gm} (hl : rightG (gvs l) = 0) (gl : ∀ y ∈ gvs l, GvOk y) (pt : t.Perm l) : (askP (gvs t)).length ≤ 100000 :=
  askP_short (fun y hy => fits_of hl gl y ((pt.map Gm.gv).mem_iff.1 hy)) (by rw [gvs_len, pt.length_eq, ← gvs_len]; exact ((right_ok _).1 hl).1)
/-- The row and the value of a bag's two appends, in the orders in which they may be made. -/
abbrev oE : Obj := .cells #[] 35
abbrev oV (v0 v1 : Int) (S : ByteArray) : Obj := .cells #[.int .i64 v0, .int .i64 v1, .string S] 35
theorem madeE (w : World) : (w.alloc oE).ownsRow w.heap.size 35 3 (.slice (some ⟨w.heap.size, 0, none⟩) 0 0) 0 [] := World.ownsRow_made w #[] 0 (Nat.le_refl _) (by simp [maxLen]) rfl
theorem madeVE (w : World) (v0 v1 : Int) (S : ByteArray) : ((w.alloc (oV v0 v1 S)).alloc oE).ownsRow w.heap.size 35 3 (.slice (some ⟨w.heap.size + 1, 0, none⟩) 0 0) 0 [] := by
  have h : (w.alloc (oV v0 v1 S)).heap.size = w.heap.size + 1 := by simp
  have := World.ownsRow_made (base := w.heap.size) (e := 35) (size := 3) (w.alloc (oV v0 v1 S)) #[] 0 (by omega) (by simp [maxLen]) rfl
  rwa [h] at this
theorem sl_block {w : World} {b : Nat} {cs : Array Value} {t : TypeId} {m : Nat × Nat} (h : w.heap[b]? = some (.cells cs t m)) : Sl w w.heap.size (some ⟨b, 0, none⟩) cs.toList := fun _ =>
  ⟨b, 0, rfl, (Array.getElem?_eq_some_iff.1 h).1, fun i x hx => by
    rw [Nat.zero_add]
    simp [World.cell?, h]
    simpa using hx⟩
theorem valVE {w w4 : World} {v0 v1 : Int} {S : ByteArray} (hg : ((w.alloc (oV v0 v1 S)).alloc oE).grownBy w4 (some (w.heap.size + 1))) : Sl w4 w4.heap.size (some ⟨w.heap.size, 0, none⟩) (cellsV [(v0, v1, S)]) :=
  sl_block ((hg.block w.heap.size (by simp; omega) (by simp)).trans ((heap_alloc_old _ _ (by simp)).trans (heap_alloc_new w _)))
theorem valEV {w w4 : World} {v0 v1 : Int} {S : ByteArray} (hg : ((w.alloc oE).alloc (oV v0 v1 S)).grownBy w4 (some w.heap.size)) : Sl w4 w4.heap.size (some ⟨w.heap.size + 1, 0, none⟩) (cellsV [(v0, v1, S)]) := by
  have h := heap_alloc_new (w.alloc oE) (oV v0 v1 S)
  rw [show (w.alloc oE).heap.size = w.heap.size + 1 by simp] at h
  exact sl_block ((hg.block (w.heap.size + 1) (by simp) (by simp)).trans h)
theorem valLast (w : World) (v0 v1 : Int) (S : ByteArray) : Sl (w.alloc (oV v0 v1 S)) (w.alloc (oV v0 v1 S)).heap.size (some ⟨w.heap.size, 0, none⟩) (cellsV [(v0, v1, S)]) := sl_block (heap_alloc_new w _)
end Go.Proofs.Ytjaofdalmjiliaa
