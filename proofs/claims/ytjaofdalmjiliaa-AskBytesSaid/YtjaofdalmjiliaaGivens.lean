/-
  ARGUMENTS OPENED: a request (a slice of structs that hold a slice of structs), one of its attributes, a value, an attribute asked for. Over whatever program. No condition.
-/
import Derived.Test.YtjaofdalmjiliaaAskP
import Derived.Lib.SmallJoins
namespace Go.Proofs.Ytjaofdalmjiliaa
open Go.ChangeShapes Go.WideShapes Go.ChangeAt Go.RowKit Go.Deep
open Go.ChangeMaps (open_string shut_string)

/-- A value's cells. -/
def vcell (v : V3) : Value × Value × Value := (.int .i64 v.1, .int .i64 v.2.1, .string v.2.2)
def cellsV (l : List V3) : List Value := cells3 (l.map vcell)
/-- What is given of an attribute, and where its bag lies. -/
structure Gm where
  cat : Int
  name : ByteArray
  at_ : Option Addr
  cap : Nat
  bag : List V3
def Gm.gv (x : Gm) : Gv := (x.cat, x.name, x.bag)
def gcell (x : Gm) : Value × Value × Value := (.int .i64 x.cat, .string x.name, .slice x.at_ x.bag.length x.cap)
def cellsG (l : List Gm) : List Value := cells3 (l.map gcell)
def VOk (v : V3) : Prop := I64 v.1 ∧ I64 v.2.1 ∧ v.2.2.size ≤ maxLen
/-- An attribute's bag lies where it is said to lie. -/
def GOk (w : World) (B : Nat) (x : Gm) : Prop := I64 x.cat ∧ x.name.size ≤ maxLen ∧ x.bag.length ≤ x.cap ∧ x.cap ≤ maxLen ∧ Sl w B x.at_ (cellsV x.bag) ∧ ∀ v ∈ x.bag, VOk v
/-- A request in memory. -/
def Req (w : World) (B : Nat) (a : Option Addr) (l : List Gm) : Prop := Sl w B a (cellsG l) ∧ ∀ x ∈ l, GOk w B x
theorem GOk.below {w w' : World} {B : Nat} {x : Gm} (h : GOk w B x) (hb : Below B w w') : GOk w' B x := ⟨h.1, h.2.1, h.2.2.1, h.2.2.2.1, h.2.2.2.2.1.below hb, h.2.2.2.2.2⟩
theorem GOk.more {w : World} {B B' : Nat} {x : Gm} (h : GOk w B x) (hb : B ≤ B') : GOk w B' x := ⟨h.1, h.2.1, h.2.2.1, h.2.2.2.1, h.2.2.2.2.1.more hb, h.2.2.2.2.2⟩
theorem Req.below {w w' : World} {B : Nat} {a : Option Addr} {l : List Gm} (h : Req w B a l) (hb : Below B w w') : Req w' B a l := ⟨h.1.below hb, fun x hx => (h.2 x hx).below hb⟩
theorem Req.more {w : World} {B B' : Nat} {a : Option Addr} {l : List Gm} (h : Req w B a l) (hb : B ≤ B') : Req w B' a l := ⟨h.1.more hb, fun x hx => (h.2 x hx).more hb⟩
/-- Behind a call that laid new memory alone. -/
theorem Req.on {w w' : World} {a : Option Addr} {l : List Gm} (h : Req w w.heap.size a l) (hb : Below w.heap.size w w') : Req w' w'.heap.size a l := (h.below hb).more hb.size
theorem GOk.on {w w' : World} {x : Gm} (h : GOk w w.heap.size x) (hb : Below w.heap.size w w') : GOk w' w'.heap.size x := (h.below hb).more hb.size
theorem Sl.on {w w' : World} {a : Option Addr} {xs : List Value} (h : Sl w w.heap.size a xs) (hb : Below w.heap.size w w') : Sl w' w'.heap.size a xs := (h.below hb).more hb.size
theorem cells3_map_at {α : Type} (f : α → Value × Value × Value) {l : List α} {i : Nat} (hi : i < l.length) :
    (cells3 (l.map f))[i * 3]? = some (f l[i]).1 ∧ (cells3 (l.map f))[i * 3 + 1]? = some (f l[i]).2.1 ∧ (cells3 (l.map f))[i * 3 + 2]? = some (f l[i]).2.2 :=
  cells3_at (l.map f) i (f l[i]) (by rw [List.getElem?_map, List.getElem?_eq_getElem hi]; rfl)
theorem Sl.three {α : Type} (f : α → Value × Value × Value) {w : World} {B : Nat} {a : Option Addr} {l : List α} {i : Nat} (h : Sl w B a (cells3 (l.map f))) (hi : i < l.length) :
    ∃ b off, a = some ⟨b, off, none⟩ ∧ b < B ∧ w.cell? ⟨b, off + i * 3, none⟩ = some (f l[i]).1 ∧ w.cell? ⟨b, off + i * 3 + 1, none⟩ = some (f l[i]).2.1 ∧ w.cell? ⟨b, off + i * 3 + 2, none⟩ = some (f l[i]).2.2 := by
  obtain ⟨h1, h2, h3⟩ := cells3_map_at f hi
  obtain ⟨b, off, e, hb, hc⟩ := h (fun he => by rw [he] at h1; simp at h1)
  refine ⟨b, off, e, hb, hc _ _ h1, ?_, ?_⟩
  · rw [Nat.add_assoc]; exact hc _ _ h2
  · rw [Nat.add_assoc]; exact hc _ _ h3
theorem Sl.val {w : World} {B : Nat} {a : Option Addr} {l : List V3} {i : Nat} (h : Sl w B a (cellsV l)) (hi : i < l.length) :
    ∃ b off, a = some ⟨b, off, none⟩ ∧ b < B ∧ w.cell? ⟨b, off + i * 3, none⟩ = some (.int .i64 l[i].1) ∧ w.cell? ⟨b, off + i * 3 + 1, none⟩ = some (.int .i64 l[i].2.1) ∧ w.cell? ⟨b, off + i * 3 + 2, none⟩ = some (.string l[i].2.2) := Sl.three vcell h hi
theorem Req.at {w : World} {B : Nat} {a : Option Addr} {l : List Gm} {i : Nat} (h : Req w B a l) (hi : i < l.length) :
    ∃ b off, a = some ⟨b, off, none⟩ ∧ b < B ∧ w.cell? ⟨b, off + i * 3, none⟩ = some (.int .i64 l[i].cat) ∧ w.cell? ⟨b, off + i * 3 + 1, none⟩ = some (.string l[i].name) ∧ w.cell? ⟨b, off + i * 3 + 2, none⟩ = some (.slice l[i].at_ l[i].bag.length l[i].cap) := Sl.three gcell h.1 hi
theorem Req.nil {w : World} {B : Nat} {a : Option Addr} : Req w B a [] := ⟨Sl.nil, fun _ h => absurd h (by simp)⟩

section
variable {H : Type} {enc : TypeId × Value → H} {P : Program} {W : World} {sp : Nat → Bool} {held : Bool}
/-- Cells that hold a slice of structs of three. -/
theorem open_triples_cell {t e : TypeId} {f0 f1 f2 : Field} {v : Value} {fuel : Nat} {y : DataW H × List MemPlace} (ht : P.underlying t = some (.slice e)) (he : P.underlying e = some (.struct #[f0, f1, f2])) (hE : P.cellsOf e = 3)
    (o0 : f0.offset = 0) (o1 : f1.offset = 1) (o2 : f2.offset = 2) (c0 : P.cellsOf f0.type = 1) (c1 : P.cellsOf f1.type = 1) (c2 : P.cellsOf f2.type = 1)
    (h : DataW.trod enc P W 0 sp held fuel t [v] = some y) :
    ∃ (a : Option Addr) (cap : Nat) (l : List (Value × Value × Value)), v = .slice a l.length cap ∧ l.length ≤ cap ∧ cap ≤ maxLen ∧ Sl W W.heap.size a (cells3 l) ∧
      ∀ x ∈ l, ∃ n y0 y1 y2, DataW.trod enc P W 0 sp held n f0.type [x.1] = some y0 ∧ DataW.trod enc P W 0 sp held n f1.type [x.2.1] = some y1 ∧ DataW.trod enc P W 0 sp held n f2.type [x.2.2] = some y2 := by
  rcases open_slice ht h with ⟨hcs, _⟩ | ⟨a, len', cap', m, n, D, Pl, hcs, _, hl, hm, hmm, _, hx⟩
  · simp at hcs
    subst hcs
    exact ⟨none, 0, [], rfl, by simp, by simp [maxLen], Sl.nil, by simp⟩
  · simp at hcs
    subst hcs
    have hlm : len' ≤ m := by rw [hmm]; split <;> omega
    obtain ⟨l, hll, hp⟩ := list_of3 (fun i x => ∃ b off, a = ⟨b, off, none⟩ ∧ W.cell? ⟨b, off + i * 3, none⟩ = some (x : Value × Value × Value).1 ∧ W.cell? ⟨b, off + (i * 3 + 1), none⟩ = some x.2.1 ∧ W.cell? ⟨b, off + (i * 3 + 2), none⟩ = some x.2.2 ∧
        ∃ n y0 y1 y2, DataW.trod enc P W 0 sp held n f0.type [x.1] = some y0 ∧ DataW.trod enc P W 0 sp held n f1.type [x.2.1] = some y1 ∧ DataW.trod enc P W 0 sp held n f2.type [x.2.2] = some y2) len' (fun i hi => by
      obtain ⟨cs, hc, htr⟩ := hx i (by omega)
      rw [hE] at hc
      obtain ⟨_, hlen, hcell⟩ := World.cells?_some hc
      obtain ⟨y0, y1, y2, k, _, _, g0, g1, g2⟩ := trod_struct3 he htr
      match cs, hlen with
      | [v0, v1, v2], _ =>
        rw [o0, c0] at g0
        rw [o1, c1] at g1
        rw [o2, c2] at g2
        have e0 := hcell 0 (by omega)
        have e1 := hcell 1 (by omega)
        have e2 := hcell 2 (by omega)
        rw [add_add] at e0 e1 e2
        obtain ⟨b, off, rfl⟩ : ∃ b off, a = ⟨b, off, none⟩ := by
          obtain ⟨cs0, hc0, _⟩ := hx 0 (by omega)
          rw [hE] at hc0
          obtain ⟨_, hlen0, hcell0⟩ := World.cells?_some hc0
          have z0 := hcell0 0 (by omega)
          rw [add_add] at z0
          rw [List.getElem?_eq_getElem (by omega)] at z0
          exact addr_form (by simpa using z0)
        rw [add_form] at e0 e1 e2
        exact ⟨(v0, v1, v2), b, off, rfl, by simpa using e0, by simpa using e1, by simpa using e2, k, y0, y1, y2, by simpa using g0, by simpa using g1, by simpa using g2⟩)
    refine ⟨some a, cap', l, by rw [hll], by omega, hm, ?_, fun x hx' => ?_⟩
    · intro hne
      cases l with
      | nil => exact absurd rfl hne
      | cons x0 l0 =>
        obtain ⟨b, off, e0, h0, _⟩ := hp 0 x0 rfl
        refine ⟨b, off, by rw [e0], World.block_lt_of_cell? W _ h0, fun k y hk => ?_⟩
        obtain ⟨i, x, hi, ho⟩ := cells3_of _ k y hk
        obtain ⟨b', off', e', h1, h2, h3, _⟩ := hp i x hi
        rw [e0] at e'
        injection e' with q1 q2
        subst q1 q2
        rcases ho with ⟨rfl, rfl⟩ | ⟨rfl, rfl⟩ | ⟨rfl, rfl⟩
        · exact h1
        · exact h2
        · exact h3
    · obtain ⟨i, hi⟩ := List.mem_iff_getElem?.1 hx'
      obtain ⟨_, _, _, _, _, _, hn⟩ := hp i x hi
      exact hn
theorem each_of {α β : Type} (f : β → α) (p : β → Prop) : ∀ (l : List α), (∀ x ∈ l, ∃ y, x = f y ∧ p y) → ∃ m : List β, l = m.map f ∧ ∀ y ∈ m, p y
  | [], _ => ⟨[], rfl, by simp⟩
  | x :: l, h => by
    obtain ⟨y, rfl, hy⟩ := h x (by simp)
    obtain ⟨m, rfl, hm⟩ := each_of f p l (fun z hz => h z (List.mem_cons_of_mem _ hz))
    exact ⟨y :: m, rfl, fun z hz => by
      rcases List.mem_cons.1 hz with rfl | hz
      · exact hy
      · exact hm z hz⟩
/-- A bag in a cell. -/
theorem open_bag_cell {t e : TypeId} {f0 f1 f2 : Field} {v : Value} {fuel : Nat} {y : DataW H × List MemPlace} (ht : P.underlying t = some (.slice e)) (he : P.underlying e = some (.struct #[f0, f1, f2])) (hE : P.cellsOf e = 3)
    (o0 : f0.offset = 0) (o1 : f1.offset = 1) (o2 : f2.offset = 2) (c0 : P.cellsOf f0.type = 1) (c1 : P.cellsOf f1.type = 1) (c2 : P.cellsOf f2.type = 1)
    (u0 : P.underlying f0.type = some (.int .i64)) (u1 : P.underlying f1.type = some (.int .i64)) (u2 : P.underlying f2.type = some .string)
    (h : DataW.trod enc P W 0 sp held fuel t [v] = some y) :
    ∃ (a : Option Addr) (cap : Nat) (l : List V3), v = .slice a l.length cap ∧ l.length ≤ cap ∧ cap ≤ maxLen ∧ Sl W W.heap.size a (cellsV l) ∧ ∀ x ∈ l, VOk x := by
  obtain ⟨a, cap, l, h1, h2, h3, h4, h5⟩ := open_triples_cell ht he hE o0 o1 o2 c0 c1 c2 h
  obtain ⟨m, rfl, hm⟩ := each_of vcell VOk l (fun x hx => by
    obtain ⟨n, y0, y1, y2, g0, g1, g2⟩ := h5 x hx
    obtain ⟨q0, e0, _, w0⟩ := DataW.trod_int u0 g0
    obtain ⟨q1, e1, _, w1⟩ := DataW.trod_int u1 g1
    obtain ⟨q2, e2, _, hs⟩ := DataW.trod_string u2 g2
    obtain ⟨x0, x1, x2⟩ := x
    simp at e0 e1 e2
    exact ⟨(q0, q1, q2), by rw [e0, e1, e2]; rfl, i64_of_wf w0, i64_of_wf w1, hs⟩)
  rw [List.length_map] at h1 h2
  exact ⟨a, cap, m, h1, h2, h3, h4, hm⟩
/-- What every type of a request is. -/
structure ReqTypes (P : Program) (tg tv tb : TypeId) (g0 g1 g2 v0 v1 v2 : Field) : Prop where
  hg : P.underlying tg = some (.struct #[g0, g1, g2])
  hv : P.underlying tv = some (.struct #[v0, v1, v2])
  hb : P.underlying tb = some (.slice tv)
  cg : P.cellsOf tg = 3
  cv : P.cellsOf tv = 3
  og : g0.offset = 0 ∧ g1.offset = 1 ∧ g2.offset = 2
  ov : v0.offset = 0 ∧ v1.offset = 1 ∧ v2.offset = 2
  zg : P.cellsOf g0.type = 1 ∧ P.cellsOf g1.type = 1 ∧ P.cellsOf g2.type = 1
  zv : P.cellsOf v0.type = 1 ∧ P.cellsOf v1.type = 1 ∧ P.cellsOf v2.type = 1
  ug : P.underlying g0.type = some (.int .i64) ∧ P.underlying g1.type = some .string ∧ g2.type = tb
  uv : P.underlying v0.type = some (.int .i64) ∧ P.underlying v1.type = some (.int .i64) ∧ P.underlying v2.type = some .string
variable {tg tv tb : TypeId} {g0 g1 g2 v0 v1 v2 : Field}
theorem given_of (T : ReqTypes P tg tv tb g0 g1 g2 v0 v1 v2) {x : Value × Value × Value} {n : Nat} {y0 y1 y2 : DataW H × List MemPlace} (k0 : DataW.trod enc P W 0 sp held n g0.type [x.1] = some y0) (k1 : DataW.trod enc P W 0 sp held n g1.type [x.2.1] = some y1) (k2 : DataW.trod enc P W 0 sp held n g2.type [x.2.2] = some y2) :
    ∃ y : Gm, x = gcell y ∧ GOk W W.heap.size y := by
  obtain ⟨q0, e0, _, w0⟩ := DataW.trod_int T.ug.1 k0
  obtain ⟨q1, e1, _, hs⟩ := DataW.trod_string T.ug.2.1 k1
  rw [T.ug.2.2] at k2
  obtain ⟨a, cap, l, e2, h2, h3, h4, h5⟩ := open_bag_cell T.hb T.hv T.cv T.ov.1 T.ov.2.1 T.ov.2.2 T.zv.1 T.zv.2.1 T.zv.2.2 T.uv.1 T.uv.2.1 T.uv.2.2 k2
  obtain ⟨x0, x1, x2⟩ := x
  simp at e0 e1 e2
  exact ⟨⟨q0, q1, a, cap, l⟩, by rw [e0, e1, e2]; rfl, i64_of_wf w0, hs, h2, h3, h4, h5⟩
theorem open_givens {r : Reach} {b0 : Nat} {t : TypeId} {v : Value} {d : DataW H} {p : List MemPlace} (ht : P.underlying t = some (.slice tg)) (T : ReqTypes P tg tv tb g0 g1 g2 v0 v1 v2)
    (hv : Value.okWide P W r b0 t v) (h : DataW.Trod enc P W 0 sp held t v d p) :
    ∃ (a : Option Addr) (cap : Nat) (l : List Gm), v = .slice a l.length cap ∧ l.length ≤ cap ∧ cap ≤ maxLen ∧ Req W W.heap.size a l := by
  obtain ⟨a, cap, l, h1, h2, h3, h4, h5⟩ := open_triples ht T.hg T.cg T.og.1 T.og.2.1 T.og.2.2 T.zg.1 T.zg.2.1 T.zg.2.2 hv h
  obtain ⟨m, rfl, hm⟩ := each_of gcell (GOk W W.heap.size) l (fun x hx => by
    obtain ⟨n, y0, y1, y2, k0, k1, k2⟩ := h5 x hx
    exact given_of T k0 k1 k2)
  rw [List.length_map] at h1 h2
  exact ⟨a, cap, m, h1, h2, h3, h4, hm⟩
theorem open_given {r : Reach} {b0 : Nat} {v : Value} {d : DataW H} {p : List MemPlace} (T : ReqTypes P tg tv tb g0 g1 g2 v0 v1 v2) (hone : oneCellFields P #[g0, g1, g2] = true)
    (hv : Value.okWide P W r b0 tg v) (h : DataW.Trod enc P W 0 sp held tg v d p) :
    ∃ x : Gm, v = .agg #[.int .i64 x.cat, .string x.name, .slice x.at_ x.bag.length x.cap] ∧ GOk W W.heap.size x := by
  obtain ⟨u0, u1, u2, y0, y1, y2, n, rfl, _, _, k0, k1, k2⟩ := Joins.open_agg3 T.hg hone T.cg hv h
  obtain ⟨x, e, hx⟩ := given_of (x := (u0, u1, u2)) T k0 k1 k2
  unfold gcell at e
  injection e with e0 e
  injection e with e1 e2
  exact ⟨x, by rw [e0, e1, e2], hx⟩
theorem open_value {r : Reach} {b0 : Nat} {v : Value} {d : DataW H} {p : List MemPlace} (T : ReqTypes P tg tv tb g0 g1 g2 v0 v1 v2) (hone : oneCellFields P #[v0, v1, v2] = true)
    (hv : Value.okWide P W r b0 tv v) (h : DataW.Trod enc P W 0 sp held tv v d p) :
    ∃ x : V3, v = .agg #[.int .i64 x.1, .int .i64 x.2.1, .string x.2.2] ∧ VOk x := by
  obtain ⟨u0, u1, u2, y0, y1, y2, n, rfl, _, _, k0, k1, k2⟩ := Joins.open_agg3 T.hv hone T.cv hv h
  obtain ⟨q0, e0, _, w0⟩ := DataW.trod_int T.uv.1 k0
  obtain ⟨q1, e1, _, w1⟩ := DataW.trod_int T.uv.2.1 k1
  obtain ⟨q2, e2, _, hs⟩ := DataW.trod_string T.uv.2.2 k2
  simp at e0 e1 e2
  exact ⟨(q0, q1, q2), by rw [e0, e1, e2], i64_of_wf w0, i64_of_wf w1, hs⟩
theorem open_attr {r : Reach} {b0 : Nat} {t : TypeId} {f0 f1 f2 : Field} {v : Value} {d : DataW H} {p : List MemPlace} (ht : P.underlying t = some (.struct #[f0, f1, f2])) (hone : oneCellFields P #[f0, f1, f2] = true) (hC : P.cellsOf t = 3)
    (u0 : P.underlying f0.type = some (.int .i64)) (u1 : P.underlying f1.type = some .string) (u2 : P.underlying f2.type = some .bool)
    (hv : Value.okWide P W r b0 t v) (h : DataW.Trod enc P W 0 sp held t v d p) :
    ∃ (cat : Int) (name : ByteArray) (must : Bool), v = .agg #[.int .i64 cat, .string name, .bool must] ∧ I64 cat ∧ name.size ≤ maxLen := by
  obtain ⟨u0', u1', u2', y0, y1, y2, n, rfl, _, _, k0, k1, k2⟩ := Joins.open_agg3 ht hone hC hv h
  obtain ⟨q0, e0, _, w0⟩ := DataW.trod_int u0 k0
  obtain ⟨q1, e1, _, hs⟩ := DataW.trod_string u1 k1
  obtain ⟨q2, e2, _⟩ := DataW.trod_bool u2 k2
  simp at e0 e1 e2
  exact ⟨q0, q1, q2, by rw [e0, e1, e2], i64_of_wf w0, hs⟩
end
end Go.Proofs.Ytjaofdalmjiliaa
