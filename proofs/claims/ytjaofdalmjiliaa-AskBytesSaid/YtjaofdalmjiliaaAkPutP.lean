/-
  BYTES OF A REQUEST, PLAIN: how long; what begins alike; rows in order that hold the same. No condition.
  BYTES OF A REQUEST, PLAIN: other requests have others; rows in order that hold the same are the same. No condition.
-/
import Derived.Test.YtjaofdalmjiliaaAkPutV
import Derived.Test.YtjaofdalmjiliaaAskWithP
import Derived.Test.YtjaofdalmjiliaaSortP
namespace Go.Proofs.Ytjaofdalmjiliaa
open Go.RowKit

def gvP (g : Gv) : List UInt8 := numP g.1 ++ (textP g.2.1.data.toList ++ (numP g.2.2.length ++ g.2.2.flatMap valP))
/-- A request's bytes, in the order of the row. -/
def askP (t : List Gv) : List UInt8 := numP t.length ++ t.flatMap gvP
theorem flat_step {α β : Type} (f : α → List β) (l : List α) (k : Nat) (h : k < l.length) : (l.take (k + 1)).flatMap f = (l.take k).flatMap f ++ f l[k] := by
  rw [List.take_succ_eq_append_getElem h, List.flatMap_append]
  simp
/-- A value that may be, fits. -/
def SmallW (v : V3) : Prop := I64 v.1 ∧ I64 v.2.1 ∧ v.2.2.size ≤ 64
theorem small_of {v : V3} (h : VOk v) (hr : rightB v = true) : SmallW v := ⟨h.1, h.2.1, right_text hr⟩
theorem SmallW.v {v : V3} (h : SmallW v) : SmallV v := ⟨h.1, h.2.1, by have := h.2.2; omega⟩
theorem textP_short (s : ByteArray) (n : Nat) (h : s.size ≤ n) (hn : n ≤ 1000000) : (textP s.data.toList).length ≤ n + 10 := by
  have hln : s.data.toList.length = s.size := by rw [Array.length_toList]; rfl
  unfold textP
  rw [List.length_append, hln]
  have := numP_10 (s.size : Int) (by omega) (by omega)
  omega
theorem valP_short {v : V3} (h : SmallW v) : (valP v).length ≤ 84 := by
  unfold valP
  have h1 := numP_10 v.1 h.1.1 h.1.2
  have h2 := numP_10 v.2.1 h.2.1.1 h.2.1.2
  have h3 := textP_short v.2.2 64 h.2.2 (by omega)
  rw [List.length_append]
  split <;> omega
theorem flat_len {α β : Type} (f : α → List β) (m : Nat) : ∀ (l : List α), (∀ x ∈ l, (f x).length ≤ m) → (l.flatMap f).length ≤ m * l.length
  | [], _ => by simp
  | x :: l, h => by
    rw [List.flatMap_cons, List.length_append, List.length_cons, Nat.mul_succ]
    have h1 := h x (by simp)
    have h2 := flat_len f m l (fun y hy => h y (by simp [hy]))
    omega
/-- What is given of an attribute, fit. -/
structure Fit (x : Gv) : Prop where
  cat : 1 ≤ x.1 ∧ x.1 ≤ 4
  name : x.2.1.size ≤ 16
  bag : x.2.2.length ≤ 16
  vals : ∀ v ∈ x.2.2, SmallW v
theorem fit_of {x : Gv} (h : fitG x = true) (hx : GvOk x) : Fit x :=
  ⟨fit_cat h, (name_size (fit_name h)).2, bag_size (fit_bag h), fun v hv => small_of (hx.2.2 v hv) (bag_right (fit_bag h) hv)⟩
theorem gvP_short {x : Gv} (h : Fit x) : (gvP x).length ≤ 1400 := by
  unfold gvP
  have h1 := numP_10 x.1 (by have := h.cat; omega) (by have := h.cat; omega)
  have h2 := textP_short x.2.1 16 h.name (by omega)
  have h3 := numP_10 (x.2.2.length : Int) (by omega) (by have := h.bag; omega)
  have h4 := flat_len valP 84 x.2.2 (fun v hv => valP_short (h.vals v hv))
  have h5 := h.bag
  simp only [List.length_append]
  have : 84 * x.2.2.length ≤ 84 * 16 := Nat.mul_le_mul_left _ h5
  omega
theorem fits_of {l : List Gv} (h : rightG l = 0) (hg : ∀ y ∈ l, GvOk y) : ∀ y ∈ l, Fit y := fun y hy => by
  obtain ⟨i, hi, rfl⟩ := List.getElem_of_mem hy
  exact fit_of (((right_ok l).1 h).2 i hi).1 (hg _ hy)
/-- Begins alike: then it is the same. -/
theorem toList_inj' {s t : ByteArray} (h : s.data.toList = t.data.toList) : s = t := by
  have : s.data = t.data := Array.toList_inj.1 h
  cases s; cases t
  simp only at this
  rw [this]
theorem valP_apart {u v : V3} (hu : SmallW u) (hv : SmallW v) (ru : rightB u = true) (rv : rightB v = true) {a b : List UInt8} (h : valP u ++ a = valP v ++ b) : u = v ∧ a = b := by
  unfold valP at h
  rw [List.append_assoc, List.append_assoc] at h
  have e1 := numP_apart u.1 v.1 _ _ hu.1.1 hu.1.2 hv.1.1 hv.1.2 h
  rw [e1] at h
  have h2 := List.append_cancel_left h
  obtain ⟨u1, u2, u3⟩ := u
  obtain ⟨v1, v2, v3⟩ := v
  simp only at e1 h2 ru rv
  subst e1
  by_cases ht : u1 = 3 ∨ u1 = 5
  · rw [if_pos ht, if_pos ht] at h2
    have e3 := textP_apart _ _ _ _ (by rw [Array.length_toList]; have := hu.2.2; simp only at this; show u3.size ≤ _; omega) (by rw [Array.length_toList]; have := hv.2.2; simp only at this; show v3.size ≤ _; omega) h2
    rw [e3] at h2
    have e3' := toList_inj' e3
    subst e3'
    have e2 : u2 = v2 := by
      unfold rightB at ru rv
      rcases ht with rfl | rfl
      · simp at ru rv; omega
      · simp at ru rv; omega
    subst e2
    exact ⟨rfl, List.append_cancel_left h2⟩
  · rw [if_neg ht, if_neg ht] at h2
    have e2 := numP_apart _ _ _ _ hu.2.1.1 hu.2.1.2 hv.2.1.1 hv.2.1.2 h2
    simp only at e2
    subst e2
    have e4 : u3 = v3 := by
      unfold rightB at ru rv
      simp only at ru rv
      by_cases k1 : u1 = 1
      · simp [k1] at ru rv; exact ru.2.trans rv.2.symm
      by_cases k2 : u1 = 2
      · simp [k2] at ru rv; exact ru.trans rv.symm
      by_cases k4 : u1 = 4
      · simp [k4] at ru rv; exact ru.2.trans rv.2.symm
      · exfalso
        have k3 : u1 ≠ 3 := fun h => ht (.inl h)
        have k5 : u1 ≠ 5 := fun h => ht (.inr h)
        simp [k1, k2, k3, k4, k5] at ru
    subst e4
    exact ⟨rfl, List.append_cancel_left h2⟩
theorem flat_apart {α : Type} (f : α → List UInt8) (p : α → Prop) (hf : ∀ u v, p u → p v → ∀ a b, f u ++ a = f v ++ b → u = v ∧ a = b) : ∀ (l m : List α), (∀ x ∈ l, p x) → (∀ x ∈ m, p x) → l.length = m.length → ∀ a b, l.flatMap f ++ a = m.flatMap f ++ b → l = m ∧ a = b
  | [], [], _, _, _, a, b, h => ⟨rfl, by simpa using h⟩
  | [], _ :: _, _, _, hl, _, _, _ => by simp at hl
  | _ :: _, [], _, _, hl, _, _, _ => by simp at hl
  | x :: l, y :: m, h1, h2, hl, a, b, h => by
    rw [List.flatMap_cons, List.flatMap_cons, List.append_assoc, List.append_assoc] at h
    obtain ⟨e1, e2⟩ := hf x y (h1 x (by simp)) (h2 y (by simp)) _ _ h
    obtain ⟨e3, e4⟩ := flat_apart f p hf l m (fun z hz => h1 z (by simp [hz])) (fun z hz => h2 z (by simp [hz])) (by simpa using hl) a b e2
    rw [e1, e3]
    exact ⟨rfl, e4⟩
end Go.Proofs.Ytjaofdalmjiliaa
namespace Go.Proofs.Ytjaofdalmjiliaa
open Go.RowKit

theorem up_unique : ∀ (t u : List Gm), Up t → Up u → t.Perm u → (∀ x ∈ t, ∀ y ∈ t, x.cat = y.cat → x.name = y.name → x = y) → t = u
  | [], u, _, _, hp, _ => by rw [List.nil_perm.1 hp]
  | x :: t, [], _, _, hp, _ => absurd hp.length_eq (by simp)
  | x :: t, y :: u, ht, hu, hp, hk => by
    have e : x = y := by
      have hx : x ∈ y :: u := hp.mem_iff.1 (by simp)
      have hy : y ∈ x :: t := hp.mem_iff.2 (by simp)
      rcases List.mem_cons.1 hx with h | h
      · exact h
      · rcases List.mem_cons.1 hy with h2 | h2
        · exact h2.symm
        · have l1 : Le y x := (List.pairwise_cons.1 hu).1 x h
          have l2 : Le x y := (List.pairwise_cons.1 ht).1 y h2
          rcases Lt.tri x y with h3 | ⟨h3, h4⟩ | h3
          · exact absurd h3 l1
          · exact hk x (by simp) y hy h3 h4
          · exact absurd h3 l2
    subst e
    rw [up_unique t u (List.pairwise_cons.1 ht).2 (List.pairwise_cons.1 hu).2 hp.cons_inv (fun a ha b hb => hk a (by simp [ha]) b (by simp [hb]))]
/-- Right: an attribute is there once. -/
theorem once_of_right {l : List Gm} (h : rightG (gvs l) = 0) : ∀ x ∈ l, ∀ y ∈ l, x.cat = y.cat → x.name = y.name → x = y := by
  intro x hx y hy e1 e2
  obtain ⟨i, hi, rfl⟩ := List.getElem_of_mem hx
  obtain ⟨j, hj, rfl⟩ := List.getElem_of_mem hy
  have := right_once h (i := i) (j := j) (by rw [gvs_len]; exact hi) (by rw [gvs_len]; exact hj) (by rw [gvs_at l i hi, gvs_at l j hj]; exact e1) (by rw [gvs_at l i hi, gvs_at l j hj]; exact e2)
  subst this
  rfl
theorem sorted_unique {l t u : List Gm} (h : rightG (gvs l) = 0) (ht : Up t) (hu : Up u) (p1 : t.Perm l) (p2 : u.Perm l) : t = u :=
  up_unique t u ht hu (p1.trans p2.symm) (fun x hx y hy e1 e2 => once_of_right h x (p1.mem_iff.1 hx) y (p1.mem_iff.1 hy) e1 e2)
/-- A fit attribute whose bag may be. -/
def FitR (x : Gv) : Prop := Fit x ∧ ∀ v ∈ x.2.2, rightB v = true
theorem fitR_of {l : List Gv} (h : rightG l = 0) (hg : ∀ y ∈ l, GvOk y) : ∀ y ∈ l, FitR y := fun y hy => by
  refine ⟨fits_of h hg y hy, fun v hv => ?_⟩
  obtain ⟨i, hi, rfl⟩ := List.getElem_of_mem hy
  exact bag_right (fit_bag (((right_ok l).1 h).2 i hi).1) hv
theorem gvP_apart {x y : Gv} (hx : FitR x) (hy : FitR y) {a b : List UInt8} (h : gvP x ++ a = gvP y ++ b) : x = y ∧ a = b := by
  unfold gvP at h
  simp only [List.append_assoc] at h
  have e1 := numP_apart x.1 y.1 _ _ (by have := hx.1.cat; omega) (by have := hx.1.cat; omega) (by have := hy.1.cat; omega) (by have := hy.1.cat; omega) h
  rw [e1] at h
  have h2 := List.append_cancel_left h
  have e2 := textP_apart _ _ _ _ (by rw [Array.length_toList]; have := hx.1.name; show x.2.1.size ≤ _; omega) (by rw [Array.length_toList]; have := hy.1.name; show y.2.1.size ≤ _; omega) h2
  rw [e2] at h2
  have h3 := List.append_cancel_left h2
  have e3 := numP_apart (x.2.2.length : Int) (y.2.2.length : Int) _ _ (by omega) (by have := hx.1.bag; omega) (by omega) (by have := hy.1.bag; omega) h3
  rw [e3] at h3
  have h4 := List.append_cancel_left h3
  obtain ⟨e4, e5⟩ := flat_apart valP (fun v => SmallW v ∧ rightB v = true) (fun u v hu hv a b h => valP_apart hu.1 hv.1 hu.2 hv.2 h) x.2.2 y.2.2 (fun v hv => ⟨hx.1.vals v hv, hx.2 v hv⟩) (fun v hv => ⟨hy.1.vals v hv, hy.2 v hv⟩) (by omega) a b h4
  have e6 := toList_inj' e2
  obtain ⟨x1, x2, x3⟩ := x
  obtain ⟨y1, y2, y3⟩ := y
  simp only at e1 e4 e6
  rw [e1, e4, e6]
  exact ⟨rfl, e5⟩
/-- Requests with the same bytes are the same. -/
theorem askP_inj {t u : List Gv} (ht : ∀ y ∈ t, FitR y) (hu : ∀ y ∈ u, FitR y) (h1 : t.length ≤ 64) (h2 : u.length ≤ 64) (h : askP t = askP u) : t = u := by
  unfold askP at h
  have e1 := numP_apart (t.length : Int) (u.length : Int) _ _ (by omega) (by omega) (by omega) (by omega) h
  rw [e1] at h
  have h3 := List.append_cancel_left h
  exact (flat_apart gvP FitR (fun u v hu hv a b h => gvP_apart hu hv h) t u ht hu (by omega) [] [] (by simpa using h3)).1
theorem askP_short {t : List Gv} (ht : ∀ y ∈ t, Fit y) (h1 : t.length ≤ 64) : (askP t).length ≤ 100000 := by
  unfold askP
  have h2 := numP_10 (t.length : Int) (by omega) (by omega)
  have h3 := flat_len gvP 1400 t (fun x hx => gvP_short (ht x hx))
  rw [List.length_append]
  have : 1400 * t.length ≤ 1400 * 64 := Nat.mul_le_mul_left _ h1
  omega
theorem askP_some (t : List Gv) : askP t ≠ [] := by
  unfold askP
  intro h
  have h1 := congrArg List.length h
  rw [List.length_append] at h1
  have : 1 ≤ (numP (t.length : Int)).length := vint_pos _
  simp at h1
  have := h1.1
  rw [this] at *
  simp_all
end Go.Proofs.Ytjaofdalmjiliaa
