/- An argument that reads as data, opened into its leaves by the type's shape. -/
import Derived.Test.YtjecfilbdabheaaBase
import Derived.ProofKit
import Derived.OpenShut
namespace Go.Proofs.Ytjecfilbdabheaa
open Go.RowKit Go.ChangeShapes Go.WideShapes

/-- a row of cells reads as data of type t -/
def Tr (P : Program) (w : World) (t : TypeId) (cs : List Value) : Prop :=
  ∃ (H : Type) (enc : TypeId × Value → H) (fuel : Nat) (x : DataW H × List MemPlace), DataW.trod enc P w 0 (fun _ => true) true fuel t cs = some x

inductive Leaf
  | bool
  | int (k : IntKind)
  | str
  | sl (e : TypeId)

def LeafOk (P : Program) (w : World) : Leaf → Value → Prop
  | .bool, c => ∃ b, c = .bool b
  | .int k, c => ∃ n, c = .int k n ∧ (Lit.int k n).wf = true
  | .str, c => ∃ s, c = .string s ∧ s.size ≤ maxLen
  | .sl e, c => ∃ A len cap, c = .slice A len cap ∧ len ≤ cap ∧ cap ≤ maxLen ∧ ∃ xs : List (List Value), xs.length = len ∧ (∀ x ∈ xs, x.length = P.cellsOf e ∧ Tr P w e x) ∧ Reads w w.heap.size A xs.flatten

def Leaves (P : Program) (w : World) : List Leaf → List Value → Prop
  | [], [] => True
  | l :: ls, c :: cs => LeafOk P w l c ∧ Leaves P w ls cs
  | _, _ => False

section
variable {P : Program} {w : World}
theorem Leaves.length : ∀ {ls : List Leaf} {cs : List Value}, Leaves P w ls cs → cs.length = ls.length
  | [], [], _ => rfl
  | _ :: _, _ :: _, h => by simp [Leaves.length h.2]
  | [], _ :: _, h => h.elim
  | _ :: _, [], h => h.elim
theorem Leaves.append : ∀ {ls ls' : List Leaf} {cs cs' : List Value}, Leaves P w ls cs → Leaves P w ls' cs' → Leaves P w (ls ++ ls') (cs ++ cs')
  | [], _, [], _, _, h => h
  | _ :: _, _, _ :: _, _, h, h' => ⟨h.1, Leaves.append h.2 h'⟩
  | [], _, _ :: _, _, h, _ => h.elim
  | _ :: _, _, [], _, h, _ => h.elim
theorem Leaves.cons {l : Leaf} {ls : List Leaf} : ∀ {cs : List Value}, Leaves P w (l :: ls) cs → ∃ c cs', cs = c :: cs' ∧ LeafOk P w l c ∧ Leaves P w ls cs'
  | c :: cs', h => ⟨c, cs', rfl, h.1, h.2⟩
  | [], h => h.elim
theorem Leaves.nil : ∀ {cs : List Value}, Leaves P w [] cs → cs = []
  | [], _ => rfl
  | _ :: _, h => h.elim
theorem Leaves.int {k : IntKind} {ls : List Leaf} {cs : List Value} (h : Leaves P w (.int k :: ls) cs) : ∃ n cs', cs = .int k n :: cs' ∧ (Lit.int k n).wf = true ∧ Leaves P w ls cs' := by
  obtain ⟨_, cs', rfl, ⟨n, rfl, hn⟩, h2⟩ := h.cons
  exact ⟨n, cs', rfl, hn, h2⟩
theorem Leaves.bool {ls : List Leaf} {cs : List Value} (h : Leaves P w (.bool :: ls) cs) : ∃ b cs', cs = .bool b :: cs' ∧ Leaves P w ls cs' := by
  obtain ⟨_, cs', rfl, ⟨n, rfl⟩, h2⟩ := h.cons
  exact ⟨n, cs', rfl, h2⟩
theorem Leaves.str {ls : List Leaf} {cs : List Value} (h : Leaves P w (.str :: ls) cs) : ∃ s cs', cs = .string s :: cs' ∧ s.size ≤ maxLen ∧ Leaves P w ls cs' := by
  obtain ⟨_, cs', rfl, ⟨n, rfl, hn⟩, h2⟩ := h.cons
  exact ⟨n, cs', rfl, hn, h2⟩
theorem Leaves.sl {e : TypeId} {ls : List Leaf} {cs : List Value} (h : Leaves P w (.sl e :: ls) cs) :
    ∃ A len cap cs', cs = .slice A len cap :: cs' ∧ len ≤ cap ∧ cap ≤ maxLen ∧ (∃ xs : List (List Value), xs.length = len ∧ (∀ x ∈ xs, x.length = P.cellsOf e ∧ Tr P w e x) ∧ Reads w w.heap.size A xs.flatten) ∧ Leaves P w ls cs' := by
  obtain ⟨_, cs', rfl, ⟨A, len, cap, rfl, h1, h2, h3⟩, h4⟩ := h.cons
  exact ⟨A, len, cap, cs', rfl, h1, h2, h3, h4⟩
/-- a row of integers, all at once -/
theorem Leaves.ints {k : IntKind} : ∀ {n : Nat} {cs : List Value}, Leaves P w (List.replicate n (.int k)) cs → ∃ zs : List Int, zs.length = n ∧ cs = zs.map (Value.int k) ∧ ∀ z ∈ zs, (Lit.int k z).wf = true
  | 0, _, h => ⟨[], rfl, Leaves.nil h, by simp⟩
  | n + 1, _, h => by
    obtain ⟨z, cs', rfl, hz, h⟩ := Leaves.int h
    obtain ⟨zs, rfl, rfl, hzs⟩ := Leaves.ints h
    exact ⟨z :: zs, rfl, rfl, by simpa using ⟨hz, hzs⟩⟩

/-- the leaves of fields that lie one behind the other -/
def gather (P : Program) (lv : TypeId → Option (List Leaf)) : List (Nat × TypeId) → Nat → Option (List Leaf)
  | [], _ => some []
  | (o, t) :: fs, at_ => if o = at_ then match lv t with
    | some ls => if ls.length = P.cellsOf t then (gather P lv fs (at_ + ls.length)).map (ls ++ ·) else none
    | none => none else none

def leaves (P : Program) : Nat → TypeId → Option (List Leaf)
  | 0, _ => none
  | n + 1, t => match P.underlying t with
    | some .bool => some [.bool]
    | some (.int k) => some [.int k]
    | some .string => some [.str]
    | some (.slice e) => some [.sl e]
    | some (.struct fs) => (gather P (leaves P n) (fs.toList.map fun f => (f.offset, f.type)) 0).bind fun ls => if ls.length = P.cellsOf t then some ls else none
    | some (.array k e) => (gather P (leaves P n) ((List.range k).map fun i => (i * P.cellsOf e, e)) 0).bind fun ls => if ls.length = P.cellsOf t then some ls else none
    | _ => none

theorem gather_ok {lv : TypeId → Option (List Leaf)} (hlv : ∀ t ls cs, lv t = some ls → Tr P w t cs → Leaves P w ls cs) :
    ∀ (fs : List (Nat × TypeId)) (at_ : Nat) (ls : List Leaf) (cs : List Value), gather P lv fs at_ = some ls → cs.length = at_ + ls.length →
      (∀ x ∈ fs, Tr P w x.2 ((cs.drop x.1).take (P.cellsOf x.2))) → Leaves P w ls (cs.drop at_)
  | [], at_, ls, cs, hg, hl, _ => by
    simp only [gather, Option.some.injEq] at hg
    subst hg
    have : cs.drop at_ = [] := List.drop_eq_nil_iff.2 (by simp at hl; omega)
    rw [this]
    trivial
  | (o, t) :: fs, at_, ls, cs, hg, hl, hf => by
    unfold gather at hg
    split at hg
    · rename_i ho
      subst ho
      split at hg
      · rename_i l1 h1
        split at hg
        · rename_i hc
          cases hr : gather P lv fs (o + l1.length) with
          | none => rw [hr] at hg; cases hg
          | some l2 =>
            rw [hr] at hg
            simp only [Option.map_some, Option.some.injEq] at hg
            subst hg
            have ih := gather_ok hlv fs (o + l1.length) l2 cs hr (by simp at hl; omega) (fun x hx => hf x (List.mem_cons_of_mem _ hx))
            have h0 := hlv t l1 _ h1 (hf (o, t) List.mem_cons_self)
            have e : cs.drop o = (cs.drop o).take (P.cellsOf t) ++ cs.drop (o + l1.length) := by
              rw [hc, ← List.drop_drop, List.take_append_drop]
            rw [e]
            exact h0.append ih
        · cases hg
      · cases hg
    · cases hg

theorem flatten_get {Q : Nat → Value → Prop} {k : Nat} : ∀ (xs : List (List Value)) (s : Nat), (∀ x ∈ xs, x.length = k) → (∀ i x, xs[i]? = some x → ∀ r u, x[r]? = some u → Q (s + (i * k + r)) u) →
    ∀ (j : Nat) (u : Value), xs.flatten[j]? = some u → Q (s + j) u
  | [], _, _, _, j, u, h => by simp at h
  | x :: xs, s, hk, hq, j, u, h => by
    rw [List.flatten_cons] at h
    have hx := hk x List.mem_cons_self
    by_cases hj : j < k
    · rw [List.getElem?_append_left (by omega)] at h
      simpa using hq 0 x (by simp) j u h
    · rw [List.getElem?_append_right (by omega), hx] at h
      have := flatten_get (Q := Q) xs (s + k) (fun y hy => hk y (List.mem_cons_of_mem _ hy)) (fun i y hy r v hv => by
        have := hq (i + 1) y (by simpa using hy) r v hv
        rw [Nat.add_mul] at this
        have e : s + k + (i * k + r) = s + (i * k + 1 * k + r) := by omega
        rw [e]
        exact this) (j - k) u h
      have e : s + k + (j - k) = s + j := by omega
      rwa [e] at this

theorem cells?_get {w : World} {base : Nat} {a : Addr} {n : Nat} {es : List Value} (h : w.cells? base a n = some es) : es.length = n ∧ ∀ r u, es[r]? = some u → w.cell? (a.add r) = some u := by
  unfold World.cells? at h
  split at h
  · refine ⟨by simpa using mapM_some_length h, fun r u hu => ?_⟩
    have hr := (List.getElem?_eq_some_iff.1 hu).1
    have hl : es.length = n := by simpa using mapM_some_length h
    have := mapM_some_get h r r (by rw [List.getElem?_range]; omega)
    rw [this, hu]
  · cases h

theorem exists_list {α : Type} {Q : Nat → α → Prop} : ∀ n : Nat, (∀ i, i < n → ∃ x, Q i x) → ∃ xs : List α, xs.length = n ∧ ∀ i x, xs[i]? = some x → Q i x
  | 0, _ => ⟨[], rfl, by simp⟩
  | n + 1, h => by
    obtain ⟨xs, hl, hq⟩ := exists_list n (fun i hi => h i (by omega))
    obtain ⟨x, hx⟩ := h n (by omega)
    refine ⟨xs ++ [x], by simp [hl], fun i y hy => ?_⟩
    by_cases hi : i < n
    · rw [List.getElem?_append_left (by omega)] at hy
      exact hq i y hy
    · rw [List.getElem?_append_right (by omega)] at hy
      have : i - xs.length = 0 := by
        have := (List.getElem?_eq_some_iff.1 hy).1
        simp at this
        omega
      rw [this] at hy
      simp at hy
      have e : i = n := by omega
      subst hy; subst e
      exact hx

theorem cell?_lt {w : World} {a : Addr} {u : Value} (h : w.cell? a = some u) : a.block < w.heap.size := by
  unfold World.cell? at h
  split at h
  · rename_i hb
    exact (Array.getElem?_eq_some_iff.1 hb).1
  · cases h

theorem Tr.leaf_slice {e t : TypeId} {cs : List Value} (ht : P.underlying t = some (.slice e)) (h : Tr P w t cs) : Leaves P w [.sl e] cs := by
  obtain ⟨H, enc, fuel, x, h⟩ := h
  rcases DataW.trod_slice ht h with ⟨rfl, _⟩ | ⟨a, len, cap, elems, rest, n, _, rfl, _, _, h1, h2, h3, h4, _⟩
  · exact ⟨⟨none, 0, 0, rfl, by omega, by simp [maxLen], [], rfl, by simp, Reads.nil⟩, trivial⟩
  · refine ⟨⟨some a, len, cap, rfl, h1, h2, ?_⟩, trivial⟩
    obtain ⟨xs, hl, hx⟩ := exists_list (Q := fun i es => w.cells? 0 (a.add (i * P.cellsOf e)) (P.cellsOf e) = some es ∧ Tr P w e es) len (fun i hi => by
      have := h4 i hi
      rw [List.getElem?_eq_getElem (by omega)] at this
      obtain ⟨es, he, hd⟩ := Option.bind_eq_some_iff.1 this
      exact ⟨es, he, H, enc, n, _, hd⟩)
    have hlen : ∀ x ∈ xs, x.length = P.cellsOf e ∧ Tr P w e x := fun x hm => by
      obtain ⟨i, hi, rfl⟩ := List.getElem_of_mem hm
      obtain ⟨hc, ht⟩ := hx i _ (List.getElem?_eq_getElem hi)
      exact ⟨(cells?_get hc).1, ht⟩
    refine ⟨xs, hl, hlen, fun hp => ?_⟩
    have hcell : ∀ j u, xs.flatten[j]? = some u → w.cell? (a.add (0 + j)) = some u := flatten_get (Q := fun j u => w.cell? (a.add j) = some u) (k := P.cellsOf e) xs 0 (fun x hm => (hlen x hm).1) (fun i x hxi r u hu => by
      have hc := (cells?_get (hx i x hxi).1).2 r u hu
      have ea : (a.add (i * P.cellsOf e)).add r = a.add (0 + (i * P.cellsOf e + r)) := by
        unfold Addr.add
        by_cases e1 : i * P.cellsOf e = 0 <;> by_cases e2 : r = 0 <;> simp [e1, e2]
        omega
      rw [← ea]
      exact hc)
    have h0 := hcell 0 _ (List.getElem?_eq_getElem hp)
    obtain ⟨b, off, spot⟩ := a
    have hspot : spot = none := by simpa [Addr.add] using World.cell?_spot h0
    subst hspot
    refine ⟨b, off, rfl, by simpa [Addr.add] using cell?_lt h0, fun j u hu => ?_⟩
    rw [← Go.WideShapes.add_plain]
    simpa using hcell j u hu

theorem leaves_ok : ∀ (n : Nat) (t : TypeId) (ls : List Leaf) (cs : List Value), leaves P n t = some ls → Tr P w t cs → Leaves P w ls cs
  | 0, _, _, _, h, _ => by cases h
  | n + 1, t, ls, cs, h, ht => by
    unfold leaves at h
    split at h
    · rename_i hu; cases h
      obtain ⟨H, enc, fuel, x, ht⟩ := ht
      obtain ⟨b, rfl, _⟩ := DataW.trod_bool hu ht
      exact ⟨⟨b, rfl⟩, trivial⟩
    · rename_i k hu; cases h
      obtain ⟨H, enc, fuel, x, ht⟩ := ht
      obtain ⟨b, rfl, _, hw⟩ := DataW.trod_int hu ht
      exact ⟨⟨b, rfl, hw⟩, trivial⟩
    · rename_i hu; cases h
      obtain ⟨H, enc, fuel, x, ht⟩ := ht
      obtain ⟨b, rfl, _, hw⟩ := DataW.trod_string hu ht
      exact ⟨⟨b, rfl, hw⟩, trivial⟩
    · rename_i e hu; cases h
      exact Tr.leaf_slice hu ht
    · rename_i fs hu
      obtain ⟨ls', hg, h⟩ := Option.bind_eq_some_iff.1 h
      split at h
      · rename_i hl
        cases h
        obtain ⟨H, enc, fuel, x, ht⟩ := ht
        obtain ⟨xs, m, _, _, hc, hx, hf⟩ := DataW.trod_struct hu ht
        have := gather_ok (w := w) (leaves_ok n) _ 0 ls cs hg (by omega) (fun y hy => by
          simp only [List.mem_map] at hy
          obtain ⟨f, hfm, rfl⟩ := hy
          obtain ⟨i, hi, rfl⟩ := List.getElem_of_mem hfm
          have hi' : i < fs.size := by simpa using hi
          have := hf i _ (by rw [Array.getElem?_eq_getElem hi'])
          rw [List.getElem?_eq_getElem (by omega)] at this
          exact ⟨H, enc, m, _, by simpa using this⟩)
        simpa using this
      · cases h
    · rename_i k e hu
      obtain ⟨ls', hg, h⟩ := Option.bind_eq_some_iff.1 h
      split at h
      · rename_i hl
        cases h
        obtain ⟨H, enc, fuel, x, ht⟩ := ht
        obtain ⟨xs, m, _, _, hc, hx, hf⟩ := DataW.trod_array hu ht
        have := gather_ok (w := w) (leaves_ok n) _ 0 ls cs hg (by omega) (fun y hy => by
          simp only [List.mem_map, List.mem_range] at hy
          obtain ⟨i, hi, rfl⟩ := hy
          have := hf i hi
          rw [List.getElem?_eq_getElem (by omega)] at this
          exact ⟨H, enc, m, _, this⟩)
        simpa using this
      · cases h
    · cases h

end

/-- an argument: its value, and its leaves -/
theorem arg_agg {P : Program} {w : World} {H : Type} {enc : TypeId × Value → H} {t : TypeId} {v : Value} {d : DataW H} {p : List MemPlace} {ls : List Leaf} {r : Reach} {base : Nat} (n : Nat)
    (hu : (match P.underlying t with | some (.struct _) | some (.array _ _) => true | _ => false) = true) (hls : leaves P n t = some ls)
    (hv : Value.okWide P w r base t v) (h : DataW.Trod enc P w 0 (fun _ => true) true t v d p) : ∃ cs, v = .agg cs ∧ Leaves P w ls cs.toList := by
  obtain ⟨fuel, h⟩ := h
  unfold Value.okWide at hv
  split at hu
  · rename_i hq
    rw [hq] at hv
    obtain ⟨cs, rfl, _⟩ := hv
    exact ⟨cs, rfl, leaves_ok n t ls _ hls ⟨H, enc, fuel, _, h⟩⟩
  · rename_i hq
    rw [hq] at hv
    obtain ⟨cs, rfl, _⟩ := hv
    exact ⟨cs, rfl, leaves_ok n t ls _ hls ⟨H, enc, fuel, _, h⟩⟩
  · cases hu
theorem arg_slice {P : Program} {w : World} {H : Type} {enc : TypeId × Value → H} {t e : TypeId} {v : Value} {d : DataW H} {p : List MemPlace} {r : Reach} {base : Nat}
    (hu : P.underlying t = some (.slice e)) (hv : Value.okWide P w r base t v) (h : DataW.Trod enc P w 0 (fun _ => true) true t v d p) : LeafOk P w (.sl e) v := by
  obtain ⟨A, len, cap, rfl⟩ := okWide_slice hu hv
  obtain ⟨fuel, h⟩ := h
  exact (Tr.leaf_slice hu ⟨H, enc, fuel, _, h⟩).1

/-- the cells of a slice of integers -/
theorem ints_of {P : Program} {w : World} {e : TypeId} {xs : List (List Value)} {k : IntKind} (he : P.underlying e = some (.int k)) : (∀ x ∈ xs, x.length = P.cellsOf e ∧ Tr P w e x) →
    ∃ zs : List Int, zs.length = xs.length ∧ xs.flatten = zs.map (Value.int k) ∧ ∀ z ∈ zs, (Lit.int k z).wf = true := by
  induction xs with
  | nil => exact fun _ => ⟨[], rfl, rfl, by simp⟩
  | cons x xs ih =>
    intro h
    obtain ⟨zs, h1, h2, h3⟩ := ih (fun y hy => h y (List.mem_cons_of_mem _ hy))
    obtain ⟨H, enc, fuel, y, ht⟩ := (h x List.mem_cons_self).2
    obtain ⟨z, rfl, _, hw⟩ := DataW.trod_int he ht
    exact ⟨z :: zs, by simp [h1], by simp [h2], by simpa using ⟨hw, h3⟩⟩
end Go.Proofs.Ytjecfilbdabheaa
