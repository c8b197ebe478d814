/- What all walks of this seat use: how a call ends, and small laws. -/
import Derived.Test.YtjecfilbdabheaaProg
import Derived.Test.YtjecfilbdabheaaPure
import Derived.WalkKit
import Derived.WalkSpells
import Derived.WalkLawsBesides
import Derived.Lib.Hide
import Derived.Deep.QuietTactic
import Derived.BigQuiet
import Derived.Deep.RegionHeld3
import Derived.Deep.RegionWith
namespace Go.Proofs.Ytjecfilbdabheaa
open Go.RowKit
set_option linter.unusedSimpArgs false
set_option linter.unusedVariables false

/-- The call returns v, and has at most laid new blocks. -/
def Ret (v : Value) (w : World) : Ending → World → Prop := fun e w' => e = .returned v ∧ Below w.heap.size w w'
/-- The call returns v, and the world is as it was. -/
def Same (v : Value) (w : World) : Ending → World → Prop := fun e w' => e = .returned v ∧ w = w'

theorem Ret.mk {v v' : Value} {w w' : World} (h : v = v') (hb : Below w.heap.size w w') : Ret v' w (.returned v) w' := ⟨by rw [h], hb⟩
theorem Same.mk {v v' : Value} {w : World} (h : v = v') : Same v' w (.returned v) w := ⟨by rw [h], rfl⟩
theorem Same.ret {v : Value} {w : World} {e : Ending} {w' : World} (h : Same v w e w') : Ret v w e w' := ⟨h.1, h.2 ▸ Below.refl _ _⟩

theorem vbool {a b : Bool} (h : a = true ↔ b = true) : Value.bool a = Value.bool b := by
  rw [Bool.eq_iff_iff.2 h]
theorem vint {k : IntKind} {a b : Int} (h : a = b) : Value.int k a = Value.int k b := by rw [h]

/-- from a call's world on, below an older number -/
theorem below_step {B : Nat} {w w1 w2 : World} (h : Below B w w1) (h2 : Below w1.heap.size w1 w2) (hB : B ≤ w1.heap.size) : Below B w w2 := h.trans (h2.mono hB)
theorem below_size {B : Nat} {w w1 : World} (h : Below B w w1) : w.heap.size ≤ w1.heap.size := h.size

/-- all old cells, and all old marks, read as before -/
theorem bcell {W w1 : World} (hb : Below W.heap.size W w1) : (∀ b o, b < W.heap.size → w1.cell? ⟨b, o, none⟩ = W.cell? ⟨b, o, none⟩) ∧ (∀ b o, b < W.heap.size → w1.frozen? ⟨b, o, none⟩ = W.frozen? ⟨b, o, none⟩) :=
  ⟨fun b o h => hb.cell (p := ⟨b, o, none⟩) h, fun b o h => hb.frozen (p := ⟨b, o, none⟩) h⟩

/-- 'string([]byte{..})': the bytes lie in the block that was laid last -/
theorem conv_lit {P : Program} (src dst e : TypeId) (hs : P.underlying src = some (.slice e)) (he : P.underlying e = some (.int .u8)) (hd : P.underlying dst = some .string) (xs : List Int) (cap : Nat) (W : World) :
    (convert src dst (.slice (some ⟨W.heap.size, 0, none⟩) xs.length cap)).run P (W.alloc (.cells (xs.map (Value.int .u8)).toArray e)) = .ok (.string (strOfNums xs)) (W.alloc (.cells (xs.map (Value.int .u8)).toArray e)) := by
  refine run_convert_bytes_arg _ src e hs he _ 0 _ cap xs rfl (fun i hi => ?_) dst hd
  have hb : (W.alloc (.cells (xs.map (Value.int .u8)).toArray e)).heap[W.heap.size]? = some (.cells (xs.map (Value.int .u8)).toArray e (0, 0)) := by
    show (W.heap.push _)[W.heap.size]? = _
    simp
  simp only [Nat.zero_add, World.cell?, hb]
  simp [List.getD, List.getElem?_eq_getElem hi]

theorem conv_at {P : Program} (src dst e : TypeId) (hs : P.underlying src = some (.slice e)) (he : P.underlying e = some (.int .u8)) (hd : P.underlying dst = some .string) (xs : List Int) (cap : Nat) (W : World) (B : Nat) (hB : W.heap.size = B) :
    (convert src dst (.slice (some ⟨B, 0, none⟩) xs.length cap)).run P (W.alloc (.cells (xs.map (Value.int .u8)).toArray e)) = .ok (.string (strOfNums xs)) (W.alloc (.cells (xs.map (Value.int .u8)).toArray e)) := by
  subst hB
  exact conv_lit src dst e hs he hd xs cap W

theorem strOfNums_append (xs ys : List Int) : strOfNums xs ++ strOfNums ys = strOfNums (xs ++ ys) := by
  unfold strOfNums
  apply ByteArray.ext
  simp [ByteArray.data_append]

/-- A slice's cells: 'A' its address, 'xs' all its cells, in a block below B. -/
def Reads (w : World) (B : Nat) (A : Option Addr) (xs : List Value) : Prop :=
  0 < xs.length → ∃ b o, A = some ⟨b, o, none⟩ ∧ b < B ∧ ∀ j u, xs[j]? = some u → w.cell? ⟨b, o + j, none⟩ = some u

section
variable {w w' : World} {B B' : Nat} {A : Option Addr} {xs : List Value}
theorem Reads.nil : Reads w B A [] := fun h => absurd h (by simp)
theorem Reads.keep (h : Reads w B A xs) (hk : ∀ p : Addr, p.block < B → w'.cell? p = w.cell? p) : Reads w' B A xs := fun hn => by
  obtain ⟨b, o, e, hb, hc⟩ := h hn
  exact ⟨b, o, e, hb, fun j u hu => (hk _ hb).trans (hc j u hu)⟩
theorem Reads.more (h : Reads w B A xs) (hB : B ≤ B') : Reads w B' A xs := fun hn => by
  obtain ⟨b, o, e, hb, hc⟩ := h hn
  exact ⟨b, o, e, by omega, hc⟩
theorem Reads.below (h : Reads w B A xs) (hb : Below B w w') : Reads w' B A xs := h.keep fun _ hp => hb.cell hp
theorem Reads.at_ {k : Nat} (h : Reads w B A xs) (hk : k < xs.length) : ∃ b o, A = some ⟨b, o, none⟩ ∧ b < B ∧ ∀ j (hj : j < xs.length), w.cell? ⟨b, o + j, none⟩ = some xs[j] := by
  obtain ⟨b, o, e, hb, hc⟩ := h (by omega)
  exact ⟨b, o, e, hb, fun j hj => hc j _ (List.getElem?_eq_getElem hj)⟩
theorem Reads.of_own {base : Nat} {e : TypeId} {c size n : Nat} (h : w.ownsRow base e size (.slice A n c) n xs) : Reads w w.heap.size A xs := by
  intro hn
  have hx : xs.length = n * size := h.1
  have hn' : 0 < n := by
    rcases Nat.eq_zero_or_pos n with e | e
    · subst e; simp at hx; subst hx; simp at hn
    · exact e
  rcases h.2 with ⟨_, h0⟩ | ⟨g, cap, cur, hv, _, hh, _⟩
  · omega
  · have hA : A = some ⟨g, 0, none⟩ := by injection hv
    subst hA
    have hlt : g < w.heap.size := by
      rcases Nat.lt_or_ge g w.heap.size with h1 | h1
      · exact h1
      · rw [Array.getElem?_eq_none h1] at hh; cases hh
    refine ⟨g, 0, rfl, hlt, fun j u hu => ?_⟩
    have := h.cells (g := g) rfl j u hu
    have e0 : (⟨g, 0, none⟩ : Addr).add j = ⟨g, 0 + j, none⟩ := by unfold Addr.add; split <;> simp_all
    rw [e0] at this
    exact this
end

def ints (l : List Int) : List Value := l.map (Value.int .i64)
theorem ints_length (l : List Int) : (ints l).length = l.length := by simp [ints]
theorem ints_at {w : World} {B : Nat} {A : Option Addr} {l : List Int} {k : Nat} (h : Reads w B A (ints l)) (hk : k < l.length) :
    ∃ b o, A = some ⟨b, o, none⟩ ∧ b < B ∧ ∀ j (hj : j < l.length), w.cell? ⟨b, o + j, none⟩ = some (.int .i64 l[j]) := by
  obtain ⟨b, o, e, hb, hc⟩ := h.at_ (k := k) (by rw [ints_length]; exact hk)
  exact ⟨b, o, e, hb, fun j hj => by rw [hc j (by rw [ints_length]; exact hj)]; simp [ints]⟩

/-- a call that leaves the world alone, inside a region that draws its order -/
theorem quietS {P : Program} {f : FuncId} {args : Array Value} {w : World} {n : Nat} {v : Value} (h : Calls P f args (w.drewN n) (Same v (w.drewN n))) :
    Calls P f args (w.drewN n) fun e w'' => e = .returned v ∧ ∃ m, w'' = w.drewN m := h.mono fun _ _ ⟨he, hm⟩ => ⟨he, n, hm.symm⟩
theorem below_drewN {B : Nat} {a w : World} (h : Below B a w) (n : Nat) : Below B a (w.drewN n) := ⟨h.os, h.tape, h.output, h.size, h.block⟩

end Go.Proofs.Ytjecfilbdabheaa
