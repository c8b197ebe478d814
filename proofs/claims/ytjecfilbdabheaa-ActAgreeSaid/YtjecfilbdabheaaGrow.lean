/- Worlds as chains: what a call adds is a 'grow'; cells are read through the chain, by sizes alone. -/
import Derived.Test.YtjecfilbdabheaaCalm
namespace Go.Proofs.Ytjecfilbdabheaa
open Go.RowKit
set_option linter.unusedSimpArgs false
set_option linter.unusedVariables false

/-- a call that returns v and at most lays new blocks -/
def Grew (W w' : World) : Prop := ∃ z, w' = W.grow z
/-- the call returns v, and the world is W with new blocks -/
def RetG (v : Value) (W : World) : Ending → World → Prop := fun e w' => e = .returned v ∧ Grew W w'

/-- one addition behind another -/
def Ext.and (z z' : Ext) : Ext := ⟨z.blocks ++ z'.blocks, z'.draws⟩
theorem grow_grow (w : World) (z z' : Ext) : (w.grow z).grow z' = w.grow (z.and z') := by
  unfold World.grow Ext.and
  simp
@[go_sem] theorem size_and (z z' : Ext) : (z.and z').blocks.size = z.blocks.size + z'.blocks.size := Array.size_append
section
variable {w W w' : World} {z : Ext}
theorem Grew.refl (w : World) : Grew w w := grow_of_below (Below.refl _ _)
theorem Grew.below (h : Grew w w') : Below w.heap.size w w' := by obtain ⟨z, rfl⟩ := h; exact below_grow w z
theorem Grew.of_below (h : Below w.heap.size w w') : Grew w w' := grow_of_below h
theorem Grew.trans {w1 : World} (h : Grew w w1) (h2 : Grew w1 w') : Grew w w' := .of_below (h.below.trans (h2.below.mono h.below.size))
theorem Grew.alloc (h : Grew w W) (o : Obj) : Grew w (W.alloc o) := .of_below (h.below.alloc h.below.size o)
theorem Grew.drew (h : Grew w W) : Grew w W.drew := .of_below h.below.drew
theorem Grew.drewN (h : Grew w W) (n : Nat) : Grew w (W.drewN n) := .of_below (below_drewN h.below n)
theorem Grew.grow (h : Grew w W) (z : Ext) : Grew w (W.grow z) := h.trans ⟨z, rfl⟩
theorem Below.grow {B : Nat} (h : Below B w W) (hB : B ≤ W.heap.size) (z : Ext) : Below B w (W.grow z) := h.trans ((below_grow W z).mono hB)

@[go_sem] theorem size_grow (w : World) (z : Ext) : (w.grow z).heap.size = w.heap.size + z.blocks.size := Array.size_append
@[go_sem] theorem drew_grow (w : World) (z : Ext) : w.drew.grow z = w.grow z := rfl
@[go_sem] theorem drewN_grow (w : World) (n : Nat) (z : Ext) : (w.drewN n).grow z = w.grow z := rfl
@[go_sem] theorem setCell_grow (w : World) (z : Ext) (n i : Nat) (v : Value) (hn : n < w.heap.size) : (w.grow z).setCell ⟨n, i, none⟩ v = (w.setCell ⟨n, i, none⟩ v).grow z := by
  unfold World.setCell World.grow
  congr 1
  apply Array.ext_getElem?
  intro k
  simp only [Array.getElem?_modify]
  rcases Nat.lt_or_ge k w.heap.size with hk | hk
  · rw [Array.getElem?_append_left hk, Array.getElem?_append_left (by simpa using hk), Array.getElem?_modify]
  · rw [Array.getElem?_append_right hk, Array.getElem?_append_right (by simpa using hk), if_neg (by omega), Array.size_modify]
@[go_sem] theorem shape_grow (w : World) (z : Ext) (n : Nat) (hn : n < w.heap.size) : (w.grow z).shape? n = w.shape? n := by
  unfold World.shape?
  rw [heap_grow w z n hn]
@[go_sem] theorem heap_grow_lt (w : World) (z : Ext) (n : Nat) (hn : n < w.heap.size) : (w.grow z).heap[n]? = w.heap[n]? := heap_grow w z n hn
end
@[go_sem] theorem lt_lit {a b : Nat} (x : Nat) (h : a < b) : (a < b + x) = True := eq_true (by omega)
@[go_sem] theorem ne_lit {a b : Nat} (x : Nat) (h : a < b) : (a = b + x) = False := eq_false (by omega)
@[go_sem] theorem ne_lit' {a b : Nat} (x : Nat) (h : a < b) : (b + x = a) = False := eq_false (by omega)
@[go_sem] theorem le_lit {a b : Nat} (x : Nat) (h : a ≤ b) : (a ≤ b + x) = True := eq_true (by omega)
attribute [go_sem] Nat.add_assoc

section
variable {P : Program} {f : FuncId} {args : Array Value} {w : World} {v : Value}
theorem _root_.Go.Calls.g (h : Calls P f args w (Ret v w)) : Calls P f args w (RetG v w) := h.mono fun _ _ ⟨he, hb⟩ => ⟨he, .of_below hb⟩
theorem _root_.Go.Calls.s (h : Calls P f args w (Same v w)) : Calls P f args w (RetG v w) := h.mono fun _ _ ⟨he, hb⟩ => ⟨he, hb ▸ .refl _⟩
theorem _root_.Go.Calls.r (h : Calls P f args w (RetG v w)) : Calls P f args w (Ret v w) := h.mono fun _ _ ⟨he, hb⟩ => ⟨he, hb.below⟩
end
theorem RetG.mk {v v' : Value} {w w' : World} (h : v = v') (hb : Grew w w') : RetG v' w (.returned v) w' := ⟨by rw [h], hb⟩
end Go.Proofs.Ytjecfilbdabheaa
