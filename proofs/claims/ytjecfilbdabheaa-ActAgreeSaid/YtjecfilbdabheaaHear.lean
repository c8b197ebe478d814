/- hear: what is heard; and the document's ref07. -/
import Derived.Test.YtjecfilbdabheaaNode
namespace Go.Proofs.Ytjecfilbdabheaa
open Go.RowKit
set_option linter.unusedSimpArgs false
set_option linter.unusedVariables false

theorem cell_alloc_lt (w : World) (o : Obj) (a : Addr) (h : a.block < w.heap.size) : (w.alloc o).cell? a = w.cell? a := by
  have := (MapKept.heap_alloc w o).2 a.block h
  unfold World.cell?
  rw [this]

namespace Px
def pInfo (f : Frame) : Bool := decide (f.kind = 2)
def pOther (id : Int) (f : Frame) : Bool := decide (f.kind = 1 ∧ f.id ≠ id)
def pWrong (pos : Int) (f : Frame) : Bool := decide (f.kind = 2 ∧ f.id ≠ pos)
/-- the place of the first of two -/
def idx (p : Frame → Bool) (g h : Frame) : Int := if p g = true then 0 else if p h = true then 1 else -1
/-- the Id of the first of two, and whether there is one -/
def firstId (p : Frame → Bool) (g h : Frame) : Int := if p g = true then g.id else if p h = true then h.id else 0
theorem info_first (g h : Frame) : (infoOf g h).getD 0 = firstId pInfo g h ∧ (infoOf g h).isSome = (pInfo g || pInfo h) := by
  unfold infoOf firstId pInfo
  by_cases h1 : g.kind = 2 <;> by_cases h2 : h.kind = 2 <;> simp [h1, h2]
theorem other_first (g h : Frame) (id : Int) : (otherOf g h id).getD 0 = firstId (pOther id) g h ∧ (otherOf g h id).isSome = (pOther id g || pOther id h) := by
  unfold otherOf firstId pOther
  by_cases h1 : g.kind = 1 ∧ g.id ≠ id <;> by_cases h2 : h.kind = 1 ∧ h.id ≠ id <;> simp [h1, h2]
end Px

set_option maxRecDepth 100000 in
set_option maxHeartbeats 400000 in
theorem hear_Info1 (f : Px.Frame) (w : World) :
    Calls Try.prog 184 #[.agg #[.int .i64 f.kind, .int .i64 f.id]] w (Ret (.bool (Px.pInfo f)) w) := by
  have hp : Px.pInfo f = true ↔ f.kind = 2 := by simp [Px.pInfo]
  go_enter Try.func184, Try.ntmps184
  go_wp2
  all_goals (go_ret; refine Ret.mk (vbool ?_) (by repeat (first | exact Below.refl _ _ | assumption | (refine Below.alloc ?_ (by first | omega | (simp; omega) | simp) _) | (refine Below.drew ?_) | (refine below_drewN ?_ _) | (refine Below.setCell ?_ (by first | omega | (simp; omega) | simp) _) | (refine below_step ?_ (by assumption) (by first | omega | (simp; omega) | simp)))))
  all_goals (rw [hp]; simp_all)

set_option maxRecDepth 100000 in
set_option maxHeartbeats 400000 in
theorem index_Info (g h : Px.Frame) (B : Nat) (w : World) (hB : B < w.heap.size) (h0 : w.cell? ⟨B, 0, none⟩ = some (.int .i64 g.kind)) (h1 : w.cell? ⟨B, 1, none⟩ = some (.int .i64 g.id)) (h2 : w.cell? ⟨B, 2, none⟩ = some (.int .i64 h.kind)) (h3 : w.cell? ⟨B, 3, none⟩ = some (.int .i64 h.id)) :
    Calls Try.prog 174 #[.slice (some ⟨B, 0, none⟩) 2 2, (.func (.func 184) #[] #[])] w (Ret (.int .i64 (Px.idx Px.pInfo g h)) w) := by
  cases hg : Px.pInfo g with
  | true =>
    rw [show Px.idx Px.pInfo g h = 0 by simp [Px.idx, hg]]
    go_enter Try.func174, Try.ntmps174
    go_wp2
    refine wp_loop_rounds 2 ?_
    rw [rounds_succ]
    go_wp2_with (first | (go_at_call 184; (with_reducible refine (hear_Info1 g _).mono ?_); rintro e w1 ⟨rfl, hb_w1⟩; have hz_w1 := hb_w1.size; (try simp at hz_w1)))
    go_ret
    exact Ret.mk rfl (by repeat (first | exact Below.refl _ _ | assumption | (refine Below.alloc ?_ (by first | omega | (simp; omega) | simp) _) | (refine Below.drew ?_) | (refine below_drewN ?_ _) | (refine Below.setCell ?_ (by first | omega | (simp; omega) | simp) _) | (refine below_step ?_ (by assumption) (by first | omega | (simp; omega) | simp))))
  | false =>
    obtain ⟨v, hv⟩ : ∃ v, Px.idx Px.pInfo g h = v := ⟨_, rfl⟩
    cases hh : Px.pInfo h with
    | true =>
      rw [show Px.idx Px.pInfo g h = 1 by simp [Px.idx, hg, hh]]
      go_enter Try.func174, Try.ntmps174
      go_wp2
      refine wp_loop_rounds 3 ?_
      rw [rounds_succ]
      go_wp2_with (first | (go_at_call 184; (with_reducible refine (hear_Info1 g _).mono ?_); rintro e w1 ⟨rfl, hb_w1⟩; have hz_w1 := hb_w1.size; (try simp at hz_w1); have c2 := (hb_w1.cell (p := ⟨B, 2, none⟩) hB).trans h2; have c3 := (hb_w1.cell (p := ⟨B, 3, none⟩) hB).trans h3))
      rw [rounds_succ]
      go_wp2_with (first | (go_at_call 184; (with_reducible refine (hear_Info1 h _).mono ?_); rintro e w2 ⟨rfl, hb_w2⟩; have hz_w2 := hb_w2.size; (try simp at hz_w2)))
      go_ret
      exact Ret.mk rfl (by repeat (first | exact Below.refl _ _ | assumption | (refine Below.alloc ?_ (by first | omega | (simp; omega) | simp) _) | (refine Below.drew ?_) | (refine below_drewN ?_ _) | (refine Below.setCell ?_ (by first | omega | (simp; omega) | simp) _) | (refine below_step ?_ (by assumption) (by first | omega | (simp; omega) | simp))))
    | false =>
      rw [show Px.idx Px.pInfo g h = -1 by simp [Px.idx, hg, hh]]
      go_enter Try.func174, Try.ntmps174
      go_wp2
      refine wp_loop_rounds 3 ?_
      rw [rounds_succ]
      go_wp2_with (first | (go_at_call 184; (with_reducible refine (hear_Info1 g _).mono ?_); rintro e w1 ⟨rfl, hb_w1⟩; have hz_w1 := hb_w1.size; (try simp at hz_w1); have c2 := (hb_w1.cell (p := ⟨B, 2, none⟩) hB).trans h2; have c3 := (hb_w1.cell (p := ⟨B, 3, none⟩) hB).trans h3))
      rw [rounds_succ]
      go_wp2_with (first | (go_at_call 184; (with_reducible refine (hear_Info1 h _).mono ?_); rintro e w2 ⟨rfl, hb_w2⟩; have hz_w2 := hb_w2.size; (try simp at hz_w2)))
      rw [rounds_succ]
      go_wp2
      go_ret
      exact Ret.mk rfl (by repeat (first | exact Below.refl _ _ | assumption | (refine Below.alloc ?_ (by first | omega | (simp; omega) | simp) _) | (refine Below.drew ?_) | (refine below_drewN ?_ _) | (refine Below.setCell ?_ (by first | omega | (simp; omega) | simp) _) | (refine below_step ?_ (by assumption) (by first | omega | (simp; omega) | simp))))

set_option maxRecDepth 100000 in
set_option maxHeartbeats 400000 in
theorem hear_Other1 (k : Int) (b : Nat) (f : Px.Frame) (w : World) (hk : w.cell? ⟨b, 0, none⟩ = some (.int .i64 k)) (hb : b < w.heap.size) :
    Calls Try.prog 185 #[.agg #[.int .i64 f.kind, .int .i64 f.id], .pointer (some ⟨b, 0, none⟩)] w (Ret (.bool ((Px.pOther k) f)) w) := by
  have hp : (Px.pOther k) f = true ↔ f.kind = 1 ∧ f.id ≠ k := by simp [Px.pOther]
  go_enter Try.func185, Try.ntmps185
  go_wp2
  all_goals (go_ret; refine Ret.mk (vbool ?_) (by repeat (first | exact Below.refl _ _ | assumption | (refine Below.alloc ?_ (by first | omega | (simp; omega) | simp) _) | (refine Below.drew ?_) | (refine below_drewN ?_ _) | (refine Below.setCell ?_ (by first | omega | (simp; omega) | simp) _) | (refine below_step ?_ (by assumption) (by first | omega | (simp; omega) | simp)))))
  all_goals (rw [hp]; simp_all)

set_option maxRecDepth 100000 in
set_option maxHeartbeats 400000 in
theorem index_Other (k : Int) (b : Nat) (g h : Px.Frame) (B : Nat) (w : World) (hk : w.cell? ⟨b, 0, none⟩ = some (.int .i64 k)) (hb : b < w.heap.size) (hB : B < w.heap.size) (h0 : w.cell? ⟨B, 0, none⟩ = some (.int .i64 g.kind)) (h1 : w.cell? ⟨B, 1, none⟩ = some (.int .i64 g.id)) (h2 : w.cell? ⟨B, 2, none⟩ = some (.int .i64 h.kind)) (h3 : w.cell? ⟨B, 3, none⟩ = some (.int .i64 h.id)) :
    Calls Try.prog 174 #[.slice (some ⟨B, 0, none⟩) 2 2, (.func (.func 185) #[] #[.pointer (some ⟨b, 0, none⟩)])] w (Ret (.int .i64 (Px.idx (Px.pOther k) g h)) w) := by
  cases hg : (Px.pOther k) g with
  | true =>
    rw [show Px.idx (Px.pOther k) g h = 0 by simp [Px.idx, hg]]
    go_enter Try.func174, Try.ntmps174
    go_wp2
    refine wp_loop_rounds 2 ?_
    rw [rounds_succ]
    go_wp2_with (first | (go_at_call 185; (with_reducible refine (hear_Other1 k b g _ hk hb).mono ?_); rintro e w1 ⟨rfl, hb_w1⟩; have hz_w1 := hb_w1.size; (try simp at hz_w1)))
    go_ret
    exact Ret.mk rfl (by repeat (first | exact Below.refl _ _ | assumption | (refine Below.alloc ?_ (by first | omega | (simp; omega) | simp) _) | (refine Below.drew ?_) | (refine below_drewN ?_ _) | (refine Below.setCell ?_ (by first | omega | (simp; omega) | simp) _) | (refine below_step ?_ (by assumption) (by first | omega | (simp; omega) | simp))))
  | false =>
    obtain ⟨v, hv⟩ : ∃ v, Px.idx (Px.pOther k) g h = v := ⟨_, rfl⟩
    cases hh : (Px.pOther k) h with
    | true =>
      rw [show Px.idx (Px.pOther k) g h = 1 by simp [Px.idx, hg, hh]]
      go_enter Try.func174, Try.ntmps174
      go_wp2
      refine wp_loop_rounds 3 ?_
      rw [rounds_succ]
      go_wp2_with (first | (go_at_call 185; (with_reducible refine (hear_Other1 k b g _ hk hb).mono ?_); rintro e w1 ⟨rfl, hb_w1⟩; have hz_w1 := hb_w1.size; (try simp at hz_w1); have c2 := (hb_w1.cell (p := ⟨B, 2, none⟩) hB).trans h2; have c3 := (hb_w1.cell (p := ⟨B, 3, none⟩) hB).trans h3; have ck := (hb_w1.cell (p := ⟨b, 0, none⟩) hb).trans hk))
      rw [rounds_succ]
      go_wp2_with (first | (go_at_call 185; (with_reducible refine (hear_Other1 k b h _ ck (by omega)).mono ?_); rintro e w2 ⟨rfl, hb_w2⟩; have hz_w2 := hb_w2.size; (try simp at hz_w2)))
      go_ret
      exact Ret.mk rfl (by repeat (first | exact Below.refl _ _ | assumption | (refine Below.alloc ?_ (by first | omega | (simp; omega) | simp) _) | (refine Below.drew ?_) | (refine below_drewN ?_ _) | (refine Below.setCell ?_ (by first | omega | (simp; omega) | simp) _) | (refine below_step ?_ (by assumption) (by first | omega | (simp; omega) | simp))))
    | false =>
      rw [show Px.idx (Px.pOther k) g h = -1 by simp [Px.idx, hg, hh]]
      go_enter Try.func174, Try.ntmps174
      go_wp2
      refine wp_loop_rounds 3 ?_
      rw [rounds_succ]
      go_wp2_with (first | (go_at_call 185; (with_reducible refine (hear_Other1 k b g _ hk hb).mono ?_); rintro e w1 ⟨rfl, hb_w1⟩; have hz_w1 := hb_w1.size; (try simp at hz_w1); have c2 := (hb_w1.cell (p := ⟨B, 2, none⟩) hB).trans h2; have c3 := (hb_w1.cell (p := ⟨B, 3, none⟩) hB).trans h3; have ck := (hb_w1.cell (p := ⟨b, 0, none⟩) hb).trans hk))
      rw [rounds_succ]
      go_wp2_with (first | (go_at_call 185; (with_reducible refine (hear_Other1 k b h _ ck (by omega)).mono ?_); rintro e w2 ⟨rfl, hb_w2⟩; have hz_w2 := hb_w2.size; (try simp at hz_w2)))
      rw [rounds_succ]
      go_wp2
      go_ret
      exact Ret.mk rfl (by repeat (first | exact Below.refl _ _ | assumption | (refine Below.alloc ?_ (by first | omega | (simp; omega) | simp) _) | (refine Below.drew ?_) | (refine below_drewN ?_ _) | (refine Below.setCell ?_ (by first | omega | (simp; omega) | simp) _) | (refine below_step ?_ (by assumption) (by first | omega | (simp; omega) | simp))))

set_option maxRecDepth 100000 in
set_option maxHeartbeats 400000 in
theorem hear_Wrong1 (k : Int) (b : Nat) (f : Px.Frame) (w : World) (hk : w.cell? ⟨b, 0, none⟩ = some (.int .i64 k)) (hb : b < w.heap.size) :
    Calls Try.prog 186 #[.agg #[.int .i64 f.kind, .int .i64 f.id], .pointer (some ⟨b, 0, none⟩)] w (Ret (.bool ((Px.pWrong k) f)) w) := by
  have hp : (Px.pWrong k) f = true ↔ f.kind = 2 ∧ f.id ≠ k := by simp [Px.pWrong]
  go_enter Try.func186, Try.ntmps186
  go_wp2
  all_goals (go_ret; refine Ret.mk (vbool ?_) (by repeat (first | exact Below.refl _ _ | assumption | (refine Below.alloc ?_ (by first | omega | (simp; omega) | simp) _) | (refine Below.drew ?_) | (refine below_drewN ?_ _) | (refine Below.setCell ?_ (by first | omega | (simp; omega) | simp) _) | (refine below_step ?_ (by assumption) (by first | omega | (simp; omega) | simp)))))
  all_goals (rw [hp]; simp_all)

set_option maxRecDepth 100000 in
set_option maxHeartbeats 400000 in
theorem index_Wrong (k : Int) (b : Nat) (g h : Px.Frame) (B : Nat) (w : World) (hk : w.cell? ⟨b, 0, none⟩ = some (.int .i64 k)) (hb : b < w.heap.size) (hB : B < w.heap.size) (h0 : w.cell? ⟨B, 0, none⟩ = some (.int .i64 g.kind)) (h1 : w.cell? ⟨B, 1, none⟩ = some (.int .i64 g.id)) (h2 : w.cell? ⟨B, 2, none⟩ = some (.int .i64 h.kind)) (h3 : w.cell? ⟨B, 3, none⟩ = some (.int .i64 h.id)) :
    Calls Try.prog 174 #[.slice (some ⟨B, 0, none⟩) 2 2, (.func (.func 186) #[] #[.pointer (some ⟨b, 0, none⟩)])] w (Ret (.int .i64 (Px.idx (Px.pWrong k) g h)) w) := by
  cases hg : (Px.pWrong k) g with
  | true =>
    rw [show Px.idx (Px.pWrong k) g h = 0 by simp [Px.idx, hg]]
    go_enter Try.func174, Try.ntmps174
    go_wp2
    refine wp_loop_rounds 2 ?_
    rw [rounds_succ]
    go_wp2_with (first | (go_at_call 186; (with_reducible refine (hear_Wrong1 k b g _ hk hb).mono ?_); rintro e w1 ⟨rfl, hb_w1⟩; have hz_w1 := hb_w1.size; (try simp at hz_w1)))
    go_ret
    exact Ret.mk rfl (by repeat (first | exact Below.refl _ _ | assumption | (refine Below.alloc ?_ (by first | omega | (simp; omega) | simp) _) | (refine Below.drew ?_) | (refine below_drewN ?_ _) | (refine Below.setCell ?_ (by first | omega | (simp; omega) | simp) _) | (refine below_step ?_ (by assumption) (by first | omega | (simp; omega) | simp))))
  | false =>
    obtain ⟨v, hv⟩ : ∃ v, Px.idx (Px.pWrong k) g h = v := ⟨_, rfl⟩
    cases hh : (Px.pWrong k) h with
    | true =>
      rw [show Px.idx (Px.pWrong k) g h = 1 by simp [Px.idx, hg, hh]]
      go_enter Try.func174, Try.ntmps174
      go_wp2
      refine wp_loop_rounds 3 ?_
      rw [rounds_succ]
      go_wp2_with (first | (go_at_call 186; (with_reducible refine (hear_Wrong1 k b g _ hk hb).mono ?_); rintro e w1 ⟨rfl, hb_w1⟩; have hz_w1 := hb_w1.size; (try simp at hz_w1); have c2 := (hb_w1.cell (p := ⟨B, 2, none⟩) hB).trans h2; have c3 := (hb_w1.cell (p := ⟨B, 3, none⟩) hB).trans h3; have ck := (hb_w1.cell (p := ⟨b, 0, none⟩) hb).trans hk))
      rw [rounds_succ]
      go_wp2_with (first | (go_at_call 186; (with_reducible refine (hear_Wrong1 k b h _ ck (by omega)).mono ?_); rintro e w2 ⟨rfl, hb_w2⟩; have hz_w2 := hb_w2.size; (try simp at hz_w2)))
      go_ret
      exact Ret.mk rfl (by repeat (first | exact Below.refl _ _ | assumption | (refine Below.alloc ?_ (by first | omega | (simp; omega) | simp) _) | (refine Below.drew ?_) | (refine below_drewN ?_ _) | (refine Below.setCell ?_ (by first | omega | (simp; omega) | simp) _) | (refine below_step ?_ (by assumption) (by first | omega | (simp; omega) | simp))))
    | false =>
      rw [show Px.idx (Px.pWrong k) g h = -1 by simp [Px.idx, hg, hh]]
      go_enter Try.func174, Try.ntmps174
      go_wp2
      refine wp_loop_rounds 3 ?_
      rw [rounds_succ]
      go_wp2_with (first | (go_at_call 186; (with_reducible refine (hear_Wrong1 k b g _ hk hb).mono ?_); rintro e w1 ⟨rfl, hb_w1⟩; have hz_w1 := hb_w1.size; (try simp at hz_w1); have c2 := (hb_w1.cell (p := ⟨B, 2, none⟩) hB).trans h2; have c3 := (hb_w1.cell (p := ⟨B, 3, none⟩) hB).trans h3; have ck := (hb_w1.cell (p := ⟨b, 0, none⟩) hb).trans hk))
      rw [rounds_succ]
      go_wp2_with (first | (go_at_call 186; (with_reducible refine (hear_Wrong1 k b h _ ck (by omega)).mono ?_); rintro e w2 ⟨rfl, hb_w2⟩; have hz_w2 := hb_w2.size; (try simp at hz_w2)))
      rw [rounds_succ]
      go_wp2
      go_ret
      exact Ret.mk rfl (by repeat (first | exact Below.refl _ _ | assumption | (refine Below.alloc ?_ (by first | omega | (simp; omega) | simp) _) | (refine Below.drew ?_) | (refine below_drewN ?_ _) | (refine Below.setCell ?_ (by first | omega | (simp; omega) | simp) _) | (refine below_step ?_ (by assumption) (by first | omega | (simp; omega) | simp))))

set_option maxRecDepth 100000 in
set_option maxHeartbeats 400000 in
theorem first_Info (g h : Px.Frame) (w : World) :
    Calls Try.prog 183 #[.agg #[.int .i64 g.kind, .int .i64 g.id, .int .i64 h.kind, .int .i64 h.id], (.func (.func 184) #[] #[])] w (Ret (.tuple #[.int .i64 (Px.firstId Px.pInfo g h), .bool (Px.pInfo g || Px.pInfo h)]) w) := by
  obtain ⟨w0, hw0⟩ : ∃ w0, w0 = w.alloc (.cells #[.int .i64 g.kind, .int .i64 g.id, .int .i64 h.kind, .int .i64 h.id] 47) := ⟨_, rfl⟩
  have hi := index_Info g h w.heap.size w0 (by rw [hw0]; simp) (by rw [hw0]; simp [go_sem]) (by rw [hw0]; simp [go_sem]) (by rw [hw0]; simp [go_sem]) (by rw [hw0]; simp [go_sem])
  subst hw0
  cases hg : Px.pInfo g with
  | true =>
    rw [show Px.idx Px.pInfo g h = 0 by simp [Px.idx, hg]] at hi
    rw [show Px.firstId Px.pInfo g h = g.id by simp [Px.firstId, hg]]
    go_enter Try.func183, Try.ntmps183
    go_wp2_with (first | (go_at_call 174; (with_reducible refine (hi).mono ?_); rintro e w1 ⟨rfl, hb_w1⟩; have hz_w1 := hb_w1.size; (try simp at hz_w1); have hz_w1_w_0 : w.heap.size < w1.heap.size := (by omega); have c_w1_w_0_0 := hb_w1.cell (p := ⟨w.heap.size, 0, none⟩) (by first | (simp; done) | (simp; omega)); simp [go_sem] at c_w1_w_0_0; have c_w1_w_0_1 := hb_w1.cell (p := ⟨w.heap.size, 1, none⟩) (by first | (simp; done) | (simp; omega)); simp [go_sem] at c_w1_w_0_1; have c_w1_w_0_2 := hb_w1.cell (p := ⟨w.heap.size, 2, none⟩) (by first | (simp; done) | (simp; omega)); simp [go_sem] at c_w1_w_0_2; have c_w1_w_0_3 := hb_w1.cell (p := ⟨w.heap.size, 3, none⟩) (by first | (simp; done) | (simp; omega)); simp [go_sem] at c_w1_w_0_3; have f_w1_w_0 : ∀ o, w1.frozen? ⟨w.heap.size, o, none⟩ = false := (fun o => (hb_w1.frozen (p := ⟨w.heap.size, o, none⟩) (by first | (simp; done) | (simp; omega))).trans (by simp [go_sem]))))
    refine bodyPost_ret (v := .tuple #[.int .i64 g.id, .bool true]) (by simp [results, Try.results183, go_sem]) rfl ⟨rfl, (by repeat (first | exact Below.refl _ _ | assumption | (refine Below.alloc ?_ (by first | omega | (simp; omega) | simp) _) | (refine Below.drew ?_) | (refine below_drewN ?_ _) | (refine Below.setCell ?_ (by first | omega | (simp; omega) | simp) _) | (refine below_step ?_ (by assumption) (by first | omega | (simp; omega) | simp))))⟩
  | false =>
    cases hh : Px.pInfo h with
    | true =>
      rw [show Px.idx Px.pInfo g h = 1 by simp [Px.idx, hg, hh]] at hi
      rw [show Px.firstId Px.pInfo g h = h.id by simp [Px.firstId, hg, hh]]
      go_enter Try.func183, Try.ntmps183
      go_wp2_with (first | (go_at_call 174; (with_reducible refine (hi).mono ?_); rintro e w1 ⟨rfl, hb_w1⟩; have hz_w1 := hb_w1.size; (try simp at hz_w1); have hz_w1_w_0 : w.heap.size < w1.heap.size := (by omega); have c_w1_w_0_0 := hb_w1.cell (p := ⟨w.heap.size, 0, none⟩) (by first | (simp; done) | (simp; omega)); simp [go_sem] at c_w1_w_0_0; have c_w1_w_0_1 := hb_w1.cell (p := ⟨w.heap.size, 1, none⟩) (by first | (simp; done) | (simp; omega)); simp [go_sem] at c_w1_w_0_1; have c_w1_w_0_2 := hb_w1.cell (p := ⟨w.heap.size, 2, none⟩) (by first | (simp; done) | (simp; omega)); simp [go_sem] at c_w1_w_0_2; have c_w1_w_0_3 := hb_w1.cell (p := ⟨w.heap.size, 3, none⟩) (by first | (simp; done) | (simp; omega)); simp [go_sem] at c_w1_w_0_3; have f_w1_w_0 : ∀ o, w1.frozen? ⟨w.heap.size, o, none⟩ = false := (fun o => (hb_w1.frozen (p := ⟨w.heap.size, o, none⟩) (by first | (simp; done) | (simp; omega))).trans (by simp [go_sem]))))
      refine bodyPost_ret (v := .tuple #[.int .i64 h.id, .bool true]) (by simp [results, Try.results183, go_sem]) rfl ⟨rfl, (by repeat (first | exact Below.refl _ _ | assumption | (refine Below.alloc ?_ (by first | omega | (simp; omega) | simp) _) | (refine Below.drew ?_) | (refine below_drewN ?_ _) | (refine Below.setCell ?_ (by first | omega | (simp; omega) | simp) _) | (refine below_step ?_ (by assumption) (by first | omega | (simp; omega) | simp))))⟩
    | false =>
      rw [show Px.idx Px.pInfo g h = -1 by simp [Px.idx, hg, hh]] at hi
      rw [show Px.firstId Px.pInfo g h = 0 by simp [Px.firstId, hg, hh]]
      go_enter Try.func183, Try.ntmps183
      go_wp2_with (first | (go_at_call 174; (with_reducible refine (hi).mono ?_); rintro e w1 ⟨rfl, hb_w1⟩; have hz_w1 := hb_w1.size; (try simp at hz_w1); have hz_w1_w_0 : w.heap.size < w1.heap.size := (by omega); have c_w1_w_0_0 := hb_w1.cell (p := ⟨w.heap.size, 0, none⟩) (by first | (simp; done) | (simp; omega)); simp [go_sem] at c_w1_w_0_0; have c_w1_w_0_1 := hb_w1.cell (p := ⟨w.heap.size, 1, none⟩) (by first | (simp; done) | (simp; omega)); simp [go_sem] at c_w1_w_0_1; have c_w1_w_0_2 := hb_w1.cell (p := ⟨w.heap.size, 2, none⟩) (by first | (simp; done) | (simp; omega)); simp [go_sem] at c_w1_w_0_2; have c_w1_w_0_3 := hb_w1.cell (p := ⟨w.heap.size, 3, none⟩) (by first | (simp; done) | (simp; omega)); simp [go_sem] at c_w1_w_0_3; have f_w1_w_0 : ∀ o, w1.frozen? ⟨w.heap.size, o, none⟩ = false := (fun o => (hb_w1.frozen (p := ⟨w.heap.size, o, none⟩) (by first | (simp; done) | (simp; omega))).trans (by simp [go_sem]))))
      refine bodyPost_ret (v := .tuple #[.int .i64 0, .bool false]) (by simp [results, Try.results183, go_sem]) rfl ⟨rfl, (by repeat (first | exact Below.refl _ _ | assumption | (refine Below.alloc ?_ (by first | omega | (simp; omega) | simp) _) | (refine Below.drew ?_) | (refine below_drewN ?_ _) | (refine Below.setCell ?_ (by first | omega | (simp; omega) | simp) _) | (refine below_step ?_ (by assumption) (by first | omega | (simp; omega) | simp))))⟩

set_option maxRecDepth 100000 in
set_option maxHeartbeats 400000 in
theorem first_Other (k : Int) (b : Nat) (g h : Px.Frame) (w : World) (hk : w.cell? ⟨b, 0, none⟩ = some (.int .i64 k)) (hb : b < w.heap.size) :
    Calls Try.prog 183 #[.agg #[.int .i64 g.kind, .int .i64 g.id, .int .i64 h.kind, .int .i64 h.id], (.func (.func 185) #[] #[.pointer (some ⟨b, 0, none⟩)])] w (Ret (.tuple #[.int .i64 (Px.firstId (Px.pOther k) g h), .bool ((Px.pOther k) g || (Px.pOther k) h)]) w) := by
  obtain ⟨w0, hw0⟩ : ∃ w0, w0 = w.alloc (.cells #[.int .i64 g.kind, .int .i64 g.id, .int .i64 h.kind, .int .i64 h.id] 47) := ⟨_, rfl⟩
  have hi := index_Other k b g h w.heap.size w0 (by rw [hw0, cell_alloc_lt _ _ _ hb]; exact hk) (by rw [hw0]; simp; omega) (by rw [hw0]; simp) (by rw [hw0]; simp [go_sem]) (by rw [hw0]; simp [go_sem]) (by rw [hw0]; simp [go_sem]) (by rw [hw0]; simp [go_sem])
  subst hw0
  cases hg : (Px.pOther k) g with
  | true =>
    rw [show Px.idx (Px.pOther k) g h = 0 by simp [Px.idx, hg]] at hi
    rw [show Px.firstId (Px.pOther k) g h = g.id by simp [Px.firstId, hg]]
    go_enter Try.func183, Try.ntmps183
    go_wp2_with (first | (go_at_call 174; (with_reducible refine (hi).mono ?_); rintro e w1 ⟨rfl, hb_w1⟩; have hz_w1 := hb_w1.size; (try simp at hz_w1); have hz_w1_w_0 : w.heap.size < w1.heap.size := (by omega); have c_w1_w_0_0 := hb_w1.cell (p := ⟨w.heap.size, 0, none⟩) (by first | (simp; done) | (simp; omega)); simp [go_sem] at c_w1_w_0_0; have c_w1_w_0_1 := hb_w1.cell (p := ⟨w.heap.size, 1, none⟩) (by first | (simp; done) | (simp; omega)); simp [go_sem] at c_w1_w_0_1; have c_w1_w_0_2 := hb_w1.cell (p := ⟨w.heap.size, 2, none⟩) (by first | (simp; done) | (simp; omega)); simp [go_sem] at c_w1_w_0_2; have c_w1_w_0_3 := hb_w1.cell (p := ⟨w.heap.size, 3, none⟩) (by first | (simp; done) | (simp; omega)); simp [go_sem] at c_w1_w_0_3; have f_w1_w_0 : ∀ o, w1.frozen? ⟨w.heap.size, o, none⟩ = false := (fun o => (hb_w1.frozen (p := ⟨w.heap.size, o, none⟩) (by first | (simp; done) | (simp; omega))).trans (by simp [go_sem]))))
    refine bodyPost_ret (v := .tuple #[.int .i64 g.id, .bool true]) (by simp [results, Try.results183, go_sem]) rfl ⟨rfl, (by repeat (first | exact Below.refl _ _ | assumption | (refine Below.alloc ?_ (by first | omega | (simp; omega) | simp) _) | (refine Below.drew ?_) | (refine below_drewN ?_ _) | (refine Below.setCell ?_ (by first | omega | (simp; omega) | simp) _) | (refine below_step ?_ (by assumption) (by first | omega | (simp; omega) | simp))))⟩
  | false =>
    cases hh : (Px.pOther k) h with
    | true =>
      rw [show Px.idx (Px.pOther k) g h = 1 by simp [Px.idx, hg, hh]] at hi
      rw [show Px.firstId (Px.pOther k) g h = h.id by simp [Px.firstId, hg, hh]]
      go_enter Try.func183, Try.ntmps183
      go_wp2_with (first | (go_at_call 174; (with_reducible refine (hi).mono ?_); rintro e w1 ⟨rfl, hb_w1⟩; have hz_w1 := hb_w1.size; (try simp at hz_w1); have hz_w1_w_0 : w.heap.size < w1.heap.size := (by omega); have c_w1_w_0_0 := hb_w1.cell (p := ⟨w.heap.size, 0, none⟩) (by first | (simp; done) | (simp; omega)); simp [go_sem] at c_w1_w_0_0; have c_w1_w_0_1 := hb_w1.cell (p := ⟨w.heap.size, 1, none⟩) (by first | (simp; done) | (simp; omega)); simp [go_sem] at c_w1_w_0_1; have c_w1_w_0_2 := hb_w1.cell (p := ⟨w.heap.size, 2, none⟩) (by first | (simp; done) | (simp; omega)); simp [go_sem] at c_w1_w_0_2; have c_w1_w_0_3 := hb_w1.cell (p := ⟨w.heap.size, 3, none⟩) (by first | (simp; done) | (simp; omega)); simp [go_sem] at c_w1_w_0_3; have f_w1_w_0 : ∀ o, w1.frozen? ⟨w.heap.size, o, none⟩ = false := (fun o => (hb_w1.frozen (p := ⟨w.heap.size, o, none⟩) (by first | (simp; done) | (simp; omega))).trans (by simp [go_sem]))))
      refine bodyPost_ret (v := .tuple #[.int .i64 h.id, .bool true]) (by simp [results, Try.results183, go_sem]) rfl ⟨rfl, (by repeat (first | exact Below.refl _ _ | assumption | (refine Below.alloc ?_ (by first | omega | (simp; omega) | simp) _) | (refine Below.drew ?_) | (refine below_drewN ?_ _) | (refine Below.setCell ?_ (by first | omega | (simp; omega) | simp) _) | (refine below_step ?_ (by assumption) (by first | omega | (simp; omega) | simp))))⟩
    | false =>
      rw [show Px.idx (Px.pOther k) g h = -1 by simp [Px.idx, hg, hh]] at hi
      rw [show Px.firstId (Px.pOther k) g h = 0 by simp [Px.firstId, hg, hh]]
      go_enter Try.func183, Try.ntmps183
      go_wp2_with (first | (go_at_call 174; (with_reducible refine (hi).mono ?_); rintro e w1 ⟨rfl, hb_w1⟩; have hz_w1 := hb_w1.size; (try simp at hz_w1); have hz_w1_w_0 : w.heap.size < w1.heap.size := (by omega); have c_w1_w_0_0 := hb_w1.cell (p := ⟨w.heap.size, 0, none⟩) (by first | (simp; done) | (simp; omega)); simp [go_sem] at c_w1_w_0_0; have c_w1_w_0_1 := hb_w1.cell (p := ⟨w.heap.size, 1, none⟩) (by first | (simp; done) | (simp; omega)); simp [go_sem] at c_w1_w_0_1; have c_w1_w_0_2 := hb_w1.cell (p := ⟨w.heap.size, 2, none⟩) (by first | (simp; done) | (simp; omega)); simp [go_sem] at c_w1_w_0_2; have c_w1_w_0_3 := hb_w1.cell (p := ⟨w.heap.size, 3, none⟩) (by first | (simp; done) | (simp; omega)); simp [go_sem] at c_w1_w_0_3; have f_w1_w_0 : ∀ o, w1.frozen? ⟨w.heap.size, o, none⟩ = false := (fun o => (hb_w1.frozen (p := ⟨w.heap.size, o, none⟩) (by first | (simp; done) | (simp; omega))).trans (by simp [go_sem]))))
      refine bodyPost_ret (v := .tuple #[.int .i64 0, .bool false]) (by simp [results, Try.results183, go_sem]) rfl ⟨rfl, (by repeat (first | exact Below.refl _ _ | assumption | (refine Below.alloc ?_ (by first | omega | (simp; omega) | simp) _) | (refine Below.drew ?_) | (refine below_drewN ?_ _) | (refine Below.setCell ?_ (by first | omega | (simp; omega) | simp) _) | (refine below_step ?_ (by assumption) (by first | omega | (simp; omega) | simp))))⟩

set_option maxRecDepth 100000 in
set_option maxHeartbeats 400000 in
theorem first_Wrong (k : Int) (b : Nat) (g h : Px.Frame) (w : World) (hk : w.cell? ⟨b, 0, none⟩ = some (.int .i64 k)) (hb : b < w.heap.size) :
    Calls Try.prog 183 #[.agg #[.int .i64 g.kind, .int .i64 g.id, .int .i64 h.kind, .int .i64 h.id], (.func (.func 186) #[] #[.pointer (some ⟨b, 0, none⟩)])] w (Ret (.tuple #[.int .i64 (Px.firstId (Px.pWrong k) g h), .bool ((Px.pWrong k) g || (Px.pWrong k) h)]) w) := by
  obtain ⟨w0, hw0⟩ : ∃ w0, w0 = w.alloc (.cells #[.int .i64 g.kind, .int .i64 g.id, .int .i64 h.kind, .int .i64 h.id] 47) := ⟨_, rfl⟩
  have hi := index_Wrong k b g h w.heap.size w0 (by rw [hw0, cell_alloc_lt _ _ _ hb]; exact hk) (by rw [hw0]; simp; omega) (by rw [hw0]; simp) (by rw [hw0]; simp [go_sem]) (by rw [hw0]; simp [go_sem]) (by rw [hw0]; simp [go_sem]) (by rw [hw0]; simp [go_sem])
  subst hw0
  cases hg : (Px.pWrong k) g with
  | true =>
    rw [show Px.idx (Px.pWrong k) g h = 0 by simp [Px.idx, hg]] at hi
    rw [show Px.firstId (Px.pWrong k) g h = g.id by simp [Px.firstId, hg]]
    go_enter Try.func183, Try.ntmps183
    go_wp2_with (first | (go_at_call 174; (with_reducible refine (hi).mono ?_); rintro e w1 ⟨rfl, hb_w1⟩; have hz_w1 := hb_w1.size; (try simp at hz_w1); have hz_w1_w_0 : w.heap.size < w1.heap.size := (by omega); have c_w1_w_0_0 := hb_w1.cell (p := ⟨w.heap.size, 0, none⟩) (by first | (simp; done) | (simp; omega)); simp [go_sem] at c_w1_w_0_0; have c_w1_w_0_1 := hb_w1.cell (p := ⟨w.heap.size, 1, none⟩) (by first | (simp; done) | (simp; omega)); simp [go_sem] at c_w1_w_0_1; have c_w1_w_0_2 := hb_w1.cell (p := ⟨w.heap.size, 2, none⟩) (by first | (simp; done) | (simp; omega)); simp [go_sem] at c_w1_w_0_2; have c_w1_w_0_3 := hb_w1.cell (p := ⟨w.heap.size, 3, none⟩) (by first | (simp; done) | (simp; omega)); simp [go_sem] at c_w1_w_0_3; have f_w1_w_0 : ∀ o, w1.frozen? ⟨w.heap.size, o, none⟩ = false := (fun o => (hb_w1.frozen (p := ⟨w.heap.size, o, none⟩) (by first | (simp; done) | (simp; omega))).trans (by simp [go_sem]))))
    refine bodyPost_ret (v := .tuple #[.int .i64 g.id, .bool true]) (by simp [results, Try.results183, go_sem]) rfl ⟨rfl, (by repeat (first | exact Below.refl _ _ | assumption | (refine Below.alloc ?_ (by first | omega | (simp; omega) | simp) _) | (refine Below.drew ?_) | (refine below_drewN ?_ _) | (refine Below.setCell ?_ (by first | omega | (simp; omega) | simp) _) | (refine below_step ?_ (by assumption) (by first | omega | (simp; omega) | simp))))⟩
  | false =>
    cases hh : (Px.pWrong k) h with
    | true =>
      rw [show Px.idx (Px.pWrong k) g h = 1 by simp [Px.idx, hg, hh]] at hi
      rw [show Px.firstId (Px.pWrong k) g h = h.id by simp [Px.firstId, hg, hh]]
      go_enter Try.func183, Try.ntmps183
      go_wp2_with (first | (go_at_call 174; (with_reducible refine (hi).mono ?_); rintro e w1 ⟨rfl, hb_w1⟩; have hz_w1 := hb_w1.size; (try simp at hz_w1); have hz_w1_w_0 : w.heap.size < w1.heap.size := (by omega); have c_w1_w_0_0 := hb_w1.cell (p := ⟨w.heap.size, 0, none⟩) (by first | (simp; done) | (simp; omega)); simp [go_sem] at c_w1_w_0_0; have c_w1_w_0_1 := hb_w1.cell (p := ⟨w.heap.size, 1, none⟩) (by first | (simp; done) | (simp; omega)); simp [go_sem] at c_w1_w_0_1; have c_w1_w_0_2 := hb_w1.cell (p := ⟨w.heap.size, 2, none⟩) (by first | (simp; done) | (simp; omega)); simp [go_sem] at c_w1_w_0_2; have c_w1_w_0_3 := hb_w1.cell (p := ⟨w.heap.size, 3, none⟩) (by first | (simp; done) | (simp; omega)); simp [go_sem] at c_w1_w_0_3; have f_w1_w_0 : ∀ o, w1.frozen? ⟨w.heap.size, o, none⟩ = false := (fun o => (hb_w1.frozen (p := ⟨w.heap.size, o, none⟩) (by first | (simp; done) | (simp; omega))).trans (by simp [go_sem]))))
      refine bodyPost_ret (v := .tuple #[.int .i64 h.id, .bool true]) (by simp [results, Try.results183, go_sem]) rfl ⟨rfl, (by repeat (first | exact Below.refl _ _ | assumption | (refine Below.alloc ?_ (by first | omega | (simp; omega) | simp) _) | (refine Below.drew ?_) | (refine below_drewN ?_ _) | (refine Below.setCell ?_ (by first | omega | (simp; omega) | simp) _) | (refine below_step ?_ (by assumption) (by first | omega | (simp; omega) | simp))))⟩
    | false =>
      rw [show Px.idx (Px.pWrong k) g h = -1 by simp [Px.idx, hg, hh]] at hi
      rw [show Px.firstId (Px.pWrong k) g h = 0 by simp [Px.firstId, hg, hh]]
      go_enter Try.func183, Try.ntmps183
      go_wp2_with (first | (go_at_call 174; (with_reducible refine (hi).mono ?_); rintro e w1 ⟨rfl, hb_w1⟩; have hz_w1 := hb_w1.size; (try simp at hz_w1); have hz_w1_w_0 : w.heap.size < w1.heap.size := (by omega); have c_w1_w_0_0 := hb_w1.cell (p := ⟨w.heap.size, 0, none⟩) (by first | (simp; done) | (simp; omega)); simp [go_sem] at c_w1_w_0_0; have c_w1_w_0_1 := hb_w1.cell (p := ⟨w.heap.size, 1, none⟩) (by first | (simp; done) | (simp; omega)); simp [go_sem] at c_w1_w_0_1; have c_w1_w_0_2 := hb_w1.cell (p := ⟨w.heap.size, 2, none⟩) (by first | (simp; done) | (simp; omega)); simp [go_sem] at c_w1_w_0_2; have c_w1_w_0_3 := hb_w1.cell (p := ⟨w.heap.size, 3, none⟩) (by first | (simp; done) | (simp; omega)); simp [go_sem] at c_w1_w_0_3; have f_w1_w_0 : ∀ o, w1.frozen? ⟨w.heap.size, o, none⟩ = false := (fun o => (hb_w1.frozen (p := ⟨w.heap.size, o, none⟩) (by first | (simp; done) | (simp; omega))).trans (by simp [go_sem]))))
      refine bodyPost_ret (v := .tuple #[.int .i64 0, .bool false]) (by simp [results, Try.results183, go_sem]) rfl ⟨rfl, (by repeat (first | exact Below.refl _ _ | assumption | (refine Below.alloc ?_ (by first | omega | (simp; omega) | simp) _) | (refine Below.drew ?_) | (refine below_drewN ?_ _) | (refine Below.setCell ?_ (by first | omega | (simp; omega) | simp) _) | (refine below_step ?_ (by assumption) (by first | omega | (simp; omega) | simp))))⟩

set_option maxRecDepth 100000 in
set_option maxHeartbeats 400000 in
theorem hear_Info (g h : Px.Frame) (w : World) : Calls Try.prog 156 #[.agg #[.int .i64 g.kind, .int .i64 g.id, .int .i64 h.kind, .int .i64 h.id]] w (Ret (.tuple #[.int .i64 ((Px.infoOf g h).getD 0), .bool (Px.infoOf g h).isSome]) w) := by
  rw [(Px.info_first g h).1, (Px.info_first g h).2]
  go_enter Try.func156, Try.ntmps156
  go_wp2_with (first | (go_at_call 183; (with_reducible refine (first_Info g h _).mono ?_); rintro e w1 ⟨rfl, hb_w1⟩; have hz_w1 := hb_w1.size; (try simp at hz_w1); have hz_w1_w_0 : w.heap.size < w1.heap.size := (by omega); have c_w1_w_0_0 := hb_w1.cell (p := ⟨w.heap.size, 0, none⟩) (by first | (simp; done) | (simp; omega)); simp [go_sem] at c_w1_w_0_0; have c_w1_w_0_1 := hb_w1.cell (p := ⟨w.heap.size, 1, none⟩) (by first | (simp; done) | (simp; omega)); simp [go_sem] at c_w1_w_0_1; have c_w1_w_0_2 := hb_w1.cell (p := ⟨w.heap.size, 2, none⟩) (by first | (simp; done) | (simp; omega)); simp [go_sem] at c_w1_w_0_2; have c_w1_w_0_3 := hb_w1.cell (p := ⟨w.heap.size, 3, none⟩) (by first | (simp; done) | (simp; omega)); simp [go_sem] at c_w1_w_0_3; have f_w1_w_0 : ∀ o, w1.frozen? ⟨w.heap.size, o, none⟩ = false := (fun o => (hb_w1.frozen (p := ⟨w.heap.size, o, none⟩) (by first | (simp; done) | (simp; omega))).trans (by simp [go_sem]))))
  refine bodyPost_ret (v := .tuple #[.int .i64 (Px.firstId Px.pInfo g h), .bool (Px.pInfo g || Px.pInfo h)]) (by simp [results, Try.results156, go_sem]) rfl ⟨rfl, (by repeat (first | exact Below.refl _ _ | assumption | (refine Below.alloc ?_ (by first | omega | (simp; omega) | simp) _) | (refine Below.drew ?_) | (refine below_drewN ?_ _) | (refine Below.setCell ?_ (by first | omega | (simp; omega) | simp) _) | (refine below_step ?_ (by assumption) (by first | omega | (simp; omega) | simp))))⟩
set_option maxRecDepth 100000 in
set_option maxHeartbeats 400000 in
theorem hear_Other (g h : Px.Frame) (id : Int) (w : World) : Calls Try.prog 157 #[.agg #[.int .i64 g.kind, .int .i64 g.id, .int .i64 h.kind, .int .i64 h.id], .int .i64 id] w (Ret (.tuple #[.int .i64 ((Px.otherOf g h id).getD 0), .bool (Px.otherOf g h id).isSome]) w) := by
  rw [(Px.other_first g h id).1, (Px.other_first g h id).2]
  go_enter Try.func157, Try.ntmps157
  go_wp2_with (first | (go_at_call 183; (with_reducible refine (first_Other id (w.heap.size + 1) g h _ (by simp [go_sem]) (by simp)).mono ?_); rintro e w1 ⟨rfl, hb_w1⟩; have hz_w1 := hb_w1.size; (try simp at hz_w1); have hz_w1_w_0 : w.heap.size < w1.heap.size := (by omega); have c_w1_w_0_0 := hb_w1.cell (p := ⟨w.heap.size, 0, none⟩) (by first | (simp; done) | (simp; omega)); simp [go_sem] at c_w1_w_0_0; have c_w1_w_0_1 := hb_w1.cell (p := ⟨w.heap.size, 1, none⟩) (by first | (simp; done) | (simp; omega)); simp [go_sem] at c_w1_w_0_1; have c_w1_w_0_2 := hb_w1.cell (p := ⟨w.heap.size, 2, none⟩) (by first | (simp; done) | (simp; omega)); simp [go_sem] at c_w1_w_0_2; have c_w1_w_0_3 := hb_w1.cell (p := ⟨w.heap.size, 3, none⟩) (by first | (simp; done) | (simp; omega)); simp [go_sem] at c_w1_w_0_3; have f_w1_w_0 : ∀ o, w1.frozen? ⟨w.heap.size, o, none⟩ = false := (fun o => (hb_w1.frozen (p := ⟨w.heap.size, o, none⟩) (by first | (simp; done) | (simp; omega))).trans (by simp [go_sem])); have hz_w1_w_1 : w.heap.size + 1 < w1.heap.size := (by omega); have c_w1_w_1_0 := hb_w1.cell (p := ⟨w.heap.size + 1, 0, none⟩) (by first | (simp; done) | (simp; omega)); simp [go_sem] at c_w1_w_1_0; have f_w1_w_1 : ∀ o, w1.frozen? ⟨w.heap.size + 1, o, none⟩ = false := (fun o => (hb_w1.frozen (p := ⟨w.heap.size + 1, o, none⟩) (by first | (simp; done) | (simp; omega))).trans (by simp [go_sem]))))
  refine bodyPost_ret (v := .tuple #[.int .i64 (Px.firstId (Px.pOther id) g h), .bool (Px.pOther id g || Px.pOther id h)]) (by simp [results, Try.results157, go_sem]) rfl ⟨rfl, (by repeat (first | exact Below.refl _ _ | assumption | (refine Below.alloc ?_ (by first | omega | (simp; omega) | simp) _) | (refine Below.drew ?_) | (refine below_drewN ?_ _) | (refine Below.setCell ?_ (by first | omega | (simp; omega) | simp) _) | (refine below_step ?_ (by assumption) (by first | omega | (simp; omega) | simp))))⟩
set_option maxRecDepth 100000 in
set_option maxHeartbeats 400000 in
theorem hear_Wrong (g h : Px.Frame) (id : Int) (w : World) : Calls Try.prog 161 #[.agg #[.int .i64 g.kind, .int .i64 g.id, .int .i64 h.kind, .int .i64 h.id], .int .i64 id] w (Ret (.bool (Px.pWrong id g || Px.pWrong id h)) w) := by
  go_enter Try.func161, Try.ntmps161
  go_wp2_with (first | (go_at_call 183; (with_reducible refine (first_Wrong id (w.heap.size + 1) g h _ (by simp [go_sem]) (by simp)).mono ?_); rintro e w1 ⟨rfl, hb_w1⟩; have hz_w1 := hb_w1.size; (try simp at hz_w1); have hz_w1_w_0 : w.heap.size < w1.heap.size := (by omega); have c_w1_w_0_0 := hb_w1.cell (p := ⟨w.heap.size, 0, none⟩) (by first | (simp; done) | (simp; omega)); simp [go_sem] at c_w1_w_0_0; have c_w1_w_0_1 := hb_w1.cell (p := ⟨w.heap.size, 1, none⟩) (by first | (simp; done) | (simp; omega)); simp [go_sem] at c_w1_w_0_1; have c_w1_w_0_2 := hb_w1.cell (p := ⟨w.heap.size, 2, none⟩) (by first | (simp; done) | (simp; omega)); simp [go_sem] at c_w1_w_0_2; have c_w1_w_0_3 := hb_w1.cell (p := ⟨w.heap.size, 3, none⟩) (by first | (simp; done) | (simp; omega)); simp [go_sem] at c_w1_w_0_3; have f_w1_w_0 : ∀ o, w1.frozen? ⟨w.heap.size, o, none⟩ = false := (fun o => (hb_w1.frozen (p := ⟨w.heap.size, o, none⟩) (by first | (simp; done) | (simp; omega))).trans (by simp [go_sem])); have hz_w1_w_1 : w.heap.size + 1 < w1.heap.size := (by omega); have c_w1_w_1_0 := hb_w1.cell (p := ⟨w.heap.size + 1, 0, none⟩) (by first | (simp; done) | (simp; omega)); simp [go_sem] at c_w1_w_1_0; have f_w1_w_1 : ∀ o, w1.frozen? ⟨w.heap.size + 1, o, none⟩ = false := (fun o => (hb_w1.frozen (p := ⟨w.heap.size + 1, o, none⟩) (by first | (simp; done) | (simp; omega))).trans (by simp [go_sem]))))
  go_ret
  exact Ret.mk rfl (by repeat (first | exact Below.refl _ _ | assumption | (refine Below.alloc ?_ (by first | omega | (simp; omega) | simp) _) | (refine Below.drew ?_) | (refine below_drewN ?_ _) | (refine Below.setCell ?_ (by first | omega | (simp; omega) | simp) _) | (refine below_step ?_ (by assumption) (by first | omega | (simp; omega) | simp))))

end Go.Proofs.Ytjecfilbdabheaa
