/- Frames as bytes. -/
import Derived.Test.YtjecfilbdabheaaCrc
namespace Go.Proofs.Ytjecfilbdabheaa
open Go.RowKit
set_option linter.unusedSimpArgs false
set_option linter.unusedVariables false

namespace Px
/-- may a frame be sent? -/
def sendable (f : Frame) : Bool := (decide (f.kind = 1) || decide (f.kind = 2)) && decide (0 ≤ f.id) && decide (f.id < 8)
/-- a frame's bytes -/
def put (f : Frame) : ByteArray :=
  if f.kind = 3 then strOfNums [0] else if sendable f = true then strOfNums ([216, f.kind, f.id] ++ four (crcSum (strOfNums [216, f.kind, f.id]).data.toList)) else ⟨#[]⟩
theorem put_noise {f : Frame} (h : f.kind = 3) : put f = strOfNums [0] := by simp [put, h]
theorem put_ok {f : Frame} (h : sendable f = true) : put f = strOfNums ([216, f.kind, f.id] ++ four (crcSum (strOfNums [216, f.kind, f.id]).data.toList)) := by
  have h3 : f.kind ≠ 3 := by simp [sendable] at h; omega
  simp [put, h, h3]
theorem put_none {f : Frame} (h : sendable f = false) (h3 : f.kind ≠ 3) : put f = ⟨#[]⟩ := by simp [put, h, h3]
theorem crcFold_lt (l : List UInt8) : crcFold l < 4294967296 := by
  have key : ∀ (l : List UInt8) (r : Nat), r < 4294967296 → l.foldl (fun r b => crcAdd r b.toNat) r < 4294967296 := by
    intro l
    induction l with
    | nil => intro r h; exact h
    | cons b l ih => intro r h; exact ih _ (crcAdd_lt h (by have := b.toNat_lt; omega))
  exact key l _ (by decide)
theorem crcSum_lt (l : List UInt8) : crcSum l < 4294967296 := by unfold crcSum; omega
end Px

set_option maxHeartbeats 400000 in
theorem conf_Right (n : Int) (w : World) :
    Calls Try.prog 64 #[.int .i64 n] w (Same (.bool (Px.right n)) w) := by
  go_enter Try.func64, Try.ntmps64
  go_wp2
  all_goals (go_ret; exact Same.mk (vbool (by simp [Px.right]; try omega)))
set_option maxHeartbeats 400000 in
theorem ref03_Right (n : Int) (w : World) :
    Calls Try.prog 65 #[.int .i64 n] w (Same (.bool (Px.right n)) w) := by
  go_enter Try.func65, Try.ntmps65
  go_wp2
  all_goals (go_ret; exact Same.mk (vbool (by simp [Px.right]; try omega)))
set_option maxHeartbeats 400000 in
theorem ref02_Right (f : Px.Frame) (w : World) :
    Calls Try.prog 60 #[.agg #[.int .i64 f.kind, .int .i64 f.id]] w (Ret (.bool (Px.sendable f)) w) := by
  obtain ⟨k, i⟩ := f
  go_enter Try.func60, Try.ntmps60
  go_wp2
  all_goals (go_ret; exact Ret.mk (vbool (by simp [Px.sendable]; try omega)) ((Below.refl _ _).alloc (by simp) _))
set_option maxHeartbeats 400000 in
theorem wire_Right (f : Px.Frame) (w : World) :
    Calls Try.prog 113 #[.agg #[.int .i64 f.kind, .int .i64 f.id]] w (Ret (.bool (Px.sendable f)) w) := by
  obtain ⟨k, i⟩ := f
  go_enter Try.func113, Try.ntmps113
  go_wp2
  all_goals (go_ret; exact Ret.mk (vbool (by simp [Px.sendable]; try omega)) ((Below.refl _ _).alloc (by simp) _))

set_option maxRecDepth 100000 in
set_option maxHeartbeats 400000 in
theorem ref02_Put (f : Px.Frame) (w : World) :
    Calls Try.prog 19 #[.agg #[.int .i64 f.kind, .int .i64 f.id]] w (Ret (.string (Px.put f)) w) := by
  have hc1 := fun (W : World) (B : Nat) (a : Int) (hB : W.heap.size = B) => conv_at (P := Try.prog) 96 9 5 Try.underlying96 Try.underlying5 Try.underlying9 [a] 1 W B hB
  have hc3 := fun (W : World) (B : Nat) (a b c : Int) (hB : W.heap.size = B) => conv_at (P := Try.prog) 96 9 5 Try.underlying96 Try.underlying5 Try.underlying9 [a, b, c] 3 W B hB
  simp only [List.length_cons, List.length_nil, Nat.zero_add, Nat.reduceAdd, List.map_cons, List.map_nil] at hc1 hc3
  by_cases h3 : f.kind = 3
  · rw [Px.put_noise h3]
    go_enter Try.func19, Try.ntmps19
    go_wp2
    go_ret
    exact Ret.mk rfl (by repeat (first | exact Below.refl _ _ | assumption | (refine Below.alloc ?_ (by first | omega | (simp; omega) | simp) _) | (refine Below.drew ?_) | (refine below_drewN ?_ _) | (refine Below.setCell ?_ (by first | omega | (simp; omega) | simp) _) | (refine below_step ?_ (by assumption) (by first | omega | (simp; omega) | simp))))
  · have h3' : (f.kind == 3) = false := by simpa using h3
    by_cases hr : Px.sendable f = true
    · have hr' := hr
      simp only [Px.sendable, Bool.and_eq_true, Bool.or_eq_true, decide_eq_true_eq] at hr'
      have hs := Px.crcSum_lt (strOfNums [216, f.kind, f.id]).data.toList
      have HP := Lib.hid (Px.put_ok hr)
      go_enter Try.func19, Try.ntmps19
      go_wp2_with (first
        | (go_at_call 60; (with_reducible refine (ref02_Right f _).mono ?_); rintro e w1 ⟨rfl, hb_w1⟩; have hz_w1 := hb_w1.size; (try simp at hz_w1); have hz_w1_w_0 : w.heap.size < w1.heap.size := (by omega); have c_w1_w_0_0 := hb_w1.cell (p := ⟨w.heap.size, 0, none⟩) (by first | (simp; done) | (simp; omega)); simp [go_sem] at c_w1_w_0_0; have c_w1_w_0_1 := hb_w1.cell (p := ⟨w.heap.size, 1, none⟩) (by first | (simp; done) | (simp; omega)); simp [go_sem] at c_w1_w_0_1; have f_w1_w_0 : ∀ o, w1.frozen? ⟨w.heap.size, o, none⟩ = false := (fun o => (hb_w1.frozen (p := ⟨w.heap.size, o, none⟩) (by first | (simp; done) | (simp; omega))).trans (by simp [go_sem])))
        | (go_at_call 62; (with_reducible refine (ref_Sum (strOfNums [216, f.kind, f.id]) (by simp [strOfNums_size]) _).mono ?_); rintro e w2 ⟨rfl, rfl⟩)
        | (go_at_call 61; (with_reducible refine (ref_Four _ (by omega) _).mono ?_); rintro e w3 ⟨rfl, hb_w3⟩; have hz_w3 := hb_w3.size; (try simp at hz_w3)))
      go_ret
      refine Ret.mk ?_ (by repeat (first | exact Below.refl _ _ | assumption | (refine Below.alloc ?_ (by first | omega | (simp; omega) | simp) _) | (refine Below.drew ?_) | (refine below_drewN ?_ _) | (refine Below.setCell ?_ (by first | omega | (simp; omega) | simp) _) | (refine below_step ?_ (by assumption) (by first | omega | (simp; omega) | simp))))
      rw [HP.out, strOfNums_append]; rfl
    · have hr' : Px.sendable f = false := by simpa using hr
      have HP := Lib.hid (Px.put_none hr' h3)
      clear hr
      go_enter Try.func19, Try.ntmps19
      go_wp2_with (go_at_call 60; (with_reducible refine (ref02_Right f _).mono ?_); rintro e w1 ⟨rfl, hb_w1⟩; have hz_w1 := hb_w1.size; (try simp at hz_w1); have hz_w1_w_0 : w.heap.size < w1.heap.size := (by omega); have c_w1_w_0_0 := hb_w1.cell (p := ⟨w.heap.size, 0, none⟩) (by first | (simp; done) | (simp; omega)); simp [go_sem] at c_w1_w_0_0; have c_w1_w_0_1 := hb_w1.cell (p := ⟨w.heap.size, 1, none⟩) (by first | (simp; done) | (simp; omega)); simp [go_sem] at c_w1_w_0_1; have f_w1_w_0 : ∀ o, w1.frozen? ⟨w.heap.size, o, none⟩ = false := (fun o => (hb_w1.frozen (p := ⟨w.heap.size, o, none⟩) (by first | (simp; done) | (simp; omega))).trans (by simp [go_sem])))
      go_ret
      exact Ret.mk (by rw [HP.out]; rfl) (by repeat (first | exact Below.refl _ _ | assumption | (refine Below.alloc ?_ (by first | omega | (simp; omega) | simp) _) | (refine Below.drew ?_) | (refine below_drewN ?_ _) | (refine Below.setCell ?_ (by first | omega | (simp; omega) | simp) _) | (refine below_step ?_ (by assumption) (by first | omega | (simp; omega) | simp))))

set_option maxRecDepth 100000 in
set_option maxHeartbeats 400000 in
theorem wire_Put (f : Px.Frame) (w : World) :
    Calls Try.prog 63 #[.agg #[.int .i64 f.kind, .int .i64 f.id]] w (Ret (.string (Px.put f)) w) := by
  have hc1 := fun (W : World) (B : Nat) (a : Int) (hB : W.heap.size = B) => conv_at (P := Try.prog) 96 9 5 Try.underlying96 Try.underlying5 Try.underlying9 [a] 1 W B hB
  have hc3 := fun (W : World) (B : Nat) (a b c : Int) (hB : W.heap.size = B) => conv_at (P := Try.prog) 96 9 5 Try.underlying96 Try.underlying5 Try.underlying9 [a, b, c] 3 W B hB
  simp only [List.length_cons, List.length_nil, Nat.zero_add, Nat.reduceAdd, List.map_cons, List.map_nil] at hc1 hc3
  by_cases h3 : f.kind = 3
  · rw [Px.put_noise h3]
    go_enter Try.func63, Try.ntmps63
    go_wp2
    go_ret
    exact Ret.mk rfl (by repeat (first | exact Below.refl _ _ | assumption | (refine Below.alloc ?_ (by first | omega | (simp; omega) | simp) _) | (refine Below.drew ?_) | (refine below_drewN ?_ _) | (refine Below.setCell ?_ (by first | omega | (simp; omega) | simp) _) | (refine below_step ?_ (by assumption) (by first | omega | (simp; omega) | simp))))
  · have h3' : (f.kind == 3) = false := by simpa using h3
    by_cases hr : Px.sendable f = true
    · have hr' := hr
      simp only [Px.sendable, Bool.and_eq_true, Bool.or_eq_true, decide_eq_true_eq] at hr'
      have hs := Px.crcSum_lt (strOfNums [216, f.kind, f.id]).data.toList
      have HP := Lib.hid (Px.put_ok hr)
      go_enter Try.func63, Try.ntmps63
      go_wp2_with (first
        | (go_at_call 113; (with_reducible refine (wire_Right f _).mono ?_); rintro e w1 ⟨rfl, hb_w1⟩; have hz_w1 := hb_w1.size; (try simp at hz_w1); have hz_w1_w_0 : w.heap.size < w1.heap.size := (by omega); have c_w1_w_0_0 := hb_w1.cell (p := ⟨w.heap.size, 0, none⟩) (by first | (simp; done) | (simp; omega)); simp [go_sem] at c_w1_w_0_0; have c_w1_w_0_1 := hb_w1.cell (p := ⟨w.heap.size, 1, none⟩) (by first | (simp; done) | (simp; omega)); simp [go_sem] at c_w1_w_0_1; have f_w1_w_0 : ∀ o, w1.frozen? ⟨w.heap.size, o, none⟩ = false := (fun o => (hb_w1.frozen (p := ⟨w.heap.size, o, none⟩) (by first | (simp; done) | (simp; omega))).trans (by simp [go_sem])))
        | (go_at_call 115; (with_reducible refine (crc_Sum (strOfNums [216, f.kind, f.id]) (by simp [strOfNums_size]) _).mono ?_); rintro e w2 ⟨rfl, hb_w2⟩; have hz_w2 := hb_w2.size; (try simp at hz_w2))
        | (go_at_call 114; (with_reducible refine (crc_Four _ (by omega) _).mono ?_); rintro e w3 ⟨rfl, hb_w3⟩; have hz_w3 := hb_w3.size; (try simp at hz_w3)))
      go_ret
      refine Ret.mk ?_ (by repeat (first | exact Below.refl _ _ | assumption | (refine Below.alloc ?_ (by first | omega | (simp; omega) | simp) _) | (refine Below.drew ?_) | (refine below_drewN ?_ _) | (refine Below.setCell ?_ (by first | omega | (simp; omega) | simp) _) | (refine below_step ?_ (by assumption) (by first | omega | (simp; omega) | simp))))
      rw [HP.out, strOfNums_append]; rfl
    · have hr' : Px.sendable f = false := by simpa using hr
      have HP := Lib.hid (Px.put_none hr' h3)
      clear hr
      go_enter Try.func63, Try.ntmps63
      go_wp2_with (go_at_call 113; (with_reducible refine (wire_Right f _).mono ?_); rintro e w1 ⟨rfl, hb_w1⟩; have hz_w1 := hb_w1.size; (try simp at hz_w1); have hz_w1_w_0 : w.heap.size < w1.heap.size := (by omega); have c_w1_w_0_0 := hb_w1.cell (p := ⟨w.heap.size, 0, none⟩) (by first | (simp; done) | (simp; omega)); simp [go_sem] at c_w1_w_0_0; have c_w1_w_0_1 := hb_w1.cell (p := ⟨w.heap.size, 1, none⟩) (by first | (simp; done) | (simp; omega)); simp [go_sem] at c_w1_w_0_1; have f_w1_w_0 : ∀ o, w1.frozen? ⟨w.heap.size, o, none⟩ = false := (fun o => (hb_w1.frozen (p := ⟨w.heap.size, o, none⟩) (by first | (simp; done) | (simp; omega))).trans (by simp [go_sem])))
      go_ret
      exact Ret.mk (by rw [HP.out]; rfl) (by repeat (first | exact Below.refl _ _ | assumption | (refine Below.alloc ?_ (by first | omega | (simp; omega) | simp) _) | (refine Below.drew ?_) | (refine below_drewN ?_ _) | (refine Below.setCell ?_ (by first | omega | (simp; omega) | simp) _) | (refine below_step ?_ (by assumption) (by first | omega | (simp; omega) | simp))))

end Go.Proofs.Ytjecfilbdabheaa
