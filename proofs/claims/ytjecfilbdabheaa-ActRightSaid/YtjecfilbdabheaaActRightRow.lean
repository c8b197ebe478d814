/- ActRight returns true for every input, and its arguments read behind the call as they read ahead of it; there are no conditions. -/
import Derived.Test.YtjecfilbdabheaaActRight
import Derived.Test.YtjecfilbdabheaaRow
namespace Go.Proofs.Ytjecfilbdabheaa
open Go.RowKit Go.ChangeShapes Go.WideShapes
set_option maxRecDepth 100000

theorem ActRight_all (n id m c p a b d e : Int) (hn0 : 0 ≤ n) (hn1 : n ≤ 255) (w : World) : Calls Try.prog 5 #[.int .u8 n, .agg #[.int .i64 id, .int .i64 m, .int .i64 c, .int .i64 p], .agg #[.int .i64 a, .int .i64 b, .int .i64 d, .int .i64 e]] w (Ret (.bool (true)) w) := by
  obtain ⟨r, hr, hr0, hr1, hr'⟩ := six hn0 hn1
  cases h1 : (Px.heardOk (3 + r) ⟨a, b⟩ && Px.heardOk (3 + r) ⟨d, e⟩) with
  | false => exact ActRight_bad n id m c p a b d e r hn0 hn1 hr hr' hr0 hr1 h1 w
  | true =>
    have hgh := (Bool.and_eq_true _ _ ▸ h1 : Px.heardOk (3 + r) ⟨a, b⟩ = true ∧ Px.heardOk (3 + r) ⟨d, e⟩ = true)
    cases hR : Px.nodeRight (3 + r) ⟨id, m, c, p⟩ with
    | false => exact ActRight_err n id m c p a b d e r hn0 hn1 hr hr' hr0 hr1 hgh.1 hgh.2 (.inl hR) w
    | true =>
      by_cases hm : m = 0
      · exact ActRight_err n id m c p a b d e r hn0 hn1 hr hr' hr0 hr1 hgh.1 hgh.2 (.inr ⟨hR, hm⟩) w
      · obtain ⟨k1, k2, k3⟩ := Px.step_right hR hm hgh.1 hgh.2
        have hk := rightOk_of hR hm hgh.1 hgh.2
        have hS : ∀ W, Calls Try.prog 36 #[.int .i64 (3 + r), .agg #[.int .i64 id, .int .i64 m, .int .i64 c, .int .i64 p], .agg #[.int .i64 a, .int .i64 b, .int .i64 d, .int .i64 e]] W (Ret (.tuple #[.agg #[.int .i64 (Px.step (3 + r) ⟨id, m, c, p⟩ ⟨a, b⟩ ⟨d, e⟩).id, .int .i64 (Px.step (3 + r) ⟨id, m, c, p⟩ ⟨a, b⟩ ⟨d, e⟩).mode, .int .i64 (Px.step (3 + r) ⟨id, m, c, p⟩ ⟨a, b⟩ ⟨d, e⟩).count, .int .i64 (Px.step (3 + r) ⟨id, m, c, p⟩ ⟨a, b⟩ ⟨d, e⟩).pos], .int .i64 0]) W) := fun W => by
          have h := act_Step' (3 + r) id m c p a b d e hgh.1 hgh.2 W
          rw [Px.stepped_ok hR hm] at h
          exact h
        generalize Px.step (3 + r) ⟨id, m, c, p⟩ ⟨a, b⟩ ⟨d, e⟩ = y at *
        obtain ⟨yi, ym, yc, yp⟩ := y
        simp only at k2 k3 hk
        subst k2
        exact ActRight_ok n yi m c p a b d e r ym yc yp hn0 hn1 hr hr' hr0 hr1 h1 hR hm hS k1 k3 hk w

theorem actRight_lifted (os : Os) (started : os.Started) (H : Type) (enc : TypeId × Value → H) :
    ReturnsInHanded {} Try.checked os 5 .any (Rows.actRightSpec.pre6 enc Try.prog Try.f5 Rows.actRightRow.domain false) (Rows.actRightSpec.post enc Try.prog Try.f5 false true false false) := by
  refine lifted_true (C := Try.checked) own laidOut started (tb := 4) rfl rfl (Try.underlying4) ?_ (by kernel_rfl) (by kernel_rfl) Try.func5
    (ChangeSpec.witness6 (enc := enc) (C := Try.checked) false ⟨#[], #[.int .u8 0, .agg #[.int .i64 0, .int .i64 0, .int .i64 0, .int .i64 0], .agg #[.int .i64 0, .int .i64 0, .int .i64 0, .int .i64 0]], []⟩ 8 (by kernel_rfl) (by kernel_rfl) (by kernel_rfl) (by kernel_rfl)) ?_
  · rw [Try.params5]
    rintro (_ | ⟨d, _ | ⟨d', _ | ⟨d'', _ | ⟨d''', ds⟩⟩⟩⟩) h <;> first | rfl | simp at h
  · intro W base args ds ps hval hA
    rw [Try.params5] at hA hval
    obtain ⟨v0, v1, v2, d0, d1, d2, p0, p1, p2, rfl, rfl, rfl, h0, h1, h2⟩ := trodAll_three hA
    obtain ⟨n, rfl, _, _, wn⟩ := open_int (Try.underlying5) (hval 0 _ v0 rfl rfl) h0
    have hn := bounds_u8 wn
    obtain ⟨⟨cs⟩, rfl, hL⟩ := arg_agg 8 (by kernel_rfl) (ls := [.int .i64, .int .i64, .int .i64, .int .i64]) (by kernel_rfl) (hval 1 _ v1 rfl rfl) h1
    simp only [] at hL
    obtain ⟨id, cs, rfl, w_id, hL⟩ := hL.int
    obtain ⟨m, cs, rfl, w_m, hL⟩ := hL.int
    obtain ⟨c, cs, rfl, w_c, hL⟩ := hL.int
    obtain ⟨p, cs, rfl, w_p, hL⟩ := hL.int
    obtain rfl := hL.nil
    obtain ⟨⟨cs⟩, rfl, hL⟩ := arg_agg 8 (by kernel_rfl) (ls := [.int .i64, .int .i64, .int .i64, .int .i64]) (by kernel_rfl) (hval 2 _ v2 rfl rfl) h2
    simp only [] at hL
    obtain ⟨a, cs, rfl, w_a, hL⟩ := hL.int
    obtain ⟨b, cs, rfl, w_b, hL⟩ := hL.int
    obtain ⟨e, cs, rfl, w_e, hL⟩ := hL.int
    obtain ⟨f, cs, rfl, w_f, hL⟩ := hL.int
    obtain rfl := hL.nil
    exact ActRight_all _ _ _ _ _ _ _ _ _ hn.1 hn.2 W

theorem actRight_proved : Rows.ActRightSaid :=
  OpenClaim.holds_of_wide 5 Try.f5 rfl rfl rfl rfl rfl rfl rfl ⟨rfl, rfl, rfl, rfl, rfl⟩ rfl rfl rfl rfl rfl (by kernel_rfl) Try.func5 (by kernel_rfl)
    (of_decide_eq_true (by kernel_rfl)) (by unfold Func.isWrapper; first | (rw [if_pos (by decide +kernel)]; kernel_rfl) | (rw [if_neg (by decide +kernel)]; exact ⟨rfl, rfl⟩))
    (fun os started H enc _ => actRight_lifted os started H enc)
#print axioms actRight_proved
end Go.Proofs.Ytjecfilbdabheaa
