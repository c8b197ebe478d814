/- ActTells returns true for every input, and its arguments read behind the call as they read ahead of it; there are no conditions. -/
import Derived.Test.YtjecfilbdabheaaAct
import Derived.Test.YtjecfilbdabheaaRow
namespace Go.Proofs.Ytjecfilbdabheaa
open Go.RowKit Go.ChangeShapes Go.WideShapes
set_option maxRecDepth 100000

theorem ActTells_all (n id m c p a b d e t : Int) (w : World) : Calls Try.prog 7 #[.agg #[.int .i64 n, .int .i64 id, .int .i64 m, .int .i64 c, .int .i64 p, .int .i64 a, .int .i64 b, .int .i64 d, .int .i64 e, .int .i64 t]] w (Ret (.bool (true)) w) := by
  cases h1 : Px.heardOk n ⟨a, b⟩ with
  | false => exact ActTells_bad n id m c p a b d e t (by rw [h1]; rfl) w
  | true =>
    cases h2 : Px.heardOk n ⟨d, e⟩ with
    | false => exact ActTells_bad n id m c p a b d e t (by rw [h1, h2]; rfl) w
    | true => exact ActTells_ok n id m c p a b d e t h1 h2 w

theorem actTells_lifted (os : Os) (started : os.Started) (H : Type) (enc : TypeId × Value → H) :
    ReturnsInHanded {} Try.checked os 7 .any (Rows.actTellsSpec.pre6 enc Try.prog Try.f7 Rows.actTellsRow.domain false) (Rows.actTellsSpec.post enc Try.prog Try.f7 false true false false) := by
  refine lifted_true (C := Try.checked) own laidOut started (tb := 4) rfl rfl (Try.underlying4) ?_ (by kernel_rfl) (by kernel_rfl) Try.func7
    (ChangeSpec.witness6 (enc := enc) (C := Try.checked) false ⟨#[], #[.agg #[.int .i64 0, .int .i64 0, .int .i64 0, .int .i64 0, .int .i64 0, .int .i64 0, .int .i64 0, .int .i64 0, .int .i64 0, .int .i64 0]], []⟩ 8 (by kernel_rfl) (by kernel_rfl) (by kernel_rfl) (by kernel_rfl)) ?_
  · rw [Try.params7]
    rintro (_ | ⟨d, _ | ⟨d', ds⟩⟩) h <;> first | rfl | simp at h
  · intro W base args ds ps hval hA
    rw [Try.params7] at hA hval
    obtain ⟨v, d, rfl, rfl, h0⟩ := trodAll_one hA
    obtain ⟨⟨cs⟩, rfl, hL⟩ := arg_agg 8 (by kernel_rfl) (ls := [.int .i64, .int .i64, .int .i64, .int .i64, .int .i64, .int .i64, .int .i64, .int .i64, .int .i64, .int .i64]) (by kernel_rfl) (hval 0 _ v rfl rfl) h0
    simp only [] at hL
    obtain ⟨n, cs, rfl, w_n, hL⟩ := hL.int
    obtain ⟨id, cs, rfl, w_id, hL⟩ := hL.int
    obtain ⟨m, cs, rfl, w_m, hL⟩ := hL.int
    obtain ⟨c, cs, rfl, w_c, hL⟩ := hL.int
    obtain ⟨p, cs, rfl, w_p, hL⟩ := hL.int
    obtain ⟨a, cs, rfl, w_a, hL⟩ := hL.int
    obtain ⟨b, cs, rfl, w_b, hL⟩ := hL.int
    obtain ⟨e, cs, rfl, w_e, hL⟩ := hL.int
    obtain ⟨f, cs, rfl, w_f, hL⟩ := hL.int
    obtain ⟨g, cs, rfl, w_g, hL⟩ := hL.int
    obtain rfl := hL.nil
    exact ActTells_all _ _ _ _ _ _ _ _ _ _ W

theorem actTells_proved : Rows.ActTellsSaid :=
  OpenClaim.holds_of_wide 7 Try.f7 rfl rfl rfl rfl rfl rfl rfl ⟨rfl, rfl, rfl, rfl, rfl⟩ rfl rfl rfl rfl rfl (by kernel_rfl) Try.func7 (by kernel_rfl)
    (of_decide_eq_true (by kernel_rfl)) (by unfold Func.isWrapper; first | (rw [if_pos (by decide +kernel)]; kernel_rfl) | (rw [if_neg (by decide +kernel)]; exact ⟨rfl, rfl⟩))
    (fun os started H enc _ => actTells_lifted os started H enc)
#print axioms actTells_proved
end Go.Proofs.Ytjecfilbdabheaa
