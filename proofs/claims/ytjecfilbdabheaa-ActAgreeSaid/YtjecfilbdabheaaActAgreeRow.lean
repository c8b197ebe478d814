/- ActAgree returns true for every input, and its arguments read behind the call as they read ahead of it; there are no conditions. -/
import Derived.Test.YtjecfilbdabheaaAgreeBad
import Derived.Test.YtjecfilbdabheaaAgreePre
import Derived.Test.YtjecfilbdabheaaAgree11
import Derived.Test.YtjecfilbdabheaaAgree12
import Derived.Test.YtjecfilbdabheaaAgree21
import Derived.Test.YtjecfilbdabheaaAgreeKx
import Derived.Test.YtjecfilbdabheaaAgreeKy
import Derived.Test.YtjecfilbdabheaaAgreeCc
import Derived.Test.YtjecfilbdabheaaRow
namespace Go.Proofs.Ytjecfilbdabheaa
open Go.RowKit Go.ChangeShapes Go.WideShapes
set_option maxRecDepth 100000

theorem ActAgree_all (n xi xm xc xp yi ym yc yp id : Int) (hn0 : 0 ≤ n) (hn1 : n ≤ 255) (hd0 : 0 ≤ id) (hd1 : id ≤ 255) (w : World) :
    Calls Try.prog 6 #[.agg #[.int .u8 n, .int .i64 xi, .int .i64 xm, .int .i64 xc, .int .i64 xp, .int .i64 yi, .int .i64 ym, .int .i64 yc, .int .i64 yp, .int .u8 id]] w (Ret (.bool (true)) w) := by
  obtain ⟨r, hr, hr0, hr1, hr'⟩ := six hn0 hn1
  have bad := ActAgree_bad n xi xm xc xp yi ym yc yp id r hn0 hn1 hr hr' hr0 hr1
  cases hX : Px.nodeRight (3 + r) ⟨xi, xm, xc, xp⟩ with
  | false => exact bad (.inl hX) w
  | true =>
    cases hY : Px.nodeRight (3 + r) ⟨yi, ym, yc, yp⟩ with
    | false => exact bad (.inr (.inl ⟨hX, hY⟩)) w
    | true =>
      have h1 := Px.nodeRight_rng hX
      have h2 := Px.nodeRight_rng hY
      by_cases x0 : xm = 0
      · exact bad (.inr (.inr ⟨hX, hY, .inl x0⟩)) w
      · by_cases y0 : ym = 0
        · exact bad (.inr (.inr ⟨hX, hY, .inr (.inl ⟨x0, y0⟩)⟩)) w
        · by_cases x3 : xm = 3
          · exact bad (.inr (.inr ⟨hX, hY, .inr (.inr (.inl ⟨x3, y0⟩))⟩)) w
          · by_cases y3 : ym = 3
            · exact bad (.inr (.inr ⟨hX, hY, .inr (.inr (.inr ⟨x0, x3, y3⟩))⟩)) w
            · obtain ⟨k, hk⟩ : ∃ k, id.tmod (3 + r) = k := ⟨_, rfl⟩
              have ek := hk
              rw [Int.tmod_eq_emod_of_nonneg hd0] at ek
              have k0 := Int.emod_nonneg id (show 3 + r ≠ 0 by omega)
              have k1 := Int.emod_lt_of_pos id (show 0 < 3 + r by omega)
              rw [ek] at k0 k1
              have sX := agree_info (k := k) hX x0 x3 ⟨k0, k1⟩
              have sY := agree_info (k := k) hY y0 y3 ⟨k0, k1⟩
              have hx : xm = 1 ∨ xm = 2 := by omega
              have hy : ym = 1 ∨ ym = 2 := by omega
              rcases hx with hx | hx
              · subst hx
                rcases hy with hy | hy
                · subst hy
                  exact agree_11 n k xi yi xc xp yc yp id r _ hn0 hn1 hr hr' hr0 hr1 hd0 hd1 hk hX hY sX sY w
                · subst hy
                  exact agree_12 n k xi yi xc xp yc yp id r _ hn0 hn1 hr hr' hr0 hr1 hd0 hd1 hk hX hY sX sY w
              · subst hx
                rcases hy with hy | hy
                · subst hy
                  exact agree_21 n k xi yi xc xp yc yp id r _ hn0 hn1 hr hr' hr0 hr1 hd0 hd1 hk hX hY sX sY w
                · subst hy
                  by_cases e1 : xi = k
                  · subst e1
                    exact agree_kx n xi yi xc xp yc yp id r _ hn0 hn1 hr hr' hr0 hr1 hd0 hd1 hk hX hY sX sY w
                  · by_cases e2 : yi = k
                    · subst e2
                      exact agree_ky n xi yi xc xp yc yp id r _ hn0 hn1 hr hr' hr0 hr1 hd0 hd1 hk e1 hX hY sX sY w
                    · exact agree_cc n k xi yi xc xp yc yp id r _ hn0 hn1 hr hr' hr0 hr1 hd0 hd1 hk e1 e2 hX hY sX sY (agree_cs hX ⟨k0, k1⟩ e1) (agree_cs hY ⟨k0, k1⟩ e2) w

theorem actAgree_lifted (os : Os) (started : os.Started) (H : Type) (enc : TypeId × Value → H) :
    ReturnsInHanded {} Try.checked os 6 .any (Rows.actAgreeSpec.pre6 enc Try.prog Try.f6 Rows.actAgreeRow.domain false) (Rows.actAgreeSpec.post enc Try.prog Try.f6 false true false false) := by
  refine lifted_true (C := Try.checked) own laidOut started (tb := 4) rfl rfl (Try.underlying4) ?_ (by kernel_rfl) (by kernel_rfl) Try.func6
    (ChangeSpec.witness6 (enc := enc) (C := Try.checked) false ⟨#[], #[.agg #[.int .u8 0, .int .i64 0, .int .i64 0, .int .i64 0, .int .i64 0, .int .i64 0, .int .i64 0, .int .i64 0, .int .i64 0, .int .u8 0]], []⟩ 8 (by kernel_rfl) (by kernel_rfl) (by kernel_rfl) (by kernel_rfl)) ?_
  · rw [Try.params6]
    rintro (_ | ⟨d, _ | ⟨d', ds⟩⟩) h <;> first | rfl | simp at h
  · intro W base args ds ps hval hA
    rw [Try.params6] at hA hval
    obtain ⟨v, d, rfl, rfl, h0⟩ := trodAll_one hA
    obtain ⟨⟨cs⟩, rfl, hL⟩ := arg_agg 8 (by kernel_rfl) (ls := [.int .u8, .int .i64, .int .i64, .int .i64, .int .i64, .int .i64, .int .i64, .int .i64, .int .i64, .int .u8]) (by kernel_rfl) (hval 0 _ v rfl rfl) h0
    simp only [] at hL
    obtain ⟨n, cs, rfl, w_n, hL⟩ := hL.int
    obtain ⟨a, cs, rfl, w_a, hL⟩ := hL.int
    obtain ⟨b, cs, rfl, w_b, hL⟩ := hL.int
    obtain ⟨c, cs, rfl, w_c, hL⟩ := hL.int
    obtain ⟨e, cs, rfl, w_e, hL⟩ := hL.int
    obtain ⟨f, cs, rfl, w_f, hL⟩ := hL.int
    obtain ⟨g, cs, rfl, w_g, hL⟩ := hL.int
    obtain ⟨i, cs, rfl, w_i, hL⟩ := hL.int
    obtain ⟨j, cs, rfl, w_j, hL⟩ := hL.int
    obtain ⟨k, cs, rfl, w_k, hL⟩ := hL.int
    obtain rfl := hL.nil
    have b0 := bounds_u8 w_n; have b1 := bounds_u8 w_k
    exact ActAgree_all _ _ _ _ _ _ _ _ _ _ b0.1 b0.2 b1.1 b1.2 W

theorem actAgree_proved : Rows.ActAgreeSaid :=
  OpenClaim.holds_of_wide 6 Try.f6 rfl rfl rfl rfl rfl rfl rfl ⟨rfl, rfl, rfl, rfl, rfl⟩ rfl rfl rfl rfl rfl (by kernel_rfl) Try.func6 (by kernel_rfl)
    (of_decide_eq_true (by kernel_rfl)) (by unfold Func.isWrapper; first | (rw [if_pos (by decide +kernel)]; kernel_rfl) | (rw [if_neg (by decide +kernel)]; exact ⟨rfl, rfl⟩))
    (fun os started H enc _ => actAgree_lifted os started H enc)
#print axioms actAgree_proved
end Go.Proofs.Ytjecfilbdabheaa
