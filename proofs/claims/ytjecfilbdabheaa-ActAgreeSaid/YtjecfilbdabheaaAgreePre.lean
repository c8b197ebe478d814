/- ActAgree: what two nodes become. -/
import Derived.Test.YtjecfilbdabheaaActRight
namespace Go.Proofs.Ytjecfilbdabheaa
open Go.RowKit
set_option linter.unusedSimpArgs false
set_option linter.unusedVariables false

theorem agree_info {M id m c p k : Int} (hR : Px.nodeRight M ⟨id, m, c, p⟩ = true) (h0 : m ≠ 0) (h3 : m ≠ 3) (hk : 0 ≤ k ∧ k < M) (W : World) :
    Calls Try.prog 36 #[.int .i64 M, .agg #[.int .i64 id, .int .i64 m, .int .i64 c, .int .i64 p], .agg #[.int .i64 2, .int .i64 k, .int .i64 0, .int .i64 0]] W (Ret (.tuple #[.agg #[.int .i64 id, .int .i64 3, .int .i64 0, .int .i64 (Px.next M k)], .int .i64 0]) W) := by
  have h := act_Step' M id m c p 2 k 0 0 (Px.heardOk_iff.2 (.inr ⟨.inr rfl, hk.1, hk.2⟩)) (Px.heardOk_none M) W
  rw [Px.stepped_ok hR h0, show Px.step M ⟨id, m, c, p⟩ ⟨2, k⟩ ⟨0, 0⟩ = ⟨id, 3, 0, Px.next M k⟩ by simp [Px.step, Px.infoOf, h3]] at h
  exact h
theorem agree_cs {M id c p k : Int} (hR : Px.nodeRight M ⟨id, 2, c, p⟩ = true) (hk : 0 ≤ k ∧ k < M) (hn : id ≠ k) (W : World) :
    Calls Try.prog 36 #[.int .i64 M, .agg #[.int .i64 id, .int .i64 2, .int .i64 c, .int .i64 p], .agg #[.int .i64 0, .int .i64 0, .int .i64 1, .int .i64 k]] W (Ret (.tuple #[.agg #[.int .i64 id, .int .i64 3, .int .i64 0, .int .i64 (Px.next M k)], .int .i64 0]) W) := by
  have h := act_Step' M id 2 c p 0 0 1 k (Px.heardOk_none M) (Px.heardOk_iff.2 (.inr ⟨.inl rfl, hk.1, hk.2⟩)) W
  rw [Px.stepped_ok hR (by simp), show Px.step M ⟨id, 2, c, p⟩ ⟨0, 0⟩ ⟨1, k⟩ = ⟨id, 3, 0, Px.next M k⟩ by simp [Px.step, Px.infoOf, Px.otherOf, Ne.symm hn]] at h
  exact h
end Go.Proofs.Ytjecfilbdabheaa
