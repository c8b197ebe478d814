/- When two arrays are the same. -/
import Derived.Test.YtjecfilbdabheaaBase
import Derived.KernelRfl
namespace Go.Proofs.Ytjecfilbdabheaa
open Go.RowKit
set_option linter.unusedSimpArgs false
set_option linter.unusedVariables false

theorem run_equalIn_array2 {P : Program} (w : World) (d : Nat) (t e : TypeId) (s : Nat) (xs ys : Array Value) (ht : P.underlying t = some (.array 2 e)) (hs : (sizeOf e).run P w = .ok s w)
    (x0 x1 y0 y1 : Value) (hx0 : (part e xs 0).run P w = .ok x0 w) (hx1 : (part e xs s).run P w = .ok x1 w) (hy0 : (part e ys 0).run P w = .ok y0 w) (hy1 : (part e ys s).run P w = .ok y1 w)
    (b0 b1 : Bool) (h0 : (Op.equalIn d e x0 y0).run P w = .ok b0 w) (h1 : (Op.equalIn d e x1 y1).run P w = .ok b1 w) :
    (Op.equalIn (d + 1) t (.agg xs) (.agg ys)).run P w = .ok (b0 && b1) w := by
  simp only [Op.equalIn, Sem.run_bind, run_underlying ht, Result.andThen_ok, hs]
  rw [Std.Legacy.Range.forIn_eq_forIn_range']
  simp only [Std.Legacy.Range.size]
  have e2 : List.range' 0 ((2 - 0 + 1 - 1) / 1) = [0, 1] := rfl
  rw [e2]
  simp only [List.forIn_cons, List.forIn_nil, Nat.zero_mul, Nat.one_mul, Sem.run_bind, hx0, hy0, h0, Result.andThen_ok]
  cases b0
  · simp
  · simp only [Bool.not_true, Bool.false_eq_true, if_false, Sem.run_pure, Result.andThen_ok, Sem.run_bind, hx1, hy1, h1]
    cases b1 <;> simp

theorem eq_bools (w : World) (a b c d : Bool) : (Op.equalIn 10000 38 (.agg #[.bool a, .bool b]) (.agg #[.bool c, .bool d])).run Try.prog w = .ok (a == c && b == d) w :=
  run_equalIn_array2 w 9999 _ 4 1 _ _ Try.underlying38 (by kernel_rfl) (.bool a) (.bool b) (.bool c) (.bool d) (by kernel_rfl) (by kernel_rfl) (by kernel_rfl) (by kernel_rfl) _ _
    (run_equalIn_bool' w _ _ _ _ Try.underlying4) (run_equalIn_bool' w _ _ _ _ Try.underlying4)
theorem eq_strings (w : World) (a b c d : ByteArray) : (Op.equalIn 10000 24 (.agg #[.string a, .string b]) (.agg #[.string c, .string d])).run Try.prog w = .ok (a.toList == c.toList && b.toList == d.toList) w :=
  run_equalIn_array2 w 9999 _ 9 1 _ _ Try.underlying24 (by kernel_rfl) (.string a) (.string b) (.string c) (.string d) (by kernel_rfl) (by kernel_rfl) (by kernel_rfl) (by kernel_rfl) _ _
    (run_equalIn_string w _ _ _ _ Try.underlying9) (run_equalIn_string w _ _ _ _ Try.underlying9)
end Go.Proofs.Ytjecfilbdabheaa
