/- Words: a state, a home, a key, a head, a connection as a word. -/
import Derived.Test.YtlbjjooiiikmjaaW2
namespace Go.Proofs.Ytlbjjooiiikmjaa
open Go.RowKit
set_option maxRecDepth 100000
set_option linter.unusedVariables false

set_option maxHeartbeats 1000000 in
theorem word_State (gen time status : Int) (w : World) (h0 : gen < 9223372036854775808) (h1 : time < 9223372036854775808) (h2 : status < 9223372036854775808) :
    Calls Try.prog 74 #[.agg #[.int .i64 gen, .int .i64 time, .int .i64 status]] w fun e w' => e = .returned (.tuple #[.int .u64 (packed [32, 30, 2] [gen, time, status]).1, .int .i64 (packed [32, 30, 2] [gen, time, status]).2]) ∧ Below w.heap.size w w' := by
  go_enter Try.func74, Try.ntmps74
  go_wp2_with fail
  refine (pack_any [32, 30, 2] [gen, time, status] _ _ _ _ _ rfl (by decide) (by decide) (by decide) (by intro j hj; match j, hj with | 0, _ => exact h0 | 1, _ => exact h1 | 2, _ => exact h2) (by intro j hj; match j, hj with | 0, _ => go_simp | 1, _ => go_simp | 2, _ => go_simp) (by intro j hj; match j, hj with | 0, _ => go_simp | 1, _ => go_simp | 2, _ => go_simp)).mono ?_
  rintro e w' ⟨rfl, rfl⟩
  go_wp2
  go_ret2
  refine ⟨rfl, ?_⟩
  exact (((Below.refl _ _).alloc (Nat.le_refl _) _).alloc (by simp) _).alloc (by simp; omega) _

end Go.Proofs.Ytlbjjooiiikmjaa
