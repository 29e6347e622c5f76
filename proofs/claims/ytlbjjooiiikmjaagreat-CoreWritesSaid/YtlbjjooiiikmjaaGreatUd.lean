/- The document's key. -/
import Derived.Test.YtlbjjooiiikmjaaGreatUc
namespace Go.Proofs.YtlbjjooiiikmjaaGreat
open Go.RowKit
set_option maxRecDepth 100000
set_option linter.unusedVariables false

set_option maxHeartbeats 1000000 in
theorem ref_Key (g v n : Nat) (hg : g < 4294967296) (hv : v < 65536) (hn : n < 65536) (w : World) :
    Calls Tryz.prog 13 #[.int .i64 g, .int .i64 v, .int .i64 n] w fun e w' => e = .returned (.int .u64 ((g * 65536 + v) * 65536 + n : Nat)) ∧ Below w.heap.size w w' := by
  have HW := Go.Lib.hid (ref_WordKey g v n hg hv hn)
  generalize hy : (((g * 65536 + v) * 65536 + n : Nat) : Int) = y at *
  go_enter Tryz.func13, Tryz.ntmps13
  go_wp2_with (go_at_call 16; refine (ref_Widths2 _).mono ?_; rintro e w1 ⟨rfl, rfl⟩)
  refine (HW.out _ _ _ _ _ (by go_simp) (by go_simp) (by go_simp) (by go_simp) (by go_simp) (by go_simp)).mono ?_
  rintro e w2 ⟨rfl, hb⟩
  have hb2 := (((Below.refl w.heap.size w).alloc (Nat.le_refl _) (.cells #[.int .i64 g, .int .i64 v, .int .i64 n] 3)).alloc (by simp) (.cells #[.int .i64 32, .int .i64 16, .int .i64 16] 3)).trans (hb.mono (by simp; omega))
  clear hb HW
  go_wp2
  go_ret
  exact ⟨rfl, hb2⟩
end Go.Proofs.YtlbjjooiiikmjaaGreat

