/- The document's powers; the arena's count. -/
import Derived.Test.YtlbjjooiiikmjaaBb
namespace Go.Proofs.Ytlbjjooiiikmjaa
open Go.RowKit
set_option maxRecDepth 100000
set_option linter.unusedVariables false

set_option maxHeartbeats 1000000 in
theorem ref_Power (n : Nat) (hn : n ≤ 63) (w : World) : Calls Try.prog 77 #[.int .i64 n] w fun e w' => e = .returned (.int .u64 (2 ^ n : Nat)) ∧ w' = w := by
  have HP : Hid (∀ k, k < n → IntKind.u64.wrap (((2 ^ k : Nat) : Int) * 2) = ((2 ^ (k + 1) : Nat) : Int)) := fun k hk => by
    have h1 : 2 ^ (k + 1) ≤ 2 ^ 63 := Nat.pow_le_pow_right (by omega) (by omega)
    have h2 : 2 ^ (k + 1) = 2 ^ k * 2 := Nat.pow_succ ..
    rw [IntWalk.u64_in _ (by omega)]; omega
  go_enter Try.func77, Try.ntmps77
  go_wp2
  go_loop [3, 4] (fun p i => ∃ k : Nat, k ≤ n ∧ i = .int .i64 k ∧ p = .int .u64 (2 ^ k : Nat)) (fun _ i => n - (intOf i).toNat)
  case atStart => exact ⟨0, Nat.zero_le _, rfl, rfl⟩
  case round =>
    obtain ⟨k, hk, rfl, rfl⟩ := hrel
    by_cases hlt : k < n
    · have e1 := HP.out k hlt
      generalize hy : ((2 ^ (k + 1) : Nat) : Int) = y at *
      replace hy := Go.Lib.hid hy
      generalize ((2 ^ k : Nat) : Int) = z at *
      go_wp2
      exact ⟨⟨k + 1, by omega, by go_num, by rw [hy.out]⟩, by simp [intOf]; omega⟩
    · have s4 : ((k : Int) < n) = False := by simp; omega
      have hk' : k = n := by omega
      subst hk'
      generalize hz : ((2 ^ k : Nat) : Int) = z at *
      replace hz := Go.Lib.hid hz
      go_wp2
      go_ret
      exact ⟨by rw [show ((2 : Int) ^ k) = z from by rw [← hz.out]; simp]; rfl, rfl⟩
set_option maxHeartbeats 400000 in
theorem arena_count {E : G} {L : Lab} {S : St} {w : World} (hg : Good E L S w) :
    Calls Try.prog 21 #[.pointer (some ⟨E.a, 0, none⟩)] w fun e w' => e = .returned (.int .i64 S.cnt) ∧ w' = w := by
  have h1 := hg.ar.a1
  clear hg
  go_enter Try.func21, Try.ntmps21
  go_wp2_with (go_at_call 45; refine (i64_load _ _ _ _ h1).mono ?_; rintro e w' ⟨rfl, rfl⟩)
  go_ret
  exact ⟨rfl, rfl⟩
end Go.Proofs.Ytlbjjooiiikmjaa

