/- Atomic cells and the arena: contracts. -/
import Derived.Test.YtlbjjooiiikmjaaS
namespace Go.Proofs.Ytlbjjooiiikmjaa
open Go.RowKit
set_option maxRecDepth 100000
set_option linter.unusedVariables false

theorem Shr.set {L : Lab} {w : World} {a : Addr} (v : Value) (h1 : 1 ≤ L a.block) (h2 : L a.block < 8) : Shr L w L (w.setCell a v) :=
  ⟨rfl, rfl, rfl, by simp [World.setCell], fun b hb hl => Below.heap_setCell _ _ _ _ (by intro h; subst h; omega), fun _ _ => rfl⟩

theorem cell_set_other {w : World} {a b : Addr} {u v : Value} (h : w.cell? b = some u) (hne : b.block ≠ a.block) : (w.setCell a v).cell? b = some u :=
  (World.cell?_of_block (Below.heap_setCell _ _ _ _ hne)).trans h
theorem LogAt.set {w : World} {k : Nat} {L : Lab} {l : List Ev} {a : Addr} (h : LogAt w k L l) (v : Value) (h1 : k ≠ a.block) (h2 : L a.block ≠ 4) : LogAt (w.setCell a v) k L l :=
  h.below (Below.heap_setCell _ _ _ _ h1) (fun g hg _ => ⟨Below.heap_setCell _ _ _ _ (by intro e; subst e; exact h2 hg), rfl⟩)

theorem Good.count {E : G} {L : Lab} {S : St} {w : World} (h : Good E L S w) (hc : S.cnt + 1 ≤ 4611686018427387904) :
    Good E L { S with cnt := S.cnt + 1 } (w.setCell ⟨E.a, 1, none⟩ (.int .i64 ((S.cnt : Int) + 1))) := by
  have ha := h.la
  have nk : E.k ≠ E.a := by intro e; have := h.lk; rw [e] at this; omega
  have np : E.p ≠ E.a := by intro e; have := h.lp; rw [e] at this; omega
  have nc : E.c ≠ E.a := by intro e; have := h.lc; rw [e] at this; omega
  refine ⟨h.ok, cell_set_other h.k0 nk, cell_set_other h.k1 nk, h.pl.mono (Below.heap_setCell _ _ _ _ np), ?_, h.lg.set _ nk (by show L E.a ≠ 4; omega), ?_, h.lk, h.lp, h.la, h.lc, fun b hb => h.new b (by simpa [World.setCell] using hb)⟩
  · refine ⟨?_, ?_, ?_, fun i hi => cell_set_other (h.ar.c0 i hi) nc, ?_, h.ar.ne, h.ar.n2, h.ar.m64, hc⟩
    · rw [World.cell?_setCell_other _ _ _ _ (by simp)]; exact h.ar.a0
    · rw [World.cell?_setCell_same _ _ _ h.ar.a1]; simp
    · rw [World.frozen?_setCell]; exact h.ar.af
    · intro i hi; rw [World.frozen?_setCell]; exact h.ar.cf i hi
  · intro b v hv
    obtain ⟨r1, r2, r3⟩ := h.rg b v hv
    exact ⟨cell_set_other r1 (by intro e; have e : b = E.a := e; subst e; omega), by rw [World.frozen?_setCell]; exact r2, r3⟩

theorem Good.poke {E : G} {L : Lab} {S : St} {w : World} (h : Good E L S w) {i v : Nat} (hi : i < S.n) (hv : v < 18446744073709551616) :
    Good E L { S with m := fun j => if j = i then v else S.m j } (w.setCell ⟨E.c, i, none⟩ (.int .u64 v)) := by
  have ha := h.lc
  have nk : E.k ≠ E.c := by intro e; have := h.lk; rw [e] at this; omega
  have np : E.p ≠ E.c := by intro e; have := h.lp; rw [e] at this; omega
  have na : E.a ≠ E.c := h.ar.ne
  refine ⟨h.ok, cell_set_other h.k0 nk, cell_set_other h.k1 nk, h.pl.mono (Below.heap_setCell _ _ _ _ np), ?_, h.lg.set _ nk (by show L E.c ≠ 4; omega), ?_, h.lk, h.lp, h.la, h.lc, fun b hb => h.new b (by simpa [World.setCell] using hb)⟩
  · refine ⟨cell_set_other h.ar.a0 na, cell_set_other h.ar.a1 na, by rw [World.frozen?_setCell]; exact h.ar.af, ?_, ?_, h.ar.ne, h.ar.n2, ?_, h.ar.cnt2⟩
    · intro j hj
      show _ = some (Value.int .u64 ((if j = i then v else S.m j : Nat) : Int))
      by_cases e : j = i
      · subst e
        rw [World.cell?_setCell_same _ _ _ (h.ar.c0 j hj)]; simp
      · rw [World.cell?_setCell_other _ _ _ _ (by intro h; injection h with _ h2 _; exact e h2.symm), if_neg e]; exact h.ar.c0 j hj
    · intro j hj; rw [World.frozen?_setCell]; exact h.ar.cf j hj
    · intro j
      show (if j = i then v else S.m j) < _
      split
      · exact hv
      · exact h.ar.m64 j
  · intro b u hu
    obtain ⟨r1, r2, r3⟩ := h.rg b u hu
    exact ⟨cell_set_other r1 (by intro e; have e : b = E.c := e; subst e; omega), by rw [World.frozen?_setCell]; exact r2, r3⟩

set_option maxHeartbeats 400000 in
theorem u64_load (b o : Nat) (v : Int) (w : World) (h : w.cell? ⟨b, o, none⟩ = some (.int .u64 v)) :
    Calls Try.prog 79 #[.pointer (some ⟨b, o, none⟩)] w fun e w' => e = .returned (.int .u64 v) ∧ w' = w := by
  have hl := run_call_load (P := Try.prog) Try.func96 (by kernel_rfl) (by kernel_rfl) (by kernel_rfl) .u64 (by kernel_rfl) h
  go_enter Try.func79, Try.ntmps79
  go_wp2
  go_ret
  exact ⟨rfl, rfl⟩

set_option maxHeartbeats 400000 in
theorem u64_store (b o : Nat) (u v : Int) (w : World) (h : w.cell? ⟨b, o, none⟩ = some (.int .u64 u)) (hf : w.frozen? ⟨b, o, none⟩ = false) :
    Calls Try.prog 36 #[.pointer (some ⟨b, o, none⟩), .int .u64 v] w fun e w' => e = .returned (.tuple #[]) ∧ w' = w.setCell ⟨b, o, none⟩ (.int .u64 v) := by
  have hl := run_call_store (P := Try.prog) Try.func65 (by kernel_rfl) (by kernel_rfl) (by kernel_rfl) (by kernel_rfl) (k := .u64) (y := v) h hf
  go_enter Try.func36, Try.ntmps36
  go_wp2
  go_end0
  exact ⟨rfl, rfl⟩

set_option maxHeartbeats 400000 in
theorem i64_add1 (b o : Nat) (u : Int) (w : World) (h : w.cell? ⟨b, o, none⟩ = some (.int .i64 u)) (hf : w.frozen? ⟨b, o, none⟩ = false) (h0 : 0 ≤ u) (h1 : u < 9000000000000000000) :
    Calls Try.prog 64 #[.pointer (some ⟨b, o, none⟩), .int .i64 1] w fun e w' => e = .returned (.int .i64 (u + 1)) ∧ w' = w.setCell ⟨b, o, none⟩ (.int .i64 (u + 1)) := by
  have hl := run_call_add (P := Try.prog) Try.func90 (by kernel_rfl) (by kernel_rfl) (by kernel_rfl) .i64 (by kernel_rfl) (y := 1) (s := u + 1) h hf (by simp [Op.intArith, go_sem]; rw [IntWalk.i64_in _ (by omega)])
  go_enter Try.func64, Try.ntmps64
  go_wp2
  go_ret
  exact ⟨rfl, rfl⟩

set_option maxHeartbeats 400000 in
theorem i64_load (b o : Nat) (v : Int) (w : World) (h : w.cell? ⟨b, o, none⟩ = some (.int .i64 v)) :
    Calls Try.prog 45 #[.pointer (some ⟨b, o, none⟩)] w fun e w' => e = .returned (.int .i64 v) ∧ w' = w := by
  have hl := run_call_load (P := Try.prog) Try.func76 (by kernel_rfl) (by kernel_rfl) (by kernel_rfl) .i64 (by kernel_rfl) h
  go_enter Try.func45, Try.ntmps45
  go_wp2
  go_ret
  exact ⟨rfl, rfl⟩

set_option maxHeartbeats 400000 in
theorem arena_at_no (b : Nat) (i : Int) (w : World) (c : Option Addr) (l cap : Nat)
    (h0 : w.cell? ⟨b, 0, none⟩ = some (.slice c l cap)) (hi : i < 0 ∨ (l : Int) ≤ i) :
    Calls Try.prog 35 #[.pointer (some ⟨b, 0, none⟩), .int .i64 i] w fun e w' => e = .returned (.pointer none) ∧ w' = w := by
  rcases hi with hi | hi
  · go_enter Try.func35, Try.ntmps35
    go_wp2
    go_ret
    exact ⟨rfl, rfl⟩
  · by_cases h1 : i < 0
    · go_enter Try.func35, Try.ntmps35
      go_wp2
      go_ret
      exact ⟨rfl, rfl⟩
    · go_enter Try.func35, Try.ntmps35
      go_wp2
      go_ret
      exact ⟨rfl, rfl⟩

set_option maxHeartbeats 400000 in
theorem arena_at_yes (b cb : Nat) (i : Nat) (u : Int) (w : World) (l : Nat)
    (h0 : w.cell? ⟨b, 0, none⟩ = some (.slice (some ⟨cb, 0, none⟩) l l)) (h1 : w.cell? ⟨b, 1, none⟩ = some (.int .i64 u)) (hf : w.frozen? ⟨b, 1, none⟩ = false)
    (hu0 : 0 ≤ u) (hu1 : u < 9000000000000000000) (hi : i < l) (hl : l ≤ 2000000) (hcb : cb ≠ b) :
    Calls Try.prog 35 #[.pointer (some ⟨b, 0, none⟩), .int .i64 i] w fun e w' => e = .returned (.pointer (some ⟨cb, i, none⟩)) ∧ w' = w.setCell ⟨b, 1, none⟩ (.int .i64 (u + 1)) := by
  go_enter Try.func35, Try.ntmps35
  go_wp2_with (go_at_call 64; refine (i64_add1 _ _ u _ h1 hf hu0 hu1).mono ?_; rintro e w' ⟨rfl, rfl⟩)
  go_ret
  exact ⟨rfl, rfl⟩

/-- 'at', of the core's arena. -/
theorem at_no {E : G} {L : Lab} {S : St} {w : World} (h : Good E L S w) (i : Int) (hi : ¬ S.has i) :
    Calls Try.prog 35 #[.pointer (some ⟨E.a, 0, none⟩), .int .i64 i] w fun e w' => e = .returned (.pointer none) ∧ w' = w :=
  arena_at_no E.a i w _ _ _ h.ar.a0 (by unfold St.has at hi; omega)
theorem at_yes {E : G} {L : Lab} {S : St} {w : World} (h : Good E L S w) (i : Nat) (hi : i < S.n) (hc : S.cnt + 1 ≤ 4611686018427387904) :
    Calls Try.prog 35 #[.pointer (some ⟨E.a, 0, none⟩), .int .i64 i] w fun e w' => e = .returned (.pointer (some ⟨E.c, i, none⟩)) ∧ Good E L { S with cnt := S.cnt + 1 } w' ∧ Shr L w L w' :=
  (arena_at_yes E.a E.c i S.cnt w S.n h.ar.a0 h.ar.a1 h.ar.af (by omega) (by omega) hi (by have := h.ar.n2; omega) (Ne.symm h.ar.ne)).mono
    fun e w' ⟨he, hw⟩ => ⟨he, by subst hw; exact h.count hc, by subst hw; exact Shr.set _ (by show 1 ≤ L E.a; have := h.la; omega) (by show L E.a < 8; have := h.la; omega)⟩

theorem St.has_nat {S : St} {i : Int} (h : S.has i) : ∃ n : Nat, i = n ∧ n < S.n := ⟨i.toNat, by unfold St.has at h; omega, by unfold St.has at h; omega⟩

set_option maxHeartbeats 400000 in
theorem arena_load {E : G} {L : Lab} {S : St} {w : World} (h : Good E L S w) (i : Int) (hc : (S.touch i).cnt ≤ 4611686018427387904) :
    Calls Try.prog 99 #[.pointer (some ⟨E.a, 0, none⟩), .int .i64 i] w fun e w' => e = .returned (.int .u64 (S.get i)) ∧ Good E L (S.touch i) w' ∧ Shr L w L w' := by
  by_cases hi : S.has i
  · obtain ⟨n, rfl, hn⟩ := St.has_nat hi
    have e1 : S.touch n = { S with cnt := S.cnt + 1 } := by unfold St.touch; rw [if_pos hi]
    have e2 : S.get n = S.m n := by unfold St.get; rw [if_pos hi]; simp
    rw [e1] at hc
    rw [e1, e2]
    go_enter Try.func99, Try.ntmps99
    go_wp2_with fail
    refine (at_yes h n hn hc).mono ?_
    rintro e w' ⟨rfl, hg, hs⟩
    have hcell := hg.ar.c0 n hn
    go_wp2_with (go_at_call 79; refine (u64_load _ _ _ _ hcell).mono ?_; rintro e w' ⟨rfl, rfl⟩)
    go_ret
    exact ⟨rfl, hg, hs⟩
  · have e1 : S.touch i = S := by unfold St.touch; rw [if_neg hi]
    have e2 : S.get i = 0 := by unfold St.get; rw [if_neg hi]
    rw [e1, e2]
    go_enter Try.func99, Try.ntmps99
    go_wp2_with (refine (at_no h i hi).mono ?_; rintro e w' ⟨rfl, rfl⟩)
    go_ret
    exact ⟨rfl, h, Shr.refl _ _⟩

set_option maxHeartbeats 400000 in
theorem arena_store {E : G} {L : Lab} {S : St} {w : World} (h : Good E L S w) (i : Int) (v : Nat) (hv : v < 18446744073709551616) (hc : (S.put i v).cnt ≤ 4611686018427387904) :
    Calls Try.prog 9 #[.pointer (some ⟨E.a, 0, none⟩), .int .i64 i, .int .u64 v] w fun e w' => e = .returned (.bool (decide (S.has i))) ∧ Good E L (S.put i v) w' ∧ Shr L w L w' := by
  by_cases hi : S.has i
  · have hd : decide (S.has i) = true := by simpa using hi
    rw [hd]
    obtain ⟨n, rfl, hn⟩ := St.has_nat hi
    have e1 : S.put n v = { S with cnt := S.cnt + 1, m := fun j => if j = n then v else S.m j } := by unfold St.put; rw [if_pos hi]; simp
    rw [e1] at hc
    rw [e1]
    go_enter Try.func9, Try.ntmps9
    go_wp2_with fail
    refine (at_yes h n hn hc).mono ?_
    rintro e w' ⟨rfl, hg, hs⟩
    have hcell := hg.ar.c0 n hn
    have hfr := hg.ar.cf n hn
    have hp := hg.poke hn hv
    have hlc := h.lc
    clear hd
    go_wp2_with (go_at_call 36; refine (u64_store _ _ _ _ _ hcell hfr).mono ?_; rintro e w' ⟨rfl, rfl⟩)
    go_ret
    exact ⟨rfl, hp, hs.trans (Shr.set _ (by show 1 ≤ L E.c; omega) (by show L E.c < 8; omega))⟩
  · have hd : decide (S.has i) = false := by simpa using hi
    rw [hd]
    have e1 : S.put i v = S := by unfold St.put; rw [if_neg hi]
    rw [e1]
    clear hd
    go_enter Try.func9, Try.ntmps9
    go_wp2_with (refine (at_no h i hi).mono ?_; rintro e w' ⟨rfl, rfl⟩)
    go_ret
    exact ⟨rfl, h, Shr.refl _ _⟩
end Go.Proofs.Ytlbjjooiiikmjaa
