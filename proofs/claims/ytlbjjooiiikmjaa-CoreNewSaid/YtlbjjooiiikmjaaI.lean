/- All cells; the clock; a Tick. -/
import Derived.Test.YtlbjjooiiikmjaaL
namespace Go.Proofs.Ytlbjjooiiikmjaa
open Go.RowKit
set_option maxRecDepth 100000
set_option linter.unusedVariables false

structure AllAt (w : World) (n : Nat) (m : Nat → Nat) (k : Nat) (W : World) : Prop where
  bl : Below w.heap.size w W
  c0 : ∀ i, i < n → W.cell? ⟨w.heap.size, i, none⟩ = some (.int .u64 (if i < k then m i else 0 : Nat))
  cf : ∀ i, i < n → W.frozen? ⟨w.heap.size, i, none⟩ = false
theorem AllAt.start (w : World) (n : Nat) (m : Nat → Nat) (t : TypeId) : AllAt w n m 0 (w.alloc (.cells (madeCells #[.int .u64 0] n) t)) := by
  refine ⟨(Below.refl _ _).alloc (Nat.le_refl _) _, ?_, ?_⟩
  · intro i hi
    have h := cell_made (w := w) (z := .int .u64 0) (e := t) hi
    simp only [Nat.not_lt_zero, if_false]
    exact h
  · intro i hi
    exact frozen_made
theorem AllAt.step {w W : World} {n : Nat} {m : Nat → Nat} {k : Nat} (h : AllAt w n m k W) (hk : k < n) : AllAt w n m (k + 1) (W.setCell ⟨w.heap.size, k, none⟩ (.int .u64 (m k))) := by
  refine ⟨h.bl.setCell (Nat.le_refl _) _, ?_, ?_⟩
  · intro i hi
    by_cases e : i = k
    · subst e
      refine (World.cell?_setCell_same _ _ _ (h.c0 i hi)).trans ?_
      simp
    · refine (World.cell?_setCell_other _ _ _ _ (by intro x; cases x; exact e rfl)).trans ?_
      rw [h.c0 i hi]
      have : (i < k + 1) = (i < k) := by apply propext; omega
      simp only [this]
  · intro i hi; rw [World.frozen?_setCell]; exact h.cf i hi

set_option maxHeartbeats 1000000 in
theorem arena_all {a c : Nat} {S : St} {w : World} (hA : ArenaAt w a c S) :
    Calls Try.prog 49 #[.pointer (some ⟨a, 0, none⟩)] w fun e w' => e = .returned (.slice (some ⟨w.heap.size, 0, none⟩) S.n S.n) ∧ AllAt w S.n S.m S.n w' := by
  have hn := hA.n2
  have hmk := make_words S.n hn
  have a0 := hA.a0
  have la := cell_lt a0
  have HA := Go.Lib.hid hA
  clear hA
  go_enter Try.func49, Try.ntmps49
  go_wp2
  have HS := AllAt.start w S.n S.m 34
  generalize w.alloc (.cells (madeCells #[.int .u64 0] S.n) 34) = W0 at *
  go_loopw [4, 16] (fun _ i wr => ∃ k : Nat, k ≤ S.n ∧ i = .int .i64 k ∧ AllAt w S.n S.m k wr) (fun _ i _ => S.n - (intOf i).toNat)
  case atStart => exact ⟨0, Nat.zero_le _, rfl, HS⟩
  case round =>
    obtain ⟨k, hk, rfl, hat⟩ := hrel
    have HAT := Go.Lib.hid hat
    have e0 := bcell hat.bl a0 la
    by_cases hlt : k < S.n
    · have e1 := bcell hat.bl (HA.out.c0 k hlt) (cell_lt (HA.out.c0 k hlt))
      have e2 := hat.c0 k hlt
      have e3 := hat.cf k hlt
      have b1 : (0 : Int) ≤ (k : Int) := by omega
      have b2 : (k : Int) < (S.n : Int) := by omega
      clear hat HS
      go_wp2_with (go_at_call 79; refine (u64_load _ _ _ _ e1).mono ?_; rintro e w' ⟨rfl, rfl⟩)
      go_roundw
      case rel => exact ⟨k + 1, by omega, by go_num, HAT.out.step hlt⟩
      case measure => simp [intOf]; omega
    · clear hat HS
      have s4 : ((k : Int) < S.n) = False := by simp; omega
      go_wp2
      go_ret
      have hk' : k = S.n := by omega
      subst hk'
      exact ⟨rfl, HAT.out⟩
set_option maxHeartbeats 1000000 in
theorem core_peek {E : G} {L : Lab} {S : St} {w : World} (hg : Good E L S w) (i : Nat) (hi : i < S.n) :
    Calls Try.prog 39 #[.pointer (some ⟨E.k, 0, none⟩), .int .i64 i] w fun e w' => e = .returned (.int .u64 (S.m i : Nat)) ∧ Below w.heap.size w w' := by
  have k1 := hg.k1
  have hn := hg.ar.n2
  have HA := Go.Lib.hid (arena_all hg.ar)
  clear hg
  have b1 : (0 : Int) ≤ (i : Int) := by omega
  have b2 : (i : Int) < (S.n : Int) := by omega
  go_enter Try.func39, Try.ntmps39
  go_wp2_with fail
  refine HA.out.mono ?_
  rintro e w' ⟨rfl, hat⟩
  have e1 := hat.c0 i hi
  rw [if_pos hi] at e1
  have hb := hat.bl
  clear hat HA
  go_wp2
  go_ret
  exact ⟨rfl, hb⟩
set_option maxHeartbeats 1000000 in
theorem core_peek_no {E : G} {L : Lab} {S : St} {w : World} (hg : Good E L S w) (i : Int) (hi : i < 0) :
    Calls Try.prog 39 #[.pointer (some ⟨E.k, 0, none⟩), .int .i64 i] w fun e w' => e = .returned (.int .u64 0) ∧ w' = w := by
  clear hg
  go_enter Try.func39, Try.ntmps39
  go_wp2
  go_ret
  exact ⟨rfl, rfl⟩
set_option maxHeartbeats 1000000 in
theorem core_clock {E : G} {L : Lab} {S : St} {w : World} (hg : Good E L S w) (h0 : 0 < S.n) (hlt : S.m 0 < 9223372036854775808) :
    Calls Try.prog 13 #[.pointer (some ⟨E.k, 0, none⟩)] w fun e w' => e = .returned (.int .i64 (S.m 0 : Nat)) ∧ Below w.heap.size w w' := by
  have k0 := hg.k0
  have HG := Go.Lib.hid hg
  have HP := Go.Lib.hid (core_peek hg 0 h0)
  clear hg
  go_enter Try.func13, Try.ntmps13
  go_wp2_with (first
    | (go_at_call 11; refine (plan_Clock _ _).mono ?_; rintro e w' ⟨rfl, rfl⟩)
    | fail)
  have hwr : IntKind.i64.wrap (S.m 0 : Int) = (S.m 0 : Nat) := IntWalk.i64_in _ (by omega)
  generalize hx : S.m 0 = x at *
  replace hx := Go.Lib.hid hx
  refine HP.out.mono ?_
  rintro e w2 ⟨rfl, hb⟩
  clear HP HG
  go_wp2
  go_ret
  exact ⟨by rw [hx.out]; first | rfl | simp [hwr], hb⟩
set_option maxHeartbeats 400000 in
theorem u64_add1 (b o : Nat) (u : Int) (w : World) (h : w.cell? ⟨b, o, none⟩ = some (.int .u64 u)) (hf : w.frozen? ⟨b, o, none⟩ = false) (h0 : 0 ≤ u) (h1 : u < 9000000000000000000) :
    Calls Try.prog 66 #[.pointer (some ⟨b, o, none⟩), .int .u64 1] w fun e w' => e = .returned (.int .u64 (u + 1)) ∧ w' = w.setCell ⟨b, o, none⟩ (.int .u64 (u + 1)) := by
  have hl := run_call_add (P := Try.prog) Try.func91 (by kernel_rfl) (by kernel_rfl) (by kernel_rfl) .u64 (by kernel_rfl) (y := 1) (s := u + 1) h hf (by simp [Op.intArith, go_sem]; rw [IntWalk.u64_in _ (by omega)])
  go_enter Try.func66, Try.ntmps66
  go_wp2
  go_ret
  exact ⟨rfl, rfl⟩
set_option maxHeartbeats 1000000 in
theorem arena_add1 {E : G} {L : Lab} {S : St} {w : World} (h : Good E L S w) (n : Nat) (hn : n < S.n) (hm : S.m n < 4611686018427387904) (hc : S.cnt + 1 ≤ 4611686018427387904) :
    Calls Try.prog 37 #[.pointer (some ⟨E.a, 0, none⟩), .int .i64 n, .int .u64 1] w fun e w' => e = .returned (.int .u64 (S.m n : Nat)) ∧ Good E L { S with cnt := S.cnt + 1, m := fun j => if j = n then S.m n + 1 else S.m j } w' ∧ Shr L w L w' := by
  have hlc := h.lc
  have hsub : IntKind.u64.wrap ((S.m n : Int) + 1 - 1) = (S.m n : Nat) := by rw [IntWalk.u64_in _ (by omega)]; omega
  have HW := Go.Lib.hid hsub
  clear hsub
  go_enter Try.func37, Try.ntmps37
  go_wp2_with fail
  refine (at_yes h n hn hc).mono ?_
  rintro e w' ⟨rfl, hg, hs⟩
  have hcell := hg.ar.c0 n hn
  have hfr := hg.ar.cf n hn
  have hp := hg.poke (v := S.m n + 1) hn (by omega)
  have HP := Go.Lib.hid hp
  have HS := Go.Lib.hid hs
  clear hp hs h
  dsimp only at hcell
  generalize hx : S.m n = x at *
  replace hx := Go.Lib.hid hx
  have e1 : (x : Int) < 9000000000000000000 := by omega
  go_wp2_with (go_at_call 66; refine (u64_add1 _ _ _ _ hcell hfr (by omega) e1).mono ?_; rintro e w' ⟨rfl, rfl⟩)
  go_ret
  refine ⟨by rw [hx.out]; first | rfl | (simp; done) | (have := HW.out; simpa using this), ?_, HS.out.trans (Shr.set _ (by show 1 ≤ L E.c; omega) (by show L E.c < 8; omega))⟩
  have hp := HP.out
  rw [show ((x + 1 : Nat) : Int) = (x : Int) + 1 from by omega] at hp
  rw [hx.out]
  exact hp
theorem Noted.of_below {E : G} {L L' : Lab} {S : St} {w W w' : World} {e : Ev} (h : Noted E L S W e L' w') (hb : Below w.heap.size w W) : Noted E L S w e L' w' :=
  ⟨h.good, (Shr.of_below hb L).trans h.shr, fun b hb' h1 h4 => (h.blk b (Nat.lt_of_lt_of_le hb' hb.size) h1 h4).trans (hb.block b hb')⟩
set_option maxHeartbeats 4000000 in
theorem core_note_tick {E : G} {L : Lab} {S : St} {w : World} (hg : Good E L S w) (hn : S.log.length ≤ 1000000) (T : Int) (hT : 0 ≤ T) :
    Calls Try.prog 38 #[.pointer (some ⟨E.k, 0, none⟩), .agg #[.int .i64 1, .int .i64 0, .int .i64 0, .int .i64 0, .int .i64 0, .int .i64 0, .int .i64 0, .int .i64 T, .int .i64 0, .int .i64 0, .bool false, .int .i64 0]] w fun e w' => ∃ L', e = .returned (.int .i64 0) ∧
      Noted E L S w ⟨1, 0, 0, 0, 0, 0, 0, T, 0, 0, false, 0⟩ L' w' := by
  have k0 := hg.k0
  have lk := cell_lt k0
  have HG := Go.Lib.hid hg
  have HR := Go.Lib.hid (fun w => tick_right T hT w)
  clear hg
  go_enter Try.func38, Try.ntmps38
  go_wp2
  have e0 : (w.alloc (.cells #[.int .i64 1, .int .i64 0, .int .i64 0, .int .i64 0, .int .i64 0, .int .i64 0, .int .i64 0, .int .i64 T, .int .i64 0, .int .i64 0, .bool false, .int .i64 0] 43)).cell? ⟨w.heap.size, 0, none⟩ = some (.int .i64 1) := by go_simp
  have e1 : (w.alloc (.cells #[.int .i64 1, .int .i64 0, .int .i64 0, .int .i64 0, .int .i64 0, .int .i64 0, .int .i64 0, .int .i64 T, .int .i64 0, .int .i64 0, .bool false, .int .i64 0] 43)).cell? ⟨w.heap.size, 1, none⟩ = some (.int .i64 0) := by go_simp
  have e2 : (w.alloc (.cells #[.int .i64 1, .int .i64 0, .int .i64 0, .int .i64 0, .int .i64 0, .int .i64 0, .int .i64 0, .int .i64 T, .int .i64 0, .int .i64 0, .bool false, .int .i64 0] 43)).cell? ⟨w.heap.size, 2, none⟩ = some (.int .i64 0) := by go_simp
  have e3 : (w.alloc (.cells #[.int .i64 1, .int .i64 0, .int .i64 0, .int .i64 0, .int .i64 0, .int .i64 0, .int .i64 0, .int .i64 T, .int .i64 0, .int .i64 0, .bool false, .int .i64 0] 43)).cell? ⟨w.heap.size, 3, none⟩ = some (.int .i64 0) := by go_simp
  have e4 : (w.alloc (.cells #[.int .i64 1, .int .i64 0, .int .i64 0, .int .i64 0, .int .i64 0, .int .i64 0, .int .i64 0, .int .i64 T, .int .i64 0, .int .i64 0, .bool false, .int .i64 0] 43)).cell? ⟨w.heap.size, 4, none⟩ = some (.int .i64 0) := by go_simp
  have e5 : (w.alloc (.cells #[.int .i64 1, .int .i64 0, .int .i64 0, .int .i64 0, .int .i64 0, .int .i64 0, .int .i64 0, .int .i64 T, .int .i64 0, .int .i64 0, .bool false, .int .i64 0] 43)).cell? ⟨w.heap.size, 5, none⟩ = some (.int .i64 0) := by go_simp
  have e6 : (w.alloc (.cells #[.int .i64 1, .int .i64 0, .int .i64 0, .int .i64 0, .int .i64 0, .int .i64 0, .int .i64 0, .int .i64 T, .int .i64 0, .int .i64 0, .bool false, .int .i64 0] 43)).cell? ⟨w.heap.size, 6, none⟩ = some (.int .i64 0) := by go_simp
  have e7 : (w.alloc (.cells #[.int .i64 1, .int .i64 0, .int .i64 0, .int .i64 0, .int .i64 0, .int .i64 0, .int .i64 0, .int .i64 T, .int .i64 0, .int .i64 0, .bool false, .int .i64 0] 43)).cell? ⟨w.heap.size, 7, none⟩ = some (.int .i64 T) := by go_simp
  have e8 : (w.alloc (.cells #[.int .i64 1, .int .i64 0, .int .i64 0, .int .i64 0, .int .i64 0, .int .i64 0, .int .i64 0, .int .i64 T, .int .i64 0, .int .i64 0, .bool false, .int .i64 0] 43)).cell? ⟨w.heap.size, 8, none⟩ = some (.int .i64 0) := by go_simp
  have e9 : (w.alloc (.cells #[.int .i64 1, .int .i64 0, .int .i64 0, .int .i64 0, .int .i64 0, .int .i64 0, .int .i64 0, .int .i64 T, .int .i64 0, .int .i64 0, .bool false, .int .i64 0] 43)).cell? ⟨w.heap.size, 9, none⟩ = some (.int .i64 0) := by go_simp
  have e10 : (w.alloc (.cells #[.int .i64 1, .int .i64 0, .int .i64 0, .int .i64 0, .int .i64 0, .int .i64 0, .int .i64 0, .int .i64 T, .int .i64 0, .int .i64 0, .bool false, .int .i64 0] 43)).cell? ⟨w.heap.size, 10, none⟩ = some (.bool false) := by go_simp
  have e11 : (w.alloc (.cells #[.int .i64 1, .int .i64 0, .int .i64 0, .int .i64 0, .int .i64 0, .int .i64 0, .int .i64 0, .int .i64 T, .int .i64 0, .int .i64 0, .bool false, .int .i64 0] 43)).cell? ⟨w.heap.size, 11, none⟩ = some (.int .i64 0) := by go_simp
  have hb : Below w.heap.size w (w.alloc (.cells #[.int .i64 1, .int .i64 0, .int .i64 0, .int .i64 0, .int .i64 0, .int .i64 0, .int .i64 0, .int .i64 T, .int .i64 0, .int .i64 0, .bool false, .int .i64 0] 43)) := (Below.refl _ _).alloc (Nat.le_refl _) _
  generalize (w.alloc (.cells #[.int .i64 1, .int .i64 0, .int .i64 0, .int .i64 0, .int .i64 0, .int .i64 0, .int .i64 0, .int .i64 T, .int .i64 0, .int .i64 0, .bool false, .int .i64 0] 43)) = W at *
  go_still_tail 4, (by kernel_rfl)
  change wpList _ _ _ _ _ (World.drew _)
  replace hb := hb.drew
  generalize World.drew W = W2 at *
  go_wp2_with fail
  refine (log_add (HG.out.below hb) hn 1 0 0 0 0 0 0 T 0 0 0 false HR.out).mono ?_
  rintro e w2 ⟨L', rfl, hno⟩
  have HNO := Go.Lib.hid (hno.of_below hb)
  clear hno
  go_wp2
  go_ret
  exact ⟨L', rfl, HNO.out⟩
def tickEv (T : Nat) : Ev := ⟨1, 0, 0, 0, 0, 0, 0, T, 0, 0, false, 0⟩
def St.tick (S : St) : St := { S with cnt := S.cnt + 1, m := fun j => if j = 0 then S.m 0 + 1 else S.m j, log := S.log ++ [tickEv (S.m 0 + 1)] }
set_option maxHeartbeats 1000000 in
theorem core_tick_no {E : G} {L : Lab} {S : St} {w : World} (hg : Good E L S w) (h0 : 0 < S.n) (hlt : S.m 0 < 9223372036854775808) (hge : 1073741823 ≤ S.m 0) :
    Calls Try.prog 12 #[.pointer (some ⟨E.k, 0, none⟩)] w fun e w' => e = .returned (.bool false) ∧ Below w.heap.size w w' := by
  have HC := Go.Lib.hid (core_clock hg h0 hlt)
  clear hg
  go_enter Try.func12, Try.ntmps12
  go_wp2_with fail
  refine HC.out.mono ?_
  rintro e w' ⟨rfl, hb⟩
  clear HC hlt
  generalize S.m 0 = x at *
  have hI : (1073741823 : Int) ≤ (x : Int) := by omega
  have hD : decide ((1073741823 : Int) ≤ (x : Int)) = true := by simpa using hI
  clear hge
  go_wp2
  go_ret
  exact ⟨rfl, hb⟩
set_option maxHeartbeats 2000000 in
theorem core_tick {E : G} {L : Lab} {S : St} {w : World} (hg : Good E L S w) (h0 : 0 < S.n) (hlt : S.m 0 < 1073741823) (hc : S.cnt + 1 ≤ 4611686018427387904) (hn : S.log.length ≤ 1000000) :
    Calls Try.prog 12 #[.pointer (some ⟨E.k, 0, none⟩)] w fun e w' => ∃ L', e = .returned (.bool true) ∧ Good E L' S.tick w' ∧ Shr L w L' w' := by
  have HC := Go.Lib.hid (core_clock hg h0 (by omega))
  have HG := Go.Lib.hid hg
  clear hg
  go_enter Try.func12, Try.ntmps12
  go_wp2_with fail
  refine HC.out.mono ?_
  rintro e w1 ⟨rfl, hb⟩
  have hg := HG.out.below hb
  clear HC
  have k0 := hg.k0
  have k1 := hg.k1
  have HA := Go.Lib.hid (fun q => arena_add1 (hg.below (below_drewN q)) 0 h0 (by omega) hc)
  have HB := Go.Lib.hid (Shr.of_below hb L)
  clear hg hb
  generalize hx : S.m 0 = x at *
  replace hx := Go.Lib.hid hx
  have hw1 : IntKind.i64.wrap ((x : Int) + 1) = (x : Int) + 1 := IntWalk.i64_in _ (by omega)
  have hI : ((x : Int) < 1073741823) := by omega
  have hD : decide ((1073741823 : Int) ≤ (x : Int)) = false := by simp; omega
  have hlt' := Go.Lib.hid hlt
  have hn' := Go.Lib.hid hn
  have hc' := Go.Lib.hid hc
  clear hlt hn hc
  go_wp2
  go_still_tail 9, (by kernel_rfl)
  still_call (plan_Clock _ _)
  repeat still_step
  refine wpStill_nil ?_
  change wpList _ _ _ _ _ (World.drew _)
  go_wp2_with fail
  refine (HA.out 1).mono ?_
  rintro e w2 ⟨rfl, hg2, hs2⟩
  have HN := Go.Lib.hid (core_note_tick hg2 hn'.out ((x : Int) + 1) (by omega))
  have HS2 := Go.Lib.hid hs2
  clear hg2 hs2 HA
  go_wp2_with fail
  refine HN.out.mono ?_
  rintro e w3 ⟨L', rfl, hno⟩
  have HNO := Go.Lib.hid hno
  clear hno HN
  go_wp2
  go_ret
  refine ⟨L', by first | rfl | simp, ?_, ((HB.out.trans (Shr.of_below (below_drewN 1) L)).trans HS2.out).trans HNO.out.shr⟩
  have e : tickEv (x + 1) = ⟨1, 0, 0, 0, 0, 0, 0, (x : Int) + 1, 0, 0, false, 0⟩ := rfl
  unfold St.tick
  rw [hx.out, e]
  have h := HNO.out.good
  first
    | exact h
    | (rw [hx.out] at h; exact h)
end Go.Proofs.Ytlbjjooiiikmjaa

