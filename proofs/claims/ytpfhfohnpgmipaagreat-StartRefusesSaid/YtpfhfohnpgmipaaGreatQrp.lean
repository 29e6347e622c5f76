/- 'knelllaw16.StartRefuses' returns true for every input, and leaves its arguments as they were. No condition. -/
import Derived.Test.YtpfhfohnpgmipaaGreatQro
import Derived.ProofKit
import Derived.OpenShut
import Derived.Test.YtpfhfohnpgmipaaGreatRows
import Derived.WalkKit
import Derived.ShutString
import Derived.ChangeOld
import Derived.Below
namespace Go.Proofs.YtpfhfohnpgmipaaGreat
open Go.RowKit
set_option maxRecDepth 100000
set_option linter.unusedVariables false

set_option maxHeartbeats 8000000 in
theorem law16_StartRefuses (x : Nat → Int) (ticks shard user : Int) (hT : -9223372036854775808 ≤ ticks ∧ ticks < 9223372036854775808) (hS : -9223372036854775808 ≤ shard ∧ shard < 9223372036854775808) (hU : -9223372036854775808 ≤ user ∧ user < 9223372036854775808) (w : World) :
    Calls Tryz.prog 4 #[.agg #[.int .i64 (x 0), .int .i64 (x 1), .int .i64 (x 2), .int .i64 (x 3), .int .i64 (x 4), .int .i64 (x 5), .int .i64 (x 6), .int .i64 (x 7), .int .i64 (x 8), .int .i64 (x 9), .int .i64 (x 10), .int .i64 (x 11), .int .i64 (x 12)], .int .i64 ticks, .int .i64 shard, .int .i64 user] w fun e w' => e = .returned (.bool true) ∧ Below w.heap.size w w' := by
  have hb : Below w.heap.size w (w.alloc (.cells #[.int .i64 (x 0), .int .i64 (x 1), .int .i64 (x 2), .int .i64 (x 3), .int .i64 (x 4), .int .i64 (x 5), .int .i64 (x 6), .int .i64 (x 7), .int .i64 (x 8), .int .i64 (x 9), .int .i64 (x 10), .int .i64 (x 11), .int .i64 (x 12)] 23)) := (Below.refl _ _).alloc (Nat.le_refl _) _
  have e0 : (w.alloc (.cells #[.int .i64 (x 0), .int .i64 (x 1), .int .i64 (x 2), .int .i64 (x 3), .int .i64 (x 4), .int .i64 (x 5), .int .i64 (x 6), .int .i64 (x 7), .int .i64 (x 8), .int .i64 (x 9), .int .i64 (x 10), .int .i64 (x 11), .int .i64 (x 12)] 23)).cell? ⟨w.heap.size, 0, none⟩ = some (.int .i64 (x 0)) := by go_simp
  have e1 : (w.alloc (.cells #[.int .i64 (x 0), .int .i64 (x 1), .int .i64 (x 2), .int .i64 (x 3), .int .i64 (x 4), .int .i64 (x 5), .int .i64 (x 6), .int .i64 (x 7), .int .i64 (x 8), .int .i64 (x 9), .int .i64 (x 10), .int .i64 (x 11), .int .i64 (x 12)] 23)).cell? ⟨w.heap.size, 1, none⟩ = some (.int .i64 (x 1)) := by go_simp
  have e2 : (w.alloc (.cells #[.int .i64 (x 0), .int .i64 (x 1), .int .i64 (x 2), .int .i64 (x 3), .int .i64 (x 4), .int .i64 (x 5), .int .i64 (x 6), .int .i64 (x 7), .int .i64 (x 8), .int .i64 (x 9), .int .i64 (x 10), .int .i64 (x 11), .int .i64 (x 12)] 23)).cell? ⟨w.heap.size, 2, none⟩ = some (.int .i64 (x 2)) := by go_simp
  have e3 : (w.alloc (.cells #[.int .i64 (x 0), .int .i64 (x 1), .int .i64 (x 2), .int .i64 (x 3), .int .i64 (x 4), .int .i64 (x 5), .int .i64 (x 6), .int .i64 (x 7), .int .i64 (x 8), .int .i64 (x 9), .int .i64 (x 10), .int .i64 (x 11), .int .i64 (x 12)] 23)).cell? ⟨w.heap.size, 3, none⟩ = some (.int .i64 (x 3)) := by go_simp
  have e4 : (w.alloc (.cells #[.int .i64 (x 0), .int .i64 (x 1), .int .i64 (x 2), .int .i64 (x 3), .int .i64 (x 4), .int .i64 (x 5), .int .i64 (x 6), .int .i64 (x 7), .int .i64 (x 8), .int .i64 (x 9), .int .i64 (x 10), .int .i64 (x 11), .int .i64 (x 12)] 23)).cell? ⟨w.heap.size, 4, none⟩ = some (.int .i64 (x 4)) := by go_simp
  have e5 : (w.alloc (.cells #[.int .i64 (x 0), .int .i64 (x 1), .int .i64 (x 2), .int .i64 (x 3), .int .i64 (x 4), .int .i64 (x 5), .int .i64 (x 6), .int .i64 (x 7), .int .i64 (x 8), .int .i64 (x 9), .int .i64 (x 10), .int .i64 (x 11), .int .i64 (x 12)] 23)).cell? ⟨w.heap.size, 5, none⟩ = some (.int .i64 (x 5)) := by go_simp
  have e6 : (w.alloc (.cells #[.int .i64 (x 0), .int .i64 (x 1), .int .i64 (x 2), .int .i64 (x 3), .int .i64 (x 4), .int .i64 (x 5), .int .i64 (x 6), .int .i64 (x 7), .int .i64 (x 8), .int .i64 (x 9), .int .i64 (x 10), .int .i64 (x 11), .int .i64 (x 12)] 23)).cell? ⟨w.heap.size, 6, none⟩ = some (.int .i64 (x 6)) := by go_simp
  have e7 : (w.alloc (.cells #[.int .i64 (x 0), .int .i64 (x 1), .int .i64 (x 2), .int .i64 (x 3), .int .i64 (x 4), .int .i64 (x 5), .int .i64 (x 6), .int .i64 (x 7), .int .i64 (x 8), .int .i64 (x 9), .int .i64 (x 10), .int .i64 (x 11), .int .i64 (x 12)] 23)).cell? ⟨w.heap.size, 7, none⟩ = some (.int .i64 (x 7)) := by go_simp
  have e8 : (w.alloc (.cells #[.int .i64 (x 0), .int .i64 (x 1), .int .i64 (x 2), .int .i64 (x 3), .int .i64 (x 4), .int .i64 (x 5), .int .i64 (x 6), .int .i64 (x 7), .int .i64 (x 8), .int .i64 (x 9), .int .i64 (x 10), .int .i64 (x 11), .int .i64 (x 12)] 23)).cell? ⟨w.heap.size, 8, none⟩ = some (.int .i64 (x 8)) := by go_simp
  have e9 : (w.alloc (.cells #[.int .i64 (x 0), .int .i64 (x 1), .int .i64 (x 2), .int .i64 (x 3), .int .i64 (x 4), .int .i64 (x 5), .int .i64 (x 6), .int .i64 (x 7), .int .i64 (x 8), .int .i64 (x 9), .int .i64 (x 10), .int .i64 (x 11), .int .i64 (x 12)] 23)).cell? ⟨w.heap.size, 9, none⟩ = some (.int .i64 (x 9)) := by go_simp
  have e10 : (w.alloc (.cells #[.int .i64 (x 0), .int .i64 (x 1), .int .i64 (x 2), .int .i64 (x 3), .int .i64 (x 4), .int .i64 (x 5), .int .i64 (x 6), .int .i64 (x 7), .int .i64 (x 8), .int .i64 (x 9), .int .i64 (x 10), .int .i64 (x 11), .int .i64 (x 12)] 23)).cell? ⟨w.heap.size, 10, none⟩ = some (.int .i64 (x 10)) := by go_simp
  have e11 : (w.alloc (.cells #[.int .i64 (x 0), .int .i64 (x 1), .int .i64 (x 2), .int .i64 (x 3), .int .i64 (x 4), .int .i64 (x 5), .int .i64 (x 6), .int .i64 (x 7), .int .i64 (x 8), .int .i64 (x 9), .int .i64 (x 10), .int .i64 (x 11), .int .i64 (x 12)] 23)).cell? ⟨w.heap.size, 11, none⟩ = some (.int .i64 (x 11)) := by go_simp
  have e12 : (w.alloc (.cells #[.int .i64 (x 0), .int .i64 (x 1), .int .i64 (x 2), .int .i64 (x 3), .int .i64 (x 4), .int .i64 (x 5), .int .i64 (x 6), .int .i64 (x 7), .int .i64 (x 8), .int .i64 (x 9), .int .i64 (x 10), .int .i64 (x 11), .int .i64 (x 12)] 23)).cell? ⟨w.heap.size, 12, none⟩ = some (.int .i64 (x 12)) := by go_simp
  have HS := Go.Lib.hid (law15_Small x)
  have HBG := Go.Lib.hid (law15_Begin x)
  go_enter Tryz.func4, Tryz.ntmps4
  go_wp2_with fail
  refine (law16_speaks _).mono ?_
  rintro e w1 ⟨rfl, hb1⟩
  replace e0 := below_cell hb1 e0
  replace e1 := below_cell hb1 e1
  replace e2 := below_cell hb1 e2
  replace e3 := below_cell hb1 e3
  replace e4 := below_cell hb1 e4
  replace e5 := below_cell hb1 e5
  replace e6 := below_cell hb1 e6
  replace e7 := below_cell hb1 e7
  replace e8 := below_cell hb1 e8
  replace e9 := below_cell hb1 e9
  replace e10 := below_cell hb1 e10
  replace e11 := below_cell hb1 e11
  replace e12 := below_cell hb1 e12
  replace hb := hb.trans (hb1.mono hb.size)
  clear hb1
  go_wp2_with fail
  refine (HS.out _).mono ?_
  rintro e w2 ⟨rfl, hb1⟩
  replace e0 := below_cell hb1 e0
  replace e1 := below_cell hb1 e1
  replace e2 := below_cell hb1 e2
  replace e3 := below_cell hb1 e3
  replace e4 := below_cell hb1 e4
  replace e5 := below_cell hb1 e5
  replace e6 := below_cell hb1 e6
  replace e7 := below_cell hb1 e7
  replace e8 := below_cell hb1 e8
  replace e9 := below_cell hb1 e9
  replace e10 := below_cell hb1 e10
  replace e11 := below_cell hb1 e11
  replace e12 := below_cell hb1 e12
  replace hb := hb.trans (hb1.mono hb.size)
  clear hb1 HS
  by_cases hsm : smallI x
  · rw [decide_eq_true hsm]
    have HBE := Go.Lib.hid (HBG.out hsm)
    have hok := cfOf_ok hsm.1
    have hwk : ((cfOf x).workers : Int) = x 0 := by have := hsm.1 0 (by decide); show ((x 0).toNat : Int) = x 0; have h0 : (leastN.getD 0 0 : Int) = 1 := rfl; omega
    have hnd : (cfOf x).nodes ≤ 12 := by have := hsm.2.2.2.2.1; show (x 3).toNat ≤ 12; omega
    clear HBG hsm
    generalize hc : cfOf x = c at *
    clear hc
    have hz := tick_zero hok
    have hz0 := freshM_zero hok
    have hsz := hok.size_le
    have HRE := Go.Lib.hid (fun ob => refused hok hnd 0 ticks shard user ob)
    clear hnd
    go_wp2_with fail
    refine (HBE.out _).mono ?_
    rintro e w3 ⟨E, L, w0, rfl, hb3, hborn⟩
    obtain ⟨hcf, hgood, hbl, hold, hnr, hek⟩ := hborn
    obtain ⟨ek, ep, ea, ec, cf⟩ := E
    obtain rfl : cf = c := hcf
    have hb0 := hb.trans (hb3.mono hb.size)
    have HB3 := Go.Lib.hid (hb0.trans (hbl.mono hb0.size))
    have HOLD : Hid (∀ b, b < w.heap.size → L b = 0) := fun b hlt => hold b (Nat.lt_of_lt_of_le hlt hb0.size)
    have hcb : w.heap.size < w2.heap.size := cell_lt e0
    have hb3' := hb3.trans (hbl.mono hb3.size)
    have henv : Env L w3 [(w.heap.size, [.int .i64 (x 0), .int .i64 (x 1), .int .i64 (x 2), .int .i64 (x 3), .int .i64 (x 4), .int .i64 (x 5), .int .i64 (x 6), .int .i64 (x 7), .int .i64 (x 8), .int .i64 (x 9), .int .i64 (x 10), .int .i64 (x 11), .int .i64 (x 12)])] := by
      refine (Env.nil L w3).cons (hold _ (Nat.lt_of_lt_of_le hcb hb3.size)) (Nat.lt_of_lt_of_le hcb hb3'.size) ?_
      intro i v hi
      match i, hi with
      | 0, hi => obtain rfl := Option.some.inj hi; exact below_cell hb3' e0
      | 1, hi => obtain rfl := Option.some.inj hi; exact below_cell hb3' e1
      | 2, hi => obtain rfl := Option.some.inj hi; exact below_cell hb3' e2
      | 3, hi => obtain rfl := Option.some.inj hi; exact below_cell hb3' e3
      | 4, hi => obtain rfl := Option.some.inj hi; exact below_cell hb3' e4
      | 5, hi => obtain rfl := Option.some.inj hi; exact below_cell hb3' e5
      | 6, hi => obtain rfl := Option.some.inj hi; exact below_cell hb3' e6
      | 7, hi => obtain rfl := Option.some.inj hi; exact below_cell hb3' e7
      | 8, hi => obtain rfl := Option.some.inj hi; exact below_cell hb3' e8
      | 9, hi => obtain rfl := Option.some.inj hi; exact below_cell hb3' e9
      | 10, hi => obtain rfl := Option.some.inj hi; exact below_cell hb3' e10
      | 11, hi => obtain rfl := Option.some.inj hi; exact below_cell hb3' e11
      | 12, hi => obtain rfl := Option.some.inj hi; exact below_cell hb3' e12
      | _ + 13, hi => simp at hi
    have HE := Go.Lib.hid henv
    have HG := Go.Lib.hid hgood
    have HTK := Go.Lib.hid (core_tick hgood (by show 0 < cf.size; omega) (by show freshM cf 0 < _; omega) (by show 0 + 1 ≤ _; decide) (by show (0 : Nat) ≤ _; decide))
    clear henv hgood hbl hold hnr hek hb0 hb3 hb3' hb HBE hz0 e0 e1 e2 e3 e4 e5 e6 e7 e8 e9 e10 e11 e12
    generalize hcbx : w.heap.size = cb at HE hcb
    replace hcbx := Go.Lib.hid hcbx
    clear hcb
    go_wp2_with fail
    refine HTK.out.mono ?_
    rintro e w4 ⟨L4, rfl, hg4, hs4⟩
    have HB4 := Go.Lib.hid (hs4.below_old HB3.out (Nat.le_refl _) HOLD.out)
    have HOLD4 : Hid (∀ b, b < w.heap.size → L4 b = 0) := fun b hlt => (hs4.lab b (Nat.lt_of_lt_of_le hlt HB3.out.size)).trans (HOLD.out b hlt)
    have HE4 := Go.Lib.hid (HE.out.shr hs4)
    have HG4 : Hid (Good _ L4 (tickS cf) w4) := hg4
    clear hg4 hs4 HTK HG HE HB3 HOLD
    go_wp2_with fail
    refine (core_cells HG4.out).mono ?_
    rintro e wi ⟨rfl, rfl⟩
    go_wp2_with fail
    refine (arena_all HG4.out.ar).mono ?_
    rintro e w5 ⟨rfl, hall⟩
    have HG5 := Go.Lib.hid (HG4.out.below hall.bl)
    have HE5' := Go.Lib.hid (HE4.out.below hall.bl)
    have HB5 := Go.Lib.hid (HB4.out.trans (hall.bl.mono HB4.out.size))
    have hwl : L4 wi.heap.size = 0 := HG4.out.new _ (Nat.le_refl _)
    have HWC : Hid (∀ i, i < cf.size → w5.cell? ⟨wi.heap.size, i, none⟩ = some (.int .u64 ((tickS cf).m i : Nat))) := fun i hi => by
      have h := hall.c0 i hi
      rwa [if_pos (show i < (tickS cf).n from hi)] at h
    have hn : (tickS cf).n = cf.size := rfl
    rw [hn]
    have HE5 : Hid (Env L4 w5 ((wi.heap.size, []) :: [(cb, [.int .i64 (x 0), .int .i64 (x 1), .int .i64 (x 2), .int .i64 (x 3), .int .i64 (x 4), .int .i64 (x 5), .int .i64 (x 6), .int .i64 (x 7), .int .i64 (x 8), .int .i64 (x 9), .int .i64 (x 10), .int .i64 (x 11), .int .i64 (x 12)])])) := HE5'.out.cons hwl (by have h0 := HWC.out 0 (by omega); exact cell_lt h0) (fun i v hi => by simp at hi)
    clear hall HG4 HE4 HB4 hn HE5'
    generalize wi.heap.size = wb at *
    replace hwl := Go.Lib.hid hwl
    obtain ⟨hg6, hs6⟩ := HG5.out.newR [.int .i64 0] 36
    obtain ⟨m, S', er, hm, hr, hrd, c1, c2, c3, c4, hn9⟩ := (HRE.out w5.heap.size).ex
    have HR := Go.Lib.hid hr
    have HRD := Go.Lib.hid hrd
    have HC := Go.Lib.hid (And.intro c1 (And.intro c2 (And.intro c3 c4)))
    have HN9 : Hid (S'.n = cf.size) := hn9
    have HE6 := Go.Lib.hid (HE5.out.shr hs6)
    have HS6 := Go.Lib.hid hs6
    have HST := Go.Lib.hid (start_any (t := 0) (m := 410) (wk := 0) (ticks := ticks) (shard := shard) (user := user) (prApp_mono cf reR (onR_mono _ _)) hg6 (law16_re1 w5.heap.size) (by decide) hT.2)
    have HWL6 : Hid (∀ i, i < cf.size → (w5.alloc (.cells #[.int .i64 0] 36)).cell? ⟨wb, i, none⟩ = some (.int .u64 ((tickS cf).m i : Nat))) := fun i hi => hs6.cell (HWC.out i hi) (.inl hwl.out)
    clear hg6 hs6 hr hrd c1 c2 c3 c4 hn9 HRE HWC hwl HG5 HE5
    go_wp2_with fail
    generalize w5.alloc (.cells #[.int .i64 0] 36) = W6 at *
    generalize (fun b => if b = w5.heap.size then 5 else L4 b) = L6 at *
    generalize w5.heap.size = ob at *
    refine HST.out.mono ?_
    rintro e w7 ⟨v, L7, rfl, hd7, hg7, hc7⟩
    have HD7 := Go.Lib.hid hd7
    have HG7 := Go.Lib.hid hg7
    have HC7 := Go.Lib.hid hc7
    obtain ⟨f, cap, rfl, _, _⟩ := hc7
    clear hd7 hg7 HST
    have HT := Go.Lib.hid (HG7.out.task 0 (.func (.func f) #[] cap) 53)
    go_wp2_with fail
    refine (step_New f #[] cap w7).mono ?_
    rintro e w8 ⟨rfl, rfl⟩
    generalize (fun b => if b = w7.heap.size then 5000 + 0 else L7 b) = L8 at *
    have hd8 : DidP (TP 0) L7 w7 L8 (w7.alloc (.cells #[.func (.func f) #[] cap, .int .i64 0] 53)) := ⟨rfl, rfl, rfl, by simp, fun b hb _ => Below.heap_alloc _ _ _ hb, HT.out.2.2.lab⟩
    have HK8 := Go.Lib.hid (CodeSim.ext cf (prApp cf reR) _ 0 HC7.out HT.out.2.2)
    have HD8 := Go.Lib.hid hd8
    clear hd8 HC7
    generalize (w7.alloc (.cells #[.func (.func f) #[] cap, .int .i64 0] 53)) = W8 at *
    generalize w7.heap.size = tb at *
    go_wp2_with fail
    have HF : Calls Tryz.prog 12 #[.pointer (some ⟨tb, 0, none⟩), .int .i64 400] W8 _ := task_finish (most := 400) HT.out.1 HT.out.2.1 (by decide) hm (by decide) (by decide) (CodeSim.le cf (prApp cf reR) _ 0 HK8.out (by omega)) HR.out
    refine HF.mono ?_
    rintro e w9 ⟨v', L9, rfl, hg9, hd9, ht9⟩
    have hdd := HD7.out.toP.trans (HD8.out.trans hd9)
    have hans := hg9.reads HRD.out
    have HE9 := Go.Lib.hid (HE6.out.didP hdd)
    have HWC : Hid (∀ i, i < cf.size → w9.cell? ⟨wb, i, none⟩ = some (.int .u64 ((tickS cf).m i : Nat))) := fun i hi => hdd.cell (HWL6.out i hi) (by show ¬ TP 0 (L6 wb); rw [(HE6.out (wb, []) (List.mem_cons_self ..)).1]; unfold TP; omega)
    have HB9 := Go.Lib.hid (((HS6.out.did 0).toP.trans hdd).below_old HB5.out (Nat.le_refl _) HOLD4.out)
    have HG9 := Go.Lib.hid hg9
    have q0 : w9.cell? ⟨cb, 0, none⟩ = some (.int .i64 (x 0)) := HE9.out.cell 1 0 rfl rfl
    have HM0 : Hid ((ticks < 0 ∨ user < 0 ∨ shard < 0 ∨ (cf.workers : Int) ≤ shard) ∨ 1073741822 < ticks → S'.m = (tickS cf).m) := HC.out.2.2.2
    have HC1 := Go.Lib.hid HC.out.1
    have HC2 := Go.Lib.hid HC.out.2.1
    have HC3 := Go.Lib.hid HC.out.2.2.1
    have hwkx := Go.Lib.hid hwk
    have hszb := hsz.2
    clear hdd hg9 hd9 ht9 HF HE6 HE9 HWL6 HB5 HOLD4 HS6 HD7 HD8 HK8 HT HG7 HR HRD hm hok hz hsz hwk hcbx HC
    generalize (tickS cf).m = M at *
    generalize cf.size = sz at *
    by_cases h1 : ticks < 0
    · obtain rfl := HC1.out (.inl h1)
      have HMM := Go.Lib.hid (HM0.out (.inl (.inl h1)))
      have hd1 : decide (ticks < 0) = true := decide_eq_true h1
      clear HC1 HC2 HC3 HM0
      go_wp2_with fail
      refine (core_cells HG9.out).mono ?_
      rintro e wi ⟨rfl, rfl⟩
      go_wp2_with fail
      refine (arena_all HG9.out.ar).mono ?_
      rintro e w10 ⟨rfl, hall⟩
      have HB10 := Go.Lib.hid (HB9.out.trans (hall.bl.mono HB9.out.size))
      have HA1 : Hid (∀ i, i < sz → w10.cell? ⟨wb, i, none⟩ = some (.int .u64 (M i : Nat))) := fun i hi => below_cell hall.bl (HWC.out i hi)
      have HA2 : Hid (∀ i, i < sz → w10.cell? ⟨wi.heap.size, i, none⟩ = some (.int .u64 (M i : Nat))) := fun i hi => by
        have h := hall.c0 i (by rw [HN9.out]; exact hi)
        rw [if_pos (by rw [HN9.out]; exact hi), HMM.out] at h
        exact h
      rw [HN9.out]
      clear hall HWC HG9 HN9 HMM HB9
      go_wp2
      go_loop [15, 16, 87] (fun _ _ i => ∃ k : Nat, k ≤ sz ∧ i = .int .i64 k) (fun _ _ i => sz - (intOf i).toNat)
      case atStart => exact ⟨0, Nat.zero_le _, rfl⟩
      case round =>
        obtain ⟨k, hk, rfl⟩ := hrel
        by_cases hlt : k < sz
        · have q1 := HA1.out k hlt
          have q2 := HA2.out k hlt
          have b1 : (0 : Int) ≤ (k : Int) := by omega
          have b2 : (k : Int) < (sz : Int) := by omega
          go_wp2
          go_round
          case rel => exact ⟨k + 1, by omega, by go_num⟩
          case measure => simp [intOf]; omega
        · have b2 : ((k : Int) < (sz : Int)) = False := by simp; omega
          go_wp2
          go_ret
          exact ⟨rfl, HB10.out⟩
    · have hd1 : decide (ticks < 0) = false := decide_eq_false h1
      by_cases h2 : user < 0
      · obtain rfl := HC1.out (.inr (.inl h2))
        have HMM := Go.Lib.hid (HM0.out (.inl (.inr (.inl h2))))
        have hd2 : decide (user < 0) = true := decide_eq_true h2
        clear HC1 HC2 HC3 HM0
        go_wp2_with fail
        refine (core_cells HG9.out).mono ?_
        rintro e wi ⟨rfl, rfl⟩
        go_wp2_with fail
        refine (arena_all HG9.out.ar).mono ?_
        rintro e w10 ⟨rfl, hall⟩
        have HB10 := Go.Lib.hid (HB9.out.trans (hall.bl.mono HB9.out.size))
        have HA1 : Hid (∀ i, i < sz → w10.cell? ⟨wb, i, none⟩ = some (.int .u64 (M i : Nat))) := fun i hi => below_cell hall.bl (HWC.out i hi)
        have HA2 : Hid (∀ i, i < sz → w10.cell? ⟨wi.heap.size, i, none⟩ = some (.int .u64 (M i : Nat))) := fun i hi => by
          have h := hall.c0 i (by rw [HN9.out]; exact hi)
          rw [if_pos (by rw [HN9.out]; exact hi), HMM.out] at h
          exact h
        rw [HN9.out]
        clear hall HWC HG9 HN9 HMM HB9
        go_wp2
        go_loop [15, 16, 87] (fun _ _ i => ∃ k : Nat, k ≤ sz ∧ i = .int .i64 k) (fun _ _ i => sz - (intOf i).toNat)
        case atStart => exact ⟨0, Nat.zero_le _, rfl⟩
        case round =>
          obtain ⟨k, hk, rfl⟩ := hrel
          by_cases hlt : k < sz
          · have q1 := HA1.out k hlt
            have q2 := HA2.out k hlt
            have b1 : (0 : Int) ≤ (k : Int) := by omega
            have b2 : (k : Int) < (sz : Int) := by omega
            go_wp2
            go_round
            case rel => exact ⟨k + 1, by omega, by go_num⟩
            case measure => simp [intOf]; omega
          · have b2 : ((k : Int) < (sz : Int)) = False := by simp; omega
            go_wp2
            go_ret
            exact ⟨rfl, HB10.out⟩
      · have hd2 : decide (user < 0) = false := decide_eq_false h2
        by_cases h3 : 0 ≤ shard ∧ shard < x 0
        · have hno : ¬ (ticks < 0 ∨ user < 0 ∨ shard < 0 ∨ (cf.workers : Int) ≤ shard) := by have := hwkx.out; omega
          have hIn : decide (0 ≤ shard ∧ shard < x 0) = true := decide_eq_true h3
          by_cases h4 : 1073741822 < ticks
          · obtain rfl := HC2.out hno (by omega)
            have HMM := Go.Lib.hid (HM0.out (.inr h4))
            have hd4 : decide (1073741822 < ticks) = true := decide_eq_true h4
            clear HC1 HC2 HC3 HM0 hno h3
            go_wp2_with fail
            refine (ref_In _ _ _).mono ?_
            rintro e wi ⟨rfl, rfl⟩
            rw [hIn]
            go_wp2_with fail
            refine (core_cells HG9.out).mono ?_
            rintro e wi ⟨rfl, rfl⟩
            go_wp2_with fail
            refine (arena_all HG9.out.ar).mono ?_
            rintro e w10 ⟨rfl, hall⟩
            have HB10 := Go.Lib.hid (HB9.out.trans (hall.bl.mono HB9.out.size))
            have HA1 : Hid (∀ i, i < sz → w10.cell? ⟨wb, i, none⟩ = some (.int .u64 (M i : Nat))) := fun i hi => below_cell hall.bl (HWC.out i hi)
            have HA2 : Hid (∀ i, i < sz → w10.cell? ⟨wi.heap.size, i, none⟩ = some (.int .u64 (M i : Nat))) := fun i hi => by
              have h := hall.c0 i (by rw [HN9.out]; exact hi)
              rw [if_pos (by rw [HN9.out]; exact hi), HMM.out] at h
              exact h
            rw [HN9.out]
            clear hall HWC HG9 HN9 HMM HB9
            go_wp2
            go_loop [15, 16, 87] (fun _ _ i => ∃ k : Nat, k ≤ sz ∧ i = .int .i64 k) (fun _ _ i => sz - (intOf i).toNat)
            case atStart => exact ⟨0, Nat.zero_le _, rfl⟩
            case round =>
              obtain ⟨k, hk, rfl⟩ := hrel
              by_cases hlt : k < sz
              · have q1 := HA1.out k hlt
                have q2 := HA2.out k hlt
                have b1 : (0 : Int) ≤ (k : Int) := by omega
                have b2 : (k : Int) < (sz : Int) := by omega
                go_wp2
                go_round
                case rel => exact ⟨k + 1, by omega, by go_num⟩
                case measure => simp [intOf]; omega
              · have b2 : ((k : Int) < (sz : Int)) = False := by simp; omega
                go_wp2
                go_ret
                exact ⟨rfl, HB10.out⟩
          · obtain ⟨c1, c2⟩ := HC3.out hno (by omega)
            have hd4 : decide (1073741822 < ticks) = false := decide_eq_false h4
            have hr1 : (er == 1) = false := by simpa using c1
            have hr2 : (er == 2) = false := by simpa using c2
            clear HC1 HC2 HC3 HM0 hno h3
            go_wp2_with fail
            refine (ref_In _ _ _).mono ?_
            rintro e wi ⟨rfl, rfl⟩
            rw [hIn]
            go_wp2
            go_ret
            exact ⟨rfl, HB9.out⟩
        · obtain rfl := HC1.out (by have := hwkx.out; omega)
          have HMM := Go.Lib.hid (HM0.out (.inl (by have := hwkx.out; omega)))
          have hIn : decide (0 ≤ shard ∧ shard < x 0) = false := decide_eq_false h3
          clear HC1 HC2 HC3 HM0 h3
          go_wp2_with fail
          refine (ref_In _ _ _).mono ?_
          rintro e wi ⟨rfl, rfl⟩
          rw [hIn]
          go_wp2_with fail
          refine (core_cells HG9.out).mono ?_
          rintro e wi ⟨rfl, rfl⟩
          go_wp2_with fail
          refine (arena_all HG9.out.ar).mono ?_
          rintro e w10 ⟨rfl, hall⟩
          have HB10 := Go.Lib.hid (HB9.out.trans (hall.bl.mono HB9.out.size))
          have HA1 : Hid (∀ i, i < sz → w10.cell? ⟨wb, i, none⟩ = some (.int .u64 (M i : Nat))) := fun i hi => below_cell hall.bl (HWC.out i hi)
          have HA2 : Hid (∀ i, i < sz → w10.cell? ⟨wi.heap.size, i, none⟩ = some (.int .u64 (M i : Nat))) := fun i hi => by
            have h := hall.c0 i (by rw [HN9.out]; exact hi)
            rw [if_pos (by rw [HN9.out]; exact hi), HMM.out] at h
            exact h
          rw [HN9.out]
          clear hall HWC HG9 HN9 HMM HB9
          go_wp2
          go_loop [15, 16, 87] (fun _ _ i => ∃ k : Nat, k ≤ sz ∧ i = .int .i64 k) (fun _ _ i => sz - (intOf i).toNat)
          case atStart => exact ⟨0, Nat.zero_le _, rfl⟩
          case round =>
            obtain ⟨k, hk, rfl⟩ := hrel
            by_cases hlt : k < sz
            · have q1 := HA1.out k hlt
              have q2 := HA2.out k hlt
              have b1 : (0 : Int) ≤ (k : Int) := by omega
              have b2 : (k : Int) < (sz : Int) := by omega
              go_wp2
              go_round
              case rel => exact ⟨k + 1, by omega, by go_num⟩
              case measure => simp [intOf]; omega
            · have b2 : ((k : Int) < (sz : Int)) = False := by simp; omega
              go_wp2
              go_ret
              exact ⟨rfl, HB10.out⟩
  · rw [decide_eq_false hsm]
    go_wp2_with fail
    refine (law16_speaks _).mono ?_
    rintro e w3 ⟨rfl, hb1⟩
    have HB := Go.Lib.hid (hb.trans (hb1.mono hb.size))
    clear hb hb1 HBG e0 e1 e2 e3 e4 e5 e6 e7 e8 e9 e10 e11 e12
    go_wp2
    go_ret
    exact ⟨rfl, HB.out⟩
end Go.Proofs.YtpfhfohnpgmipaaGreat
/- What a row's proof opens: a configuration that came in; facts on the program. -/
namespace Go.Proofs.YtpfhfohnpgmipaaGreat
open Go.ChangeShapes Go.WideShapes Go.ChangeAt Go.RowKit
set_option maxRecDepth 100000

theorem prog_own : ownKnob Tryz.prog.godebug = none := by kernel_rfl
theorem prog_laidOut : laidOutB Tryz.prog = true := by kernel_rfl

/-- A configuration that came in is thirteen numbers. -/
theorem config_open {W : World} {r : Reach} {base : Nat} {v : Value} (h : Value.okWide Tryz.prog W r base 23 v) :
    ∃ x : Nat → Int, v = .agg #[.int .i64 (x 0), .int .i64 (x 1), .int .i64 (x 2), .int .i64 (x 3), .int .i64 (x 4), .int .i64 (x 5), .int .i64 (x 6), .int .i64 (x 7), .int .i64 (x 8), .int .i64 (x 9), .int .i64 (x 10), .int .i64 (x 11), .int .i64 (x 12)] := by
  have ht : Tryz.prog.cellTypes Tryz.prog.depth 23 = some (List.replicate 13 3) := by kernel_rfl
  have hn : Tryz.prog.cellsOf 23 = 13 := by kernel_rfl
  simp only [Value.okWide, Tryz.underlying23] at h
  obtain ⟨cs, rfl, hsz, ts, hts, _, hc⟩ := h
  rw [hn] at hsz
  obtain rfl : ts = List.replicate 13 3 := by rw [ht] at hts; exact (Option.some.inj hts).symm
  refine ⟨fun i => intOf (cs.getD i .nilFunc), ?_⟩
  have key : ∀ i, (hi : i < 13) → cs.getD i .nilFunc = .int .i64 (intOf (cs.getD i .nilFunc)) := by
    intro i hi
    have hg : cs[i]? = some (cs.getD i .nilFunc) := by
      rw [Array.getD_eq_getD_getElem?]
      simp [hsz, hi]
    obtain ⟨u, hu, hok⟩ := hc i _ hg
    have hu' : u = 3 := by
      rw [List.getElem?_replicate] at hu
      split at hu
      · exact (Option.some.inj hu).symm
      · cases hu
    subst hu'
    generalize cs.getD i .nilFunc = y at hok ⊢
    unfold Cell.okWide at hok
    simp only [Tryz.underlying3] at hok
    unfold Cell.ok at hok
    simp only [Tryz.underlying3] at hok
    cases y <;> simp_all [intOf]
  have e : cs = Array.ofFn (n := 13) fun i => cs.getD i.val .nilFunc := by
    apply Array.ext
    · simp [hsz]
    · intro i h1 h2
      simp [Array.getD, h1]
  have e2 : cs = Array.ofFn (n := 13) fun i => .int .i64 (intOf (cs.getD i.val .nilFunc)) := by
    conv => lhs; rw [e]
    congr 1
    funext i
    exact key i.val i.isLt
  conv => lhs; rw [e2]
  rfl
end Go.Proofs.YtpfhfohnpgmipaaGreat
namespace Go.Proofs.YtpfhfohnpgmipaaGreat
open Go.ChangeShapes Go.WideShapes Go.ChangeAt Go.RowKit
set_option maxRecDepth 100000

theorem startRefuses_lifted (os : Os) (started : os.Started) (H : Type) (enc : TypeId × Value → H) :
    ReturnsInHanded {} Tryz.checked os 4 .any (Rows.startRefusesSpec.pre6 enc Tryz.prog Tryz.f4 Rows.startRefusesRow.domain false) (Rows.startRefusesSpec.post enc Tryz.prog Tryz.f4 false true false false) := by
  refine returnsInHanded_of_change (C := Tryz.checked) prog_own started (by kernel_rfl) Tryz.func4
    (ChangeSpec.witness6 (enc := enc) (C := Tryz.checked) false ⟨#[], #[.agg #[.int .i64 0, .int .i64 0, .int .i64 0, .int .i64 0, .int .i64 0, .int .i64 0, .int .i64 0, .int .i64 0, .int .i64 0, .int .i64 0, .int .i64 0, .int .i64 0, .int .i64 0], .int .i64 0, .int .i64 0, .int .i64 0], []⟩ 8 (by kernel_rfl) (by kernel_rfl) (by kernel_rfl) (by kernel_rfl)) ?_
  intro W base args ds gs before hval0 hW hcnd _
  have hval : ∀ (j : Nat) t v, Tryz.f4.params[j]? = some t → args[j]? = some v → Value.okWide Tryz.prog W .any base t v := hval0
  have hW' := hW
  obtain ⟨p, q, hA0, hV, rfl, hfz, hnd⟩ := hW
  have hA : DataW.TrodAll enc Tryz.prog W 0 (fun _ => true) true Tryz.f4.params.toList args.toList ds p := hA0
  rw [Tryz.params4] at hA hval
  obtain ⟨v0, vs0, d0, ds0, p0, q0, hargs, rfl, rfl, h0, r0⟩ := trodAll_cons hA
  obtain ⟨v1, vs1, d1, ds1, p1, q1, rfl, rfl, rfl, h1, r1⟩ := trodAll_cons r0
  obtain ⟨v2, vs2, d2, ds2, p2, q2, rfl, rfl, rfl, h2, r2⟩ := trodAll_cons r1
  obtain ⟨v3, vs3, d3, ds3, p3, q3, rfl, rfl, rfl, h3, r3⟩ := trodAll_cons r2
  obtain ⟨rfl, rfl, rfl⟩ := trodAll_nil r3
  obtain rfl : args = #[v0, v1, v2, v3] := by cases args; simp_all
  obtain ⟨rfl, rfl⟩ := trodVars_none hV
  obtain ⟨x, rfl⟩ := config_open (hval 0 23 v0 rfl rfl)
  have lt0 : ∀ x ∈ p0, x.block < W.heap.size := by obtain ⟨m, hm⟩ := h0; exact DataW.trod_lt m _ _ _ hm
  obtain ⟨a1, rfl, rfl, rfl, w1⟩ := open_int Tryz.underlying3 (hval 1 3 v1 rfl rfl) h1
  obtain ⟨a2, rfl, rfl, rfl, w2⟩ := open_int Tryz.underlying3 (hval 2 3 v2 rfl rfl) h2
  obtain ⟨a3, rfl, rfl, rfl, w3⟩ := open_int Tryz.underlying3 (hval 3 3 v3 rfl rfl) h3
  clear hA0 hval0
  have hs1 := bounds_i64 w1
  have hs2 := bounds_i64 w2
  have hs3 := bounds_i64 w3
  refine (law16_StartRefuses x a1 a2 a3 ⟨by omega, by omega⟩ ⟨by omega, by omega⟩ ⟨by omega, by omega⟩ W).mono fun e W' ⟨he, bel⟩ => ?_
  subst he
  exact ⟨_, rfl, _, _, _, [], _, [], hW', trodAll_mk1 (shut_bool Tryz.underlying4 _), (trodAll_cons_mk (Below.trod prog_laidOut (by kernel_rfl) (of_decide_eq_true (by kernel_rfl)) h0 bel lt0) (trodAll_cons_mk (shut_int Tryz.underlying3 w1) (trodAll_cons_mk (shut_int Tryz.underlying3 w2) (trodAll_cons_mk (shut_int Tryz.underlying3 w3) trodAll_mk0)))), rfl, bel.frame _, fun h => by cases h⟩

theorem startRefuses_holds : Rows.StartRefusesSaid :=
  OpenClaim.holds_of_wide 4 Tryz.f4 rfl rfl rfl rfl rfl rfl rfl ⟨rfl, rfl, rfl, rfl, rfl⟩ rfl rfl rfl rfl rfl (by kernel_rfl) Tryz.func4 (by kernel_rfl)
    (of_decide_eq_true (by kernel_rfl)) (by unfold Func.isWrapper; first | (rw [if_pos (by decide +kernel)]; kernel_rfl) | (rw [if_neg (by decide +kernel)]; exact ⟨rfl, rfl⟩))
    (fun os started H enc _ => startRefuses_lifted os started H enc)
#print axioms startRefuses_holds
end Go.Proofs.YtpfhfohnpgmipaaGreat
