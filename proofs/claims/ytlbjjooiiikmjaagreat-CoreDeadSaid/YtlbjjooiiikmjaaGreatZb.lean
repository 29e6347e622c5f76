/- The law CoreDead. -/
import Derived.Test.YtlbjjooiiikmjaaGreatZa
namespace Go.Proofs.YtlbjjooiiikmjaaGreat
open Go.RowKit
set_option maxRecDepth 100000
set_option linter.unusedVariables false

theorem enters_dead : EntersF 44 := enters_of Tryz.func44 (by kernel_rfl) rfl
set_option maxHeartbeats 8000000 in
theorem law15_CoreDead (x : Nat → Int) (t node gen : Int) (state : Nat) (hst : state < 18446744073709551616) (w : World) :
    Calls Tryz.prog 3 #[.agg #[.int .i64 (x 0), .int .i64 (x 1), .int .i64 (x 2), .int .i64 (x 3), .int .i64 (x 4), .int .i64 (x 5), .int .i64 (x 6), .int .i64 (x 7), .int .i64 (x 8), .int .i64 (x 9), .int .i64 (x 10), .int .i64 (x 11), .int .i64 (x 12)], .int .i64 t, .int .i64 node, .int .i64 gen, .int .u64 state] w fun e w' => e = .returned (.bool true) ∧ Below w.heap.size w w' := by
  have hb : Below w.heap.size w (w.alloc (.cells #[.int .i64 (x 0), .int .i64 (x 1), .int .i64 (x 2), .int .i64 (x 3), .int .i64 (x 4), .int .i64 (x 5), .int .i64 (x 6), .int .i64 (x 7), .int .i64 (x 8), .int .i64 (x 9), .int .i64 (x 10), .int .i64 (x 11), .int .i64 (x 12)] 23)) := (Below.refl _ _).alloc (Nat.le_refl _) _
  have e0 : (w.alloc (.cells #[.int .i64 (x 0), .int .i64 (x 1), .int .i64 (x 2), .int .i64 (x 3), .int .i64 (x 4), .int .i64 (x 5), .int .i64 (x 6), .int .i64 (x 7), .int .i64 (x 8), .int .i64 (x 9), .int .i64 (x 10), .int .i64 (x 11), .int .i64 (x 12)] 23)).cell? ⟨w.heap.size, 0, none⟩ = some (.int .i64 (x 0)) := by go_simp
  have e1 : (w.alloc (.cells #[.int .i64 (x 0), .int .i64 (x 1), .int .i64 (x 2), .int .i64 (x 3), .int .i64 (x 4), .int .i64 (x 5), .int .i64 (x 6), .int .i64 (x 7), .int .i64 (x 8), .int .i64 (x 9), .int .i64 (x 10), .int .i64 (x 11), .int .i64 (x 12)] 23)).cell? ⟨w.heap.size, 1, none⟩ = some (.int .i64 (x 1)) := by go_simp
  have e2 : (w.alloc (.cells #[.int .i64 (x 0), .int .i64 (x 1), .int .i64 (x 2), .int .i64 (x 3), .int .i64 (x 4), .int .i64 (x 5), .int .i64 (x 6), .int .i64 (x 7), .int .i64 (x 8), .int .i64 (x 9), .int .i64 (x 10), .int .i64 (x 11), .int .i64 (x 12)] 23)).cell? ⟨w.heap.size, 2, none⟩ = some (.int .i64 (x 2)) := by go_simp
  have e3 : (w.alloc (.cells #[.int .i64 (x 0), .int .i64 (x 1), .int .i64 (x 2), .int .i64 (x 3), .int .i64 (x 4), .int .i64 (x 5), .int .i64 (x 6), .int .i64 (x 7), .int .i64 (x 8), .int .i64 (x 9), .int .i64 (x 10), .int .i64 (x 11), .int .i64 (x 12)] 23)).cell? ⟨w.heap.size, 3, none⟩ = some (.int .i64 (x 3)) := by go_simp
  have e4 : (w.alloc (.cells #[.int .i64 (x 0), .int .i64 (x 1), .int .i64 (x 2), .int .i64 (x 3), .int .i64 (x 4), .int .i64 (x 5), .int .i64 (x 6), .int .i64 (x 7), .int .i64 (x 8), .int .i64 (x 9), .int .i64 (x 10), .int .i64 (x 11), .int .i64 (x 12)] 23)).cell? ⟨w.heap.size, 4, none⟩ = some (.int .i64 (x 4)) := by go_simp
  have e5 : (w.alloc (.cells #[.int .i64 (x 0), .int .i64 (x 1), .int .i64 (x 2), .int .i64 (x 3), .int .i64 (x 4), .int .i64 (x 5), .int .i64 (x 6), .int .i64 (x 7), .int .i64 (x 8), .int .i64 (x 9), .int .i64 (x 10), .int .i64 (x 11), .int .i64 (x 12)] 23)).cell? ⟨w.heap.size, 5, none⟩ = some (.int .i64 (x 5)) := by go_simp
  have e6 : (w.alloc (.cells #[.int .i64 (x 0), .int .i64 (x 1), .int .i64 (x 2), .int .i64 (x 3), .int .i64 (x 4), .int .i64 (x 5), .int .i64 (x 6), .int .i64 (x 7), .int .i64 (x 8), .int .i64 (x 9), .int .i64 (x 10), .int .i64 (x 11), .int .i64 (x 12)] 23)).cell? ⟨w.heap.size, 6, none⟩ = some (.int .i64 (x 6)) := by go_simp
  have e7 : (w.alloc (.cells #[.int .i64 (x 0), .int .i64 (x 1), .int .i64 (x 2), .int .i64 (x 3), .int .i64 (x 4), .int .i64 (x 5), .int .i64 (x 6), .int .i64 (x 7), .int .i64 (x 8), .int .i64 (x 9), .int .i64 (x 10), .int .i64 (x 11), .int .i64 (x 12)] 23)).cell? ⟨w.heap.size, 7, none⟩ = some (.int .i64 (x 7)) := by go_simp
  have e8 : (w.alloc (.cells #[.int .i64 (x 0), .int .i64 (x 1), .int .i64 (x 2), .int .i64 (x 3), .int .i64 (x 4), .int .i64 (x 5), .int .i64 (x 6), .int .i64 (x 7), .int .i64 (x 8), .int .i64 (x 9), .int .i64 (x 10), .int .i64 (x 11), .int .i64 (x 12)] 23)).cell? ⟨w.heap.size, 8, none⟩ = some (.int .i64 (x 8)) := by go_simp
  have e9 : (w.alloc (.cells #[.int .i64 (x 0), .int .i64 (x 1), .int .i64 (x 2), .int .i64 (x 3), .int .i64 (x 4), .int .i64 (x 5), .int .i64 (x 6), .int .i64 (x 7), .int .i64 (x 8), .int .i64 (x 9), .int .i64 (x 10), .int .i64 (x 11), .int .i64 (x 12)] 23)).cell? ⟨w.heap.size, 9, none⟩ = some (.int .i64 (x 9)) := by go_simp
  have e10 : (w.alloc (.cells #[.int .i64 (x 0), .int .i64 (x 1), .int .i64 (x 2), .int .i64 (x 3), .int .i64 (x 4), .int .i64 (x 5), .int .i64 (x 6), .int .i64 (x 7), .int .i64 (x 8), .int .i64 (x 9), .int .i64 (x 10), .int .i64 (x 11), .int .i64 (x 12)] 23)).cell? ⟨w.heap.size, 10, none⟩ = some (.int .i64 (x 10)) := by go_simp
  have e11 : (w.alloc (.cells #[.int .i64 (x 0), .int .i64 (x 1), .int .i64 (x 2), .int .i64 (x 3), .int .i64 (x 4), .int .i64 (x 5), .int .i64 (x 6), .int .i64 (x 7), .int .i64 (x 8), .int .i64 (x 9), .int .i64 (x 10), .int .i64 (x 11), .int .i64 (x 12)] 23)).cell? ⟨w.heap.size, 11, none⟩ = some (.int .i64 (x 11)) := by go_simp
  have e12 : (w.alloc (.cells #[.int .i64 (x 0), .int .i64 (x 1), .int .i64 (x 2), .int .i64 (x 3), .int .i64 (x 4), .int .i64 (x 5), .int .i64 (x 6), .int .i64 (x 7), .int .i64 (x 8), .int .i64 (x 9), .int .i64 (x 10), .int .i64 (x 11), .int .i64 (x 12)] 23)).cell? ⟨w.heap.size, 12, none⟩ = some (.int .i64 (x 12)) := by go_simp
  have HS := Go.Lib.hid (law15_Small x)
  have HB := Go.Lib.hid (law15_Begin x)
  go_enter Tryz.func3, Tryz.ntmps3
  go_wp2_with fail
  refine (law15_speaks _).mono ?_
  rintro e w1 ⟨rfl, hb1⟩
  have e0 := below_cell hb1 e0
  have e1 := below_cell hb1 e1
  have e2 := below_cell hb1 e2
  have e3 := below_cell hb1 e3
  have e4 := below_cell hb1 e4
  have e5 := below_cell hb1 e5
  have e6 := below_cell hb1 e6
  have e7 := below_cell hb1 e7
  have e8 := below_cell hb1 e8
  have e9 := below_cell hb1 e9
  have e10 := below_cell hb1 e10
  have e11 := below_cell hb1 e11
  have e12 := below_cell hb1 e12
  have hb := hb.trans (hb1.mono hb.size)
  clear hb1
  go_wp2_with fail
  refine (HS.out _).mono ?_
  rintro e w2 ⟨rfl, hb1⟩
  have e0 := below_cell hb1 e0
  have e1 := below_cell hb1 e1
  have e2 := below_cell hb1 e2
  have e3 := below_cell hb1 e3
  have e4 := below_cell hb1 e4
  have e5 := below_cell hb1 e5
  have e6 := below_cell hb1 e6
  have e7 := below_cell hb1 e7
  have e8 := below_cell hb1 e8
  have e9 := below_cell hb1 e9
  have e10 := below_cell hb1 e10
  have e11 := below_cell hb1 e11
  have e12 := below_cell hb1 e12
  have hb := hb.trans (hb1.mono hb.size)
  clear hb1 HS
  by_cases hsm : smallI x
  · rw [decide_eq_true hsm]
    by_cases ht : 0 ≤ t ∧ t < x 4
    · have HI1 := Go.Lib.hid (ref_In t (x 4))
      rw [decide_eq_true ht] at HI1
      by_cases hn : 0 ≤ node ∧ node < x 3
      · have HI2 := Go.Lib.hid (ref_In node (x 3))
        rw [decide_eq_true hn] at HI2
        by_cases hg : 0 ≤ gen
        · by_cases hg2 : gen ≤ 4294967295
          · obtain ⟨tn, rfl⟩ : ∃ n : Nat, t = (n : Int) := ⟨t.toNat, by omega⟩
            obtain ⟨nn, rfl⟩ : ∃ n : Nat, node = (n : Int) := ⟨node.toNat, by omega⟩
            obtain ⟨gn, rfl⟩ : ∃ n : Nat, gen = (n : Int) := ⟨gen.toNat, by omega⟩
            have hsm3 : x 3 ≤ 12 := hsm.2.2.2.2.1
            have hd1 : decide ((gn : Int) < 0) = false := by simp
            have hd2 : decide (4294967295 < (gn : Int)) = false := by simp; omega
            have HK : Hid (∀ w, Calls Tryz.prog 13 #[.int .i64 gn, .int .i64 0, .int .i64 nn] w fun e w' => e = .returned (.int .u64 ((gn * 65536 + 0) * 65536 + nn : Nat)) ∧ Below w.heap.size w w') := ref_Key gn 0 nn (by omega) (by omega) (by omega)
            have hkp := key_parts (g := gn) (n := nn) (by omega) (by omega)
            have hk64 : (gn * 65536 + 0) * 65536 + nn < 18446744073709551616 := by omega
            generalize (gn * 65536 + 0) * 65536 + nn = key at *
            have HBE := Go.Lib.hid (HB.out hsm)
            have hct : (cfOf x).tickets = (x 4).toNat := rfl
            have hcn : (cfOf x).nodes = (x 3).toNat := rfl
            clear HB
            go_wp2_with fail
            refine (HI1.out _).mono ?_
            rintro e w' ⟨rfl, rfl⟩
            go_wp2_with fail
            refine (HI2.out _).mono ?_
            rintro e w' ⟨rfl, rfl⟩
            clear HI1 HI2
            go_wp2_with fail
            refine (HBE.out _).mono ?_
            rintro e w3 ⟨E, L, w0, rfl, hb3, hborn⟩
            obtain ⟨hcf, hgood, hbl, hold, hnr, hek⟩ := hborn
            have hb0 := hb.trans (hb3.mono hb.size)
            have HB3 := Go.Lib.hid (hb0.trans (hbl.mono hb0.size))
            have HOLD : Hid (∀ b, b < w.heap.size → L b = 0) := fun b hlt => hold b (Nat.lt_of_lt_of_le hlt hb0.size)
            have htk : tn < (cfOf x).tickets := by rw [hct]; omega
            have hnk : nn < (cfOf x).nodes := by rw [hcn]; omega
            rw [← hcf] at htk hnk hgood
            have HG := Go.Lib.hid hgood
            clear hcf hgood hbl hold hnr hek hb0 hb3 hb hct hcn HBE e0 e1 e2 e3 e4 e5 e6 e7 e8 e9 e10 e11 e12
            go_wp2_with (first
              | (go_at_call 9; refine (core_cells HG.out).mono ?_; rintro e w' ⟨rfl, rfl⟩)
              | (go_at_call 11; refine (core_plan HG.out).mono ?_; rintro e w' ⟨rfl, rfl⟩)
              | fail)
            refine (plan_Key HG.out.ok E.p tn _ HG.out.pl).mono ?_
            intro e w4 hq
            obtain ⟨rfl, hb4⟩ := hq.below
            go_wp2_with fail
            refine (HK.out _).mono ?_
            rintro e w5 ⟨rfl, hb5⟩
            have HG5 := Go.Lib.hid ((HG.out.below hb4).below hb5)
            have HB5 := Go.Lib.hid ((HB3.out.trans (hb4.mono HB3.out.size)).trans (hb5.mono (HB3.out.trans (hb4.mono HB3.out.size)).size))
            clear hb4 hb5 hq HK HG HB3
            go_wp2_with fail
            refine (arena_store HG5.out (E.cf.key tn) key hk64 (put_cnt1 _ _ _)).mono ?_
            rintro e w6 ⟨rfl, hg6, hs6⟩
            have HG6 := Go.Lib.hid hg6
            have HB6 := Go.Lib.hid (hs6.below_old HB5.out (Nat.le_refl _) HOLD.out)
            clear hg6 hs6 HG5 HB5
            go_wp2_with (first
              | (go_at_call 9; refine (core_cells HG6.out).mono ?_; rintro e w' ⟨rfl, rfl⟩)
              | (go_at_call 11; refine (core_plan HG6.out).mono ?_; rintro e w' ⟨rfl, rfl⟩)
              | fail)
            refine (plan_State HG6.out.ok E.p nn _ HG6.out.pl).mono ?_
            intro e w7 hq
            obtain ⟨rfl, hb7⟩ := hq.below
            have HG7 := Go.Lib.hid (HG6.out.below hb7)
            have HB7 := Go.Lib.hid (HB6.out.trans (hb7.mono HB6.out.size))
            clear hb7 hq HG6 HB6
            go_wp2_with fail
            refine (arena_store HG7.out (E.cf.state nn) state hst (put_cnt2 _ _ _ _ _)).mono ?_
            rintro e w8 ⟨rfl, hg8, hs8⟩
            have HG8 := Go.Lib.hid hg8
            have HB8 := Go.Lib.hid (hs8.below_old HB7.out (Nat.le_refl _) HOLD.out)
            clear hg8 hs8 HG7 HB7
            go_wp2_with fail
            refine (ref_Widths0 _).mono ?_
            rintro e w9 ⟨rfl, rfl⟩
            go_wp2_with fail
            refine (ref_Numbers0 state hst _ _ _ (by go_simp) (by go_simp) (by go_simp)).mono ?_
            rintro e w10 ⟨rfl, rfl⟩
            have hb10 : Below w8.heap.size w8 ((w8.alloc (.cells #[.int .i64 32, .int .i64 30, .int .i64 2] 3)).alloc (.cells #[.int .i64 (state / 4294967296 : Nat), .int .i64 (state / 4 % 1073741824 : Nat), .int .i64 (state % 4 : Nat)] 3)) := ((Below.refl _ _).alloc (Nat.le_refl _) _).alloc (by simp) _
            have n0 : ((w8.alloc (.cells #[.int .i64 32, .int .i64 30, .int .i64 2] 3)).alloc (.cells #[.int .i64 (state / 4294967296 : Nat), .int .i64 (state / 4 % 1073741824 : Nat), .int .i64 (state % 4 : Nat)] 3)).cell? ⟨w8.heap.size + 1, 0, none⟩ = some (.int .i64 (state / 4294967296 : Nat)) := by go_simp
            have n2 : ((w8.alloc (.cells #[.int .i64 32, .int .i64 30, .int .i64 2] 3)).alloc (.cells #[.int .i64 (state / 4294967296 : Nat), .int .i64 (state / 4 % 1073741824 : Nat), .int .i64 (state % 4 : Nat)] 3)).cell? ⟨w8.heap.size + 1, 2, none⟩ = some (.int .i64 (state % 4 : Nat)) := by go_simp
            have hlb : L (w8.heap.size + 1) = 0 := HG8.out.new _ (by omega)
            simp only [World.size_alloc] 
            generalize (w8.alloc (.cells #[.int .i64 32, .int .i64 30, .int .i64 2] 3)).alloc (.cells #[.int .i64 (state / 4294967296 : Nat), .int .i64 (state / 4 % 1073741824 : Nat), .int .i64 (state % 4 : Nat)] 3) = w10 at *
            generalize w8.heap.size + 1 = nb at *
            have HG10 := Go.Lib.hid (HG8.out.below hb10)
            have HB10 := Go.Lib.hid (HB8.out.trans (hb10.mono HB8.out.size))
            clear hb10 HG8 HB8
            go_wp2_with fail
            obtain ⟨L12, hg12, hs12⟩ := HG10.out.newR2 (.bool false) (.bool false) 4 4
            have hbb : Below w10.heap.size w10 ((w10.alloc (.cells #[.bool false] 4)).alloc (.cells #[.bool false] 4)) := ((Below.refl _ _).alloc (Nat.le_refl _) _).alloc (by simp) _
            have hlb2 : L12 nb = 0 := (hs12.lab nb (cell_lt n0)).trans hlb
            have HOLD2 : Hid (∀ b, b < w.heap.size → L12 b = 0) := fun b hlt => (hs12.lab b (Nat.lt_of_lt_of_le hlt HB10.out.size)).trans (HOLD.out b hlt)
            have n0 := below_cell hbb n0
            have n2 := below_cell hbb n2
            have HB12 := Go.Lib.hid (HB10.out.trans (hbb.mono HB10.out.size))
            have hg12' : Good E L12 (deadS E.cf tn nn key state w10.heap.size (w10.heap.size + 1)) ((w10.alloc (.cells #[.bool false] 4)).alloc (.cells #[.bool false] 4)) := hg12
            have HG12 := Go.Lib.hid hg12'
            have hne : w10.heap.size ≠ w10.heap.size + 1 := by omega
            clear hg12 hg12' hs12 hbb hlb HB10 HG10 HOLD
            generalize (w10.alloc (.cells #[.bool false] 4)).alloc (.cells #[.bool false] 4) = w12 at *
            generalize w10.heap.size + 1 = b2 at *
            generalize w10.heap.size = b1 at *
            have hcmp : ∀ w, Sem.run Tryz.prog (binOp BinOp.eql 40 (Value.func (Fn.func 44) #[.pointer (some ⟨E.k, 0, none⟩)] #[]) Value.nilFunc) w = .ok (.bool false) w := fun w => by kernel_rfl
            have hfd : ∀ (args : Array Value) (w : World), (callFunc 44 args).run Tryz.prog w = .ok (.enter 44 args) w := enters_dead
            refine (core_box HG12.out 0).mono ?_
            rintro e w13 ⟨rfl, hb13⟩
            have n0 := below_cell hb13 n0
            have n2 := below_cell hb13 n2
            have HG13 := Go.Lib.hid (HG12.out.below hb13)
            have HB13 := Go.Lib.hid (HB12.out.trans (hb13.mono HB12.out.size))
            clear hb13 HG12 HB12
            unfold boxVal linkVal
            go_wp2_with fail
            have hal : ∀ o, Below w13.heap.size w13 (w13.alloc o) := fun o => (Below.refl _ _).alloc (Nat.le_refl _) _
            refine (dead_any (t := 0) (n := 1) deadR_mono (HG13.out.below (hal _)) (law15_dead1 b1 b2)).mono ?_
            rintro e w15 ⟨v, L15, rfl, hd15, hg15, hc15⟩
            have n0' := n0
            have n0 := hd15.cell0 (below_cell (hal _) n0) hlb2
            have n2 := hd15.cell0 (below_cell (hal _) n2) hlb2
            have hlb3 : L15 nb = 0 := (hd15.lab nb (Nat.lt_of_lt_of_le (cell_lt n0') (hal _).size)).trans hlb2
            have HB15 := Go.Lib.hid (hd15.below_old (HB13.out.trans ((hal _).mono HB13.out.size)) (Nat.le_refl _) HOLD2.out)
            have HOLD3 : Hid (∀ b, b < w.heap.size → L15 b = 0) := fun b hlt => (hd15.lab b (Nat.lt_of_lt_of_le hlt (Nat.le_trans HB13.out.size (hal _).size))).trans (HOLD2.out b hlt)
            have hget := deadS_get E.cf tn nn key state b1 b2 htk hnk
            have hkn := deadS_knows E.cf tn nn key state b1 b2
            have hcn := deadS_cnt E.cf tn nn key state b1 b2
            have hlg := deadS_log E.cf tn nn key state b1 b2
            have hrun := dead_runs (cf := E.cf) (t := tn) (x := key) (y := state) hget.1 (by rw [hkp.1]; exact hget.2) hkn.1 hkn.2 (by omega) (by rw [hlg]; decide)
            have HDO : Hid (Calls Tryz.prog 18 #[.pointer (some ⟨E.k, 0, none⟩), v, .int .i64 4] w15 fun e w' => ∃ L', e = .returned (.bool true) ∧ Good E L' _ w' ∧ DidP (TP 0) L15 w15 L' w') := law15_done (most := 4) hg15 (by decide) (by decide) (by decide) hc15 hrun
            clear hget hkn hcn hlg hrun hg15 hc15 hd15 HOLD2 HB13 HG13 hlb2 hal
            go_wp2_with fail
            refine HDO.out.mono ?_
            rintro e w16 ⟨L16, rfl, hg16, hd16⟩
            have n0 := hd16.cell n0 (by show ¬ TP 0 (L15 nb); rw [hlb3]; unfold TP; omega)
            have n2 := hd16.cell n2 (by show ¬ TP 0 (L15 nb); rw [hlb3]; unfold TP; omega)
            have HB16 := Go.Lib.hid (hd16.below_old HB15.out (Nat.le_refl _) HOLD3.out)
            have hsp := state_parts state hst
            rw [hsp.1, hsp.2, hkp.2] at hg16
            have d1 := (hg16.rg b1 (.bool (decide (¬ (state % 4 = 1) ∨ ¬ (((state / 4294967296 : Nat) : Int) = (gn : Nat))))) (by rw [deadS_reg _ _ _ _ _ _ _ hne]; simp)).1
            have d2 := (hg16.rg b2 (.bool true) (by rw [deadS_reg _ _ _ _ _ _ _ hne]; simp)).1
            clear hg16 hd16 HB15 HOLD3 HDO hlb3 hsp hkp hne hcmp hfd
            generalize hA : state % 4 = sa at *
            generalize hB : state / 4294967296 = sb at *
            clear hA hB hst hk64
            by_cases h1 : sa = 1
            · by_cases h2 : sb = gn
              · subst h1; subst h2
                rw [show decide (¬ (1 = 1) ∨ ¬ (((sb : Nat) : Int) = (sb : Nat))) = false from by simp] at d1
                go_wp2
                go_quiet (fail)
                go_wp2
                go_ret
                exact ⟨rfl, below_drewN' HB16.out _⟩
              · subst h1
                rw [show decide (¬ (1 = 1) ∨ ¬ (((sb : Nat) : Int) = (gn : Nat))) = true from by simp; omega] at d1
                have q1 : (((sb : Nat) : Int) = (gn : Int)) = False := by simp; omega
                have q2 : (((sb : Nat) : Int) != (gn : Int)) = true := by simp; omega
                go_wp2
                go_quiet (fail)
                go_wp2
                go_ret
                exact ⟨rfl, below_drewN' HB16.out _⟩
            · rw [show decide (¬ (sa = 1) ∨ ¬ (((sb : Nat) : Int) = (gn : Nat))) = true from by simp [h1]] at d1
              have q1 : (((sa : Nat) : Int) = 1) = False := by simp; omega
              have q2 : decide (((sa : Nat) : Int) = 1) = false := by simp; omega
              go_wp2
              go_quiet (fail)
              go_wp2
              go_ret
              exact ⟨rfl, below_drewN' HB16.out _⟩
          · have hd1 : decide (gen < 0) = false := by simp; omega
            have hd2 : decide (4294967295 < gen) = true := by simp; omega
            go_wp2_with fail
            refine (HI1.out _).mono ?_
            rintro e w' ⟨rfl, rfl⟩
            go_wp2_with fail
            refine (HI2.out _).mono ?_
            rintro e w' ⟨rfl, rfl⟩
            go_wp2_with fail
            refine (law15_speaks _).mono ?_
            rintro e w9 ⟨rfl, hb9⟩
            have hb := hb.trans (hb9.mono hb.size)
            clear hb9
            go_wp2
            go_ret
            exact ⟨rfl, hb⟩
        · have hd1 : decide (gen < 0) = true := by simp; omega
          go_wp2_with fail
          refine (HI1.out _).mono ?_
          rintro e w' ⟨rfl, rfl⟩
          go_wp2_with fail
          refine (HI2.out _).mono ?_
          rintro e w' ⟨rfl, rfl⟩
          go_wp2_with fail
          refine (law15_speaks _).mono ?_
          rintro e w9 ⟨rfl, hb9⟩
          have hb := hb.trans (hb9.mono hb.size)
          clear hb9
          go_wp2
          go_ret
          exact ⟨rfl, hb⟩
      · have HI2 := Go.Lib.hid (ref_In node (x 3))
        rw [decide_eq_false hn] at HI2
        go_wp2_with fail
        refine (HI1.out _).mono ?_
        rintro e w' ⟨rfl, rfl⟩
        go_wp2_with fail
        refine (HI2.out _).mono ?_
        rintro e w' ⟨rfl, rfl⟩
        go_wp2_with fail
        refine (law15_speaks _).mono ?_
        rintro e w9 ⟨rfl, hb9⟩
        have hb := hb.trans (hb9.mono hb.size)
        clear hb9
        go_wp2
        go_ret
        exact ⟨rfl, hb⟩
    · have HI1 := Go.Lib.hid (ref_In t (x 4))
      rw [decide_eq_false ht] at HI1
      go_wp2_with fail
      refine (HI1.out _).mono ?_
      rintro e w' ⟨rfl, rfl⟩
      go_wp2_with fail
      refine (law15_speaks _).mono ?_
      rintro e w9 ⟨rfl, hb9⟩
      have hb := hb.trans (hb9.mono hb.size)
      clear hb9
      go_wp2
      go_ret
      exact ⟨rfl, hb⟩
  · rw [decide_eq_false hsm]
    go_wp2_with fail
    refine (law15_speaks _).mono ?_
    rintro e w9 ⟨rfl, hb9⟩
    have hb := hb.trans (hb9.mono hb.size)
    clear hb9
    go_wp2
    go_ret
    exact ⟨rfl, hb⟩
end Go.Proofs.YtlbjjooiiikmjaaGreat

