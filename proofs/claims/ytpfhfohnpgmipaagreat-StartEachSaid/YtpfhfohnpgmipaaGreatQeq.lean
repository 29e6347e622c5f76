/- 'knelllaw16.StartEach' returns true for every input, and leaves its arguments as they were. No condition. -/
import Derived.Test.YtpfhfohnpgmipaaGreatQep
import Derived.ProofKit
import Derived.OpenShut
import Derived.Test.YtpfhfohnpgmipaaGreatRows
import Derived.WalkKit
import Derived.ShutString
import Derived.ChangeOld
import Derived.Below
namespace Go.Proofs.YtpfhfohnpgmipaaGreat
open Go.RowKit
set_option maxRecDepth 100000
set_option linter.unusedVariables false

set_option maxHeartbeats 8000000 in
theorem law16_StartEach (x : Nat → Int) (n : Nat) (hn : n ≤ 255) (w : World) :
    Calls Tryz.prog 3 #[.agg #[.int .i64 (x 0), .int .i64 (x 1), .int .i64 (x 2), .int .i64 (x 3), .int .i64 (x 4), .int .i64 (x 5), .int .i64 (x 6), .int .i64 (x 7), .int .i64 (x 8), .int .i64 (x 9), .int .i64 (x 10), .int .i64 (x 11), .int .i64 (x 12)], .int .u8 n] w fun e w' => e = .returned (.bool true) ∧ Below w.heap.size w w' := by
  have hb : Below w.heap.size w (w.alloc (.cells #[.int .i64 (x 0), .int .i64 (x 1), .int .i64 (x 2), .int .i64 (x 3), .int .i64 (x 4), .int .i64 (x 5), .int .i64 (x 6), .int .i64 (x 7), .int .i64 (x 8), .int .i64 (x 9), .int .i64 (x 10), .int .i64 (x 11), .int .i64 (x 12)] 23)) := (Below.refl _ _).alloc (Nat.le_refl _) _
  have e0 : (w.alloc (.cells #[.int .i64 (x 0), .int .i64 (x 1), .int .i64 (x 2), .int .i64 (x 3), .int .i64 (x 4), .int .i64 (x 5), .int .i64 (x 6), .int .i64 (x 7), .int .i64 (x 8), .int .i64 (x 9), .int .i64 (x 10), .int .i64 (x 11), .int .i64 (x 12)] 23)).cell? ⟨w.heap.size, 0, none⟩ = some (.int .i64 (x 0)) := by go_simp
  have e1 : (w.alloc (.cells #[.int .i64 (x 0), .int .i64 (x 1), .int .i64 (x 2), .int .i64 (x 3), .int .i64 (x 4), .int .i64 (x 5), .int .i64 (x 6), .int .i64 (x 7), .int .i64 (x 8), .int .i64 (x 9), .int .i64 (x 10), .int .i64 (x 11), .int .i64 (x 12)] 23)).cell? ⟨w.heap.size, 1, none⟩ = some (.int .i64 (x 1)) := by go_simp
  have e2 : (w.alloc (.cells #[.int .i64 (x 0), .int .i64 (x 1), .int .i64 (x 2), .int .i64 (x 3), .int .i64 (x 4), .int .i64 (x 5), .int .i64 (x 6), .int .i64 (x 7), .int .i64 (x 8), .int .i64 (x 9), .int .i64 (x 10), .int .i64 (x 11), .int .i64 (x 12)] 23)).cell? ⟨w.heap.size, 2, none⟩ = some (.int .i64 (x 2)) := by go_simp
  have e3 : (w.alloc (.cells #[.int .i64 (x 0), .int .i64 (x 1), .int .i64 (x 2), .int .i64 (x 3), .int .i64 (x 4), .int .i64 (x 5), .int .i64 (x 6), .int .i64 (x 7), .int .i64 (x 8), .int .i64 (x 9), .int .i64 (x 10), .int .i64 (x 11), .int .i64 (x 12)] 23)).cell? ⟨w.heap.size, 3, none⟩ = some (.int .i64 (x 3)) := by go_simp
  have e4 : (w.alloc (.cells #[.int .i64 (x 0), .int .i64 (x 1), .int .i64 (x 2), .int .i64 (x 3), .int .i64 (x 4), .int .i64 (x 5), .int .i64 (x 6), .int .i64 (x 7), .int .i64 (x 8), .int .i64 (x 9), .int .i64 (x 10), .int .i64 (x 11), .int .i64 (x 12)] 23)).cell? ⟨w.heap.size, 4, none⟩ = some (.int .i64 (x 4)) := by go_simp
  have e5 : (w.alloc (.cells #[.int .i64 (x 0), .int .i64 (x 1), .int .i64 (x 2), .int .i64 (x 3), .int .i64 (x 4), .int .i64 (x 5), .int .i64 (x 6), .int .i64 (x 7), .int .i64 (x 8), .int .i64 (x 9), .int .i64 (x 10), .int .i64 (x 11), .int .i64 (x 12)] 23)).cell? ⟨w.heap.size, 5, none⟩ = some (.int .i64 (x 5)) := by go_simp
  have e6 : (w.alloc (.cells #[.int .i64 (x 0), .int .i64 (x 1), .int .i64 (x 2), .int .i64 (x 3), .int .i64 (x 4), .int .i64 (x 5), .int .i64 (x 6), .int .i64 (x 7), .int .i64 (x 8), .int .i64 (x 9), .int .i64 (x 10), .int .i64 (x 11), .int .i64 (x 12)] 23)).cell? ⟨w.heap.size, 6, none⟩ = some (.int .i64 (x 6)) := by go_simp
  have e7 : (w.alloc (.cells #[.int .i64 (x 0), .int .i64 (x 1), .int .i64 (x 2), .int .i64 (x 3), .int .i64 (x 4), .int .i64 (x 5), .int .i64 (x 6), .int .i64 (x 7), .int .i64 (x 8), .int .i64 (x 9), .int .i64 (x 10), .int .i64 (x 11), .int .i64 (x 12)] 23)).cell? ⟨w.heap.size, 7, none⟩ = some (.int .i64 (x 7)) := by go_simp
  have e8 : (w.alloc (.cells #[.int .i64 (x 0), .int .i64 (x 1), .int .i64 (x 2), .int .i64 (x 3), .int .i64 (x 4), .int .i64 (x 5), .int .i64 (x 6), .int .i64 (x 7), .int .i64 (x 8), .int .i64 (x 9), .int .i64 (x 10), .int .i64 (x 11), .int .i64 (x 12)] 23)).cell? ⟨w.heap.size, 8, none⟩ = some (.int .i64 (x 8)) := by go_simp
  have e9 : (w.alloc (.cells #[.int .i64 (x 0), .int .i64 (x 1), .int .i64 (x 2), .int .i64 (x 3), .int .i64 (x 4), .int .i64 (x 5), .int .i64 (x 6), .int .i64 (x 7), .int .i64 (x 8), .int .i64 (x 9), .int .i64 (x 10), .int .i64 (x 11), .int .i64 (x 12)] 23)).cell? ⟨w.heap.size, 9, none⟩ = some (.int .i64 (x 9)) := by go_simp
  have e10 : (w.alloc (.cells #[.int .i64 (x 0), .int .i64 (x 1), .int .i64 (x 2), .int .i64 (x 3), .int .i64 (x 4), .int .i64 (x 5), .int .i64 (x 6), .int .i64 (x 7), .int .i64 (x 8), .int .i64 (x 9), .int .i64 (x 10), .int .i64 (x 11), .int .i64 (x 12)] 23)).cell? ⟨w.heap.size, 10, none⟩ = some (.int .i64 (x 10)) := by go_simp
  have e11 : (w.alloc (.cells #[.int .i64 (x 0), .int .i64 (x 1), .int .i64 (x 2), .int .i64 (x 3), .int .i64 (x 4), .int .i64 (x 5), .int .i64 (x 6), .int .i64 (x 7), .int .i64 (x 8), .int .i64 (x 9), .int .i64 (x 10), .int .i64 (x 11), .int .i64 (x 12)] 23)).cell? ⟨w.heap.size, 11, none⟩ = some (.int .i64 (x 11)) := by go_simp
  have e12 : (w.alloc (.cells #[.int .i64 (x 0), .int .i64 (x 1), .int .i64 (x 2), .int .i64 (x 3), .int .i64 (x 4), .int .i64 (x 5), .int .i64 (x 6), .int .i64 (x 7), .int .i64 (x 8), .int .i64 (x 9), .int .i64 (x 10), .int .i64 (x 11), .int .i64 (x 12)] 23)).cell? ⟨w.heap.size, 12, none⟩ = some (.int .i64 (x 12)) := by go_simp
  have HS := Go.Lib.hid (law15_Small x)
  have HBG := Go.Lib.hid (law15_Begin x)
  go_enter Tryz.func3, Tryz.ntmps3
  go_wp2_with fail
  refine (law16_speaks _).mono ?_
  rintro e w1 ⟨rfl, hb1⟩
  replace e0 := below_cell hb1 e0
  replace e1 := below_cell hb1 e1
  replace e2 := below_cell hb1 e2
  replace e3 := below_cell hb1 e3
  replace e4 := below_cell hb1 e4
  replace e5 := below_cell hb1 e5
  replace e6 := below_cell hb1 e6
  replace e7 := below_cell hb1 e7
  replace e8 := below_cell hb1 e8
  replace e9 := below_cell hb1 e9
  replace e10 := below_cell hb1 e10
  replace e11 := below_cell hb1 e11
  replace e12 := below_cell hb1 e12
  replace hb := hb.trans (hb1.mono hb.size)
  clear hb1
  go_wp2_with fail
  refine (HS.out _).mono ?_
  rintro e w2 ⟨rfl, hb1⟩
  replace e0 := below_cell hb1 e0
  replace e1 := below_cell hb1 e1
  replace e2 := below_cell hb1 e2
  replace e3 := below_cell hb1 e3
  replace e4 := below_cell hb1 e4
  replace e5 := below_cell hb1 e5
  replace e6 := below_cell hb1 e6
  replace e7 := below_cell hb1 e7
  replace e8 := below_cell hb1 e8
  replace e9 := below_cell hb1 e9
  replace e10 := below_cell hb1 e10
  replace e11 := below_cell hb1 e11
  replace e12 := below_cell hb1 e12
  replace hb := hb.trans (hb1.mono hb.size)
  clear hb1 HS
  by_cases hsm : smallI x
  · rw [decide_eq_true hsm]
    have HBE := Go.Lib.hid (HBG.out hsm)
    have hok := cfOf_ok hsm.1
    have hlo := fun i (hi : i < 13) => (hsm.1 i hi).1
    have g0 : (1 : Int) ≤ x 0 := hlo 0 (by decide)
    have g3 : (1 : Int) ≤ x 3 := hlo 3 (by decide)
    have g4 : (1 : Int) ≤ x 4 := hlo 4 (by decide)
    have g6 : (0 : Int) ≤ x 6 := hlo 6 (by decide)
    have k3 : x 3 ≤ 12 := hsm.2.2.2.2.1
    have k4 : x 4 ≤ 30 := hsm.2.2.2.2.2.1
    have k0 : x 0 ≤ 6 := hsm.2.1
    by_cases hmx : x 6 = 4294967295
    · have hq1 : (x 6 == 4294967295) = true := by simpa using hmx
      have hq2 : decide (x 6 = 4294967295) = true := decide_eq_true hmx
      clear HBE HBG hok hsm hlo g0 g3 g4 g6 k3 k4 k0
      go_wp2_with fail
      refine (law16_speaks _).mono ?_
      rintro e w3 ⟨rfl, hb1⟩
      have HB := Go.Lib.hid (hb.trans (hb1.mono hb.size))
      clear hb hb1
      go_wp2
      go_ret
      exact ⟨rfl, HB.out⟩
    · have hq1 : (x 6 == 4294967295) = false := by simpa using hmx
      have hq2 : decide (x 6 = 4294967295) = false := decide_eq_false hmx
      have hwk : ((cfOf x).workers : Int) = x 0 := by show ((x 0).toNat : Int) = x 0; omega
      have hx3 : x 3 = ((cfOf x).nodes : Int) := by show x 3 = ((x 3).toNat : Int); omega
      have hx4 : x 4 = ((cfOf x).tickets : Int) := by show x 4 = ((x 4).toNat : Int); omega
      have hx6 : x 6 = ((cfOf x).first : Int) := by show x 6 = ((x 6).toNat : Int); omega
      clear HBG hsm hlo
      generalize hc : cfOf x = c at *
      clear hc
      have hnd : c.nodes ≤ 12 := by omega
      have hfi : c.first ≠ 4294967295 := by omega
      have hfb : c.first ≤ 4294967295 := hok.f2
      have hw0 : 0 < c.workers := hok.w1
      have hrm' : ∃ rm, min c.nodes c.tickets = rm := ⟨_, rfl⟩
      obtain ⟨rm, hrm⟩ := hrm'
      have HX := Go.Lib.hid (And.intro hwk (And.intro hx3 (And.intro hx4 hx6)))
      have HRM := Go.Lib.hid hrm
      clear hwk hx3 hx4 hx6 hrm
      go_wp2_with fail
      refine (HBE.out _).mono ?_
      rintro e w3 ⟨E, L, w0, rfl, hb3, hborn⟩
      obtain ⟨hcf, hgood, hbl, hold, hnr, hek⟩ := hborn
      obtain ⟨ek, ep, ea, ec, cf⟩ := E
      obtain rfl : cf = c := hcf
      have hb0 := hb.trans (hb3.mono hb.size)
      have HB3 := Go.Lib.hid (hb0.trans (hbl.mono hb0.size))
      have HOLD : Hid (∀ b, b < w.heap.size → L b = 0) := fun b hlt => hold b (Nat.lt_of_lt_of_le hlt hb0.size)
      have hcb : w.heap.size < w2.heap.size := cell_lt e0
      have hb3' := hb3.trans (hbl.mono hb3.size)
      have henv : Env L w3 [(w.heap.size, [.int .i64 (x 0), .int .i64 (x 1), .int .i64 (x 2), .int .i64 (x 3), .int .i64 (x 4), .int .i64 (x 5), .int .i64 (x 6), .int .i64 (x 7), .int .i64 (x 8), .int .i64 (x 9), .int .i64 (x 10), .int .i64 (x 11), .int .i64 (x 12)])] := by
        refine (Env.nil L w3).cons (hold _ (Nat.lt_of_lt_of_le hcb hb3.size)) (Nat.lt_of_lt_of_le hcb hb3'.size) ?_
        intro i v hi
        match i, hi with
        | 0, hi => obtain rfl := Option.some.inj hi; exact below_cell hb3' e0
        | 1, hi => obtain rfl := Option.some.inj hi; exact below_cell hb3' e1
        | 2, hi => obtain rfl := Option.some.inj hi; exact below_cell hb3' e2
        | 3, hi => obtain rfl := Option.some.inj hi; exact below_cell hb3' e3
        | 4, hi => obtain rfl := Option.some.inj hi; exact below_cell hb3' e4
        | 5, hi => obtain rfl := Option.some.inj hi; exact below_cell hb3' e5
        | 6, hi => obtain rfl := Option.some.inj hi; exact below_cell hb3' e6
        | 7, hi => obtain rfl := Option.some.inj hi; exact below_cell hb3' e7
        | 8, hi => obtain rfl := Option.some.inj hi; exact below_cell hb3' e8
        | 9, hi => obtain rfl := Option.some.inj hi; exact below_cell hb3' e9
        | 10, hi => obtain rfl := Option.some.inj hi; exact below_cell hb3' e10
        | 11, hi => obtain rfl := Option.some.inj hi; exact below_cell hb3' e11
        | 12, hi => obtain rfl := Option.some.inj hi; exact below_cell hb3' e12
        | _ + 13, hi => simp at hi
      have HE := Go.Lib.hid henv
      have HG := Go.Lib.hid hgood
      have r3 := below_cell hb3' e3
      have r4 := below_cell hb3' e4
      clear henv hgood hbl hold hnr hek hb0 hb3 hb3' hb HBE hq1 hq2 hmx e0 e1 e2 e3 e4 e5 e6 e7 e8 e9 e10 e11 e12
      generalize hcbx : w.heap.size = cb at HE hcb r3 r4
      replace hcbx := Go.Lib.hid hcbx
      clear hcb
      by_cases hmn : x 4 < x 3
      · have hmd : decide (x 4 < x 3) = true := decide_eq_true hmn
        have hrl : rm ≤ 12 := by have := HRM.out; omega
        have hwl : cf.workers ≤ 64 := hok.w2
        have hcm : ((min cf.nodes cf.tickets : Nat) : Int) = x 4 := by have := HX.out.2.1; have := HX.out.2.2.1; omega
        have hwr : IntKind.i64.wrap (x 4 + 1) = ((rm + 1 : Nat) : Int) := by rw [← hcm, HRM.out, IntWalk.i64_in _ (by have := HRM.out; have := hok.n2; omega)]; omega
        have HCM := Go.Lib.hid hcm
        clear hcm
        have hbs : Below w3.heap.size w3 (w3.alloc (.cells #[.bool false, .bool false, .bool false, .bool false, .bool false, .bool false, .bool false, .bool false, .bool false, .bool false, .bool false, .bool false] 28)) := (Below.refl _ _).alloc (Nat.le_refl _) _
        have r3' := below_cell hbs r3
        have r4' := below_cell hbs r4
        go_wp2
        clear hbs r3 r4 r3' r4'
        obtain ⟨hg4, hs4⟩ := HG.out.newR [.bool false, .bool false, .bool false, .bool false, .bool false, .bool false, .bool false, .bool false, .bool false, .bool false, .bool false, .bool false] 28
        have HEA : Hid (Each cf w3.heap.size ((S0 cf).newR w3.heap.size [.bool false, .bool false, .bool false, .bool false, .bool false, .bool false, .bool false, .bool false, .bool false, .bool false, .bool false, .bool false]) 0) := each_start hok w3.heap.size
        have HE4 := Go.Lib.hid ((Env.alloc_at (HE.out.shr hs4) hg4.new [.int .i64 (x 4)] 3 (b := w3.heap.size + 1) (by first | rfl | (simp; done) | (simp; omega))).head_eq (vs' := [.int .i64 (rm : Int)]) (by rw [← HCM.out, HRM.out]))
        have hb5 : Below (w3.alloc (.cells #[.bool false, .bool false, .bool false, .bool false, .bool false, .bool false, .bool false, .bool false, .bool false, .bool false, .bool false, .bool false] 28)).heap.size (w3.alloc (.cells #[.bool false, .bool false, .bool false, .bool false, .bool false, .bool false, .bool false, .bool false, .bool false, .bool false, .bool false, .bool false] 28)) ((w3.alloc (.cells #[.bool false, .bool false, .bool false, .bool false, .bool false, .bool false, .bool false, .bool false, .bool false, .bool false, .bool false, .bool false] 28)).alloc (.cells #[.int .i64 (x 4)] 3)) := (Below.refl _ _).alloc (Nat.le_refl _) _
        have HG5 := Go.Lib.hid (hg4.below hb5)
        have HB4 := hs4.below_old HB3.out (Nat.le_refl _) HOLD.out
        have HB5 := Go.Lib.hid (HB4.trans (hb5.mono HB4.size))
        have HOLD5 : Hid (∀ b, b < w.heap.size → (fun b => if b = w3.heap.size then 5 else L b) b = 0) := fun b hlt => (hs4.lab b (Nat.lt_of_lt_of_le hlt HB3.out.size)).trans (HOLD.out b hlt)
        have hsb5 : Hid (w3.heap.size < ((w3.alloc (.cells #[.bool false, .bool false, .bool false, .bool false, .bool false, .bool false, .bool false, .bool false, .bool false, .bool false, .bool false, .bool false] 28)).alloc (.cells #[.int .i64 (x 4)] 3)).heap.size) := Go.Lib.hid (by first | (simp; done) | (simp; omega))
        clear hb5 hg4 hs4 HB4 HG HE HB3 HOLD
        generalize hW : ((w3.alloc (.cells #[.bool false, .bool false, .bool false, .bool false, .bool false, .bool false, .bool false, .bool false, .bool false, .bool false, .bool false, .bool false] 28)).alloc (.cells #[.int .i64 (x 4)] 3)) = W5 at *
        clear hW
        generalize (fun b => if b = w3.heap.size then 5 else L b) = L5 at *
        have hrb : w3.heap.size + 1 = w3.heap.size + 1 := rfl
        generalize w3.heap.size + 1 = rb at *
        generalize w3.heap.size = sb at *
        clear hrb
        generalize (S0 cf).newR sb [.bool false, .bool false, .bool false, .bool false, .bool false, .bool false, .bool false, .bool false, .bool false, .bool false, .bool false, .bool false] = S5 at *
        go_loopw [8, 9, 10, 36] (fun _ _ _ i wr => ∃ (k : Nat) (S : St) (L : Lab), k ≤ rm + 1 ∧ i = .int .i64 k ∧ (k ≤ rm → Each cf sb S k) ∧ Good ⟨ek, ep, ea, ec, cf⟩ L S wr ∧ Below w.heap.size w wr ∧ (∀ b, b < w.heap.size → L b = 0) ∧ Env L wr [(rb, [.int .i64 (rm : Int)]), (cb, [.int .i64 (x 0), .int .i64 (x 1), .int .i64 (x 2), .int .i64 (x 3), .int .i64 (x 4), .int .i64 (x 5), .int .i64 (x 6), .int .i64 (x 7), .int .i64 (x 8), .int .i64 (x 9), .int .i64 (x 10), .int .i64 (x 11), .int .i64 (x 12)])] ∧ sb < wr.heap.size) (fun _ _ _ i _ => rm + 1 - (intOf i).toNat)
        case atStart => exact ⟨0, S5, L5, Nat.zero_le _, rfl, fun _ => HEA.out, HG5.out, HB5.out, HOLD5.out, HE4.out, hsb5.out⟩
        case round =>
          obtain ⟨k, S, L, hk, rfl, hea, hg, hbw, hold, henv, hsl⟩ := hrel
          by_cases hlt : k < rm + 1
          · have hD : ((k : Int) < ((rm + 1 : Nat) : Int)) := by omega
            have hb1 : Below wr.heap.size wr (wr.alloc (.cells #[.int .i64 (k : Int)] 3)) := (Below.refl _ _).alloc (Nat.le_refl _) _
            have henv1 := Env.alloc_at henv hg.new [.int .i64 (k : Int)] 3 (b := wr.heap.size) rfl
            have hg1 := hg.below hb1
            obtain ⟨hg2, hs2⟩ := hg1.newR [.bool false] 4
            have ho : (wr.alloc (.cells #[.int .i64 (k : Int)] 3)).heap.size = wr.heap.size + 1 := World.size_alloc _ _
            rw [ho] at hg2 hs2
            have hsbo : wr.heap.size + 1 ≠ sb := by omega
            obtain ⟨km, hkm⟩ : ∃ km, km = k % cf.workers := ⟨_, rfl⟩
            obtain ⟨kh, hkh⟩ : ∃ kh, kh = k / 2 := ⟨_, rfl⟩
            obtain ⟨kk, hkk⟩ : ∃ kk, kk = kh % cf.workers := ⟨_, rfl⟩
            have hml1 : km < cf.workers := hkm ▸ Nat.mod_lt _ hw0
            have hml2 : kk < cf.workers := hkk ▸ Nat.mod_lt _ hw0
            have HKM := Go.Lib.hid (And.intro hkm (And.intro hkh hkk))
            have hkhl : kh ≤ k := by omega
            clear hkm hkh hkk
            obtain ⟨m, S', hm, hr, hrd, hnx⟩ := each_step hok hfi hnd (ob := wr.heap.size + 1) (ticks := n) (s := kk) hsbo hn hml2 (km : Int) (hea (by omega)) (by have := HRM.out; omega)
            rw [HRM.out] at hr hnx
            have HR := Go.Lib.hid hr
            have HRD := Go.Lib.hid hrd
            have HNX := Go.Lib.hid hnx
            have HE2 := Go.Lib.hid (henv1.shr hs2)
            have HB1 := hbw.trans (hb1.mono hbw.size)
            have HB2 := Go.Lib.hid (hs2.below_old HB1 (Nat.le_refl _) hold)
            have HSH2 := Go.Lib.hid hs2
            have HOLDW := Go.Lib.hid hold
            have HBWS := Go.Lib.hid hbw.size
            have HSL2 := Go.Lib.hid (show sb < ((wr.alloc (.cells #[.int .i64 (k : Int)] 3)).alloc (.cells #[.bool false] 4)).heap.size by simp; omega)
            have HG2 := Go.Lib.hid hg2
            clear hea hg hbw hold henv hsl hb1 henv1 hg1 hg2 hs2 ho hsbo hr hrd hnx HB1
            have qb0 : ((wr.alloc (.cells #[.int .i64 (k : Int)] 3)).alloc (.cells #[.bool false] 4)).cell? ⟨wr.heap.size, 0, none⟩ = some (.int .i64 (k : Int)) := HE2.out.cell 0 0 rfl rfl
            have qc0 : ((wr.alloc (.cells #[.int .i64 (k : Int)] 3)).alloc (.cells #[.bool false] 4)).cell? ⟨cb, 0, none⟩ = some (.int .i64 (cf.workers : Int)) := by rw [HX.out.1]; exact HE2.out.cell (v := .int .i64 (x 0)) 2 0 rfl rfl
            go_wp2
            generalize ((wr.alloc (.cells #[.int .i64 (k : Int)] 3)).alloc (.cells #[.bool false] 4)) = W2 at *
            generalize (fun b => if b = wr.heap.size + 1 then 5 else L b) = L2 at *
            have HOLD2 := Go.Lib.hid (fun b (hlt : b < w.heap.size) => (HSH2.out.lab b (by rw [World.size_alloc]; have := HBWS.out; omega)).trans (HOLDW.out b hlt))
            clear HSH2 HOLDW HBWS
            generalize wr.heap.size + 1 = ob at *
            generalize wr.heap.size = bi at *
            have HST : Hid (∀ W, Below W2.heap.size W2 W → Calls Tryz.prog 9 #[.pointer (some ⟨ek, 0, none⟩), .int .i64 (km : Int), .int .i64 (n : Int), .int .i64 (kk : Int), .int .i64 (k : Int), .func (.func 10) #[] #[.pointer (some ⟨bi, 0, none⟩), .pointer (some ⟨rb, 0, none⟩), .pointer (some ⟨ob, 0, none⟩), .pointer (some ⟨cb, 0, none⟩), .pointer (some ⟨sb, 0, none⟩)]] W (Post cf (prApp cf (eachR cf.first cf.nodes sb rm)) ⟨ek, ep, ea, ec, cf⟩ 0 410 L2 W (S.newR ob [.bool false], some (startK cf (km : Int) (n : Int) (kk : Int) (k : Int) (.user (ob, k)))))) := fun W hW =>
              start_any (t := 0) (m := 410) (E := ⟨ek, ep, ea, ec, cf⟩) (prApp_mono cf _ (eachR_mono cf.first cf.nodes sb rm)) (HG2.out.below hW) (law16_each1 HX.out.2.1 HX.out.2.2.2 hfb (by have := HRM.out; have := hok.n2; omega) (HE2.out.below hW)) (by omega) (by omega)
            have qb0' : ∀ d os, (Sort.grow (redrawn W2 d) os).cell? ⟨bi, 0, none⟩ = some (.int .i64 (k : Int)) := fun d os => cell_regrown qb0 d os
            have qc0' : ∀ d os, (Sort.grow (redrawn W2 d) os).cell? ⟨cb, 0, none⟩ = some (.int .i64 (cf.workers : Int)) := fun d os => cell_regrown qc0 d os
            have hw0' : (0 : Int) < (cf.workers : Int) := by omega
            have hk0 : (0 : Int) ≤ (k : Int) := by omega
            have hz1 : ((cf.workers : Int) == 0) = false := by simp; omega
            have hz2 : decide ((cf.workers : Int) = 0) = false := by simp; omega
            have hz3 : (cf.workers = 0) = False := by simp; omega
            have hz4 : ((cf.workers : Int) = 0) = False := by simp; omega
            have hwn : IntKind.i64.wrap (n : Int) = n := IntWalk.i64_in _ (by omega)
            have hq1 : (k : Int).tdiv 2 = (kh : Int) := by rw [Int.tdiv_eq_ediv_of_nonneg (by omega)]; have := HKM.out.2.1; omega
            have hq2 : (k : Int) / 2 = (kh : Int) := by have := HKM.out.2.1; omega
            have hm1 : (k : Int).tmod (cf.workers : Int) = (km : Int) := by rw [Int.tmod_eq_emod_of_nonneg (by omega), HKM.out.1]; exact (Int.natCast_emod _ _).symm
            have hm2 : (k : Int) % (cf.workers : Int) = (km : Int) := by rw [HKM.out.1]; exact (Int.natCast_emod _ _).symm
            have hm3 : (kh : Int).tmod (cf.workers : Int) = (kk : Int) := by rw [Int.tmod_eq_emod_of_nonneg (by omega), HKM.out.2.2]; exact (Int.natCast_emod _ _).symm
            have hm4 : (kh : Int) % (cf.workers : Int) = (kk : Int) := by rw [HKM.out.2.2]; exact (Int.natCast_emod _ _).symm
            have hkh0 : (0 : Int) ≤ (kh : Int) := by omega
            have hwb1 : IntKind.i64.wrap (kh : Int) = (kh : Int) := IntWalk.i64_in _ (by omega)
            have hwb2 : IntKind.i64.wrap (km : Int) = (km : Int) := IntWalk.i64_in _ (by omega)
            have hwb3 : IntKind.i64.wrap (kk : Int) = (kk : Int) := IntWalk.i64_in _ (by omega)
            refine wp_region_below_tail 14 (by kernel_rfl) (by kernel_rfl) ?_
            simp only [List.take_succ_cons, List.take_zero, List.drop_succ_cons, List.drop_zero]
            repeat (go_big_quiet_step (first
              | fail))
            refine wpQuiet_nil ?_
            intro W3 hw'
            obtain ⟨p, rfl⟩ := hw'
            have hb := below_regrown W2 p.d p.os
            have HCD := Go.Lib.hid (HST.out _ hb)
            have HD3 := Go.Lib.hid (below_did hb 0 L2)
            clear qb0' qc0' qb0 qc0 hb hz1 hz2 hz3 hz4 hq1 hq2 hm1 hm2 hm3 hm4 hwb1 hwb2 hwb3 HST hwn
            generalize Sort.grow (redrawn W2 p.d) p.os = W3 at *
            go_wp2_with fail
            refine HCD.out.mono ?_
            rintro e w7 ⟨v, L7, rfl, hd7, hg7, hc7⟩
            have HD7 := Go.Lib.hid (HD3.out.trans hd7)
            have HG7 := Go.Lib.hid hg7
            have HC7 := Go.Lib.hid hc7
            obtain ⟨f, cap, rfl, _, _⟩ := hc7
            clear hd7 hg7 HCD HD3
            have HT := Go.Lib.hid (HG7.out.task 0 (.func (.func f) #[] cap) 53)
            go_wp2_with fail
            refine (step_New f #[] cap w7).mono ?_
            rintro e w8 ⟨rfl, rfl⟩
            generalize (fun b => if b = w7.heap.size then 5000 + 0 else L7 b) = L8 at *
            have hd8 : DidP (TP 0) L7 w7 L8 (w7.alloc (.cells #[.func (.func f) #[] cap, .int .i64 0] 53)) := ⟨rfl, rfl, rfl, by simp, fun b hb _ => Below.heap_alloc _ _ _ hb, HT.out.2.2.lab⟩
            have HK8 := Go.Lib.hid (CodeSim.ext cf (prApp cf (eachR cf.first cf.nodes sb rm)) _ 0 HC7.out HT.out.2.2)
            have HD8 := Go.Lib.hid hd8
            clear hd8 HC7
            generalize (w7.alloc (.cells #[.func (.func f) #[] cap, .int .i64 0] 53)) = W8 at *
            generalize w7.heap.size = tb at *
            go_wp2_with fail
            have HF : Calls Tryz.prog 12 #[.pointer (some ⟨tb, 0, none⟩), .int .i64 400] W8 _ := task_finish (most := 400) HT.out.1 HT.out.2.1 (by decide) hm (by decide) (by decide) (CodeSim.le cf (prApp cf (eachR cf.first cf.nodes sb rm)) _ 0 HK8.out (by omega)) HR.out
            refine HF.mono ?_
            rintro e w9 ⟨v', L9, rfl, hg9, hd9, ht9⟩
            have hdd := HD7.out.toP.trans (HD8.out.trans hd9)
            have hans := hg9.reads HRD.out
            have HE9 := Go.Lib.hid ((HE2.out.didP hdd).sub (env' := [(rb, [.int .i64 (rm : Int)]), (cb, [.int .i64 (x 0), .int .i64 (x 1), .int .i64 (x 2), .int .i64 (x 3), .int .i64 (x 4), .int .i64 (x 5), .int .i64 (x 6), .int .i64 (x 7), .int .i64 (x 8), .int .i64 (x 9), .int .i64 (x 10), .int .i64 (x 11), .int .i64 (x 12)])]) (by intro q hq; exact List.mem_cons_of_mem _ hq))
            have HB9 := Go.Lib.hid (hdd.below_old HB2.out (Nat.le_refl _) HOLD2.out)
            have HOLD9 := Go.Lib.hid (fun b (hlt : b < w.heap.size) => (hdd.lab b (Nat.lt_of_lt_of_le hlt HB2.out.size)).trans (HOLD2.out b hlt))
            have HSL9 := Go.Lib.hid (Nat.lt_of_lt_of_le HSL2.out hdd.size)
            have HG9 := Go.Lib.hid hg9
            clear hdd hg9 hd9 ht9 HF HE2 HB2 HOLD2 HSL2 HD7 HD8 HK8 HT HG7 HG2 HR HRD
            go_wp2
            refine ⟨⟨k + 1, S', L9, by omega, by go_num, fun h => HNX.out (by omega), HG9.out, HB9.out, HOLD9.out, HE9.out, HSL9.out⟩, by simp [intOf]; omega⟩
          · have hD : ((k : Int) < ((rm + 1 : Nat) : Int)) = False := by simp; omega
            have HBW := Go.Lib.hid hbw
            clear hea hg hbw hold henv hsl
            go_wp2
            go_ret
            exact ⟨rfl, HBW.out⟩
      · have hmd : decide (x 4 < x 3) = false := decide_eq_false hmn
        have hrl : rm ≤ 12 := by have := HRM.out; omega
        have hwl : cf.workers ≤ 64 := hok.w2
        have hcm : ((min cf.nodes cf.tickets : Nat) : Int) = x 3 := by have := HX.out.2.1; have := HX.out.2.2.1; omega
        have hwr : IntKind.i64.wrap (x 3 + 1) = ((rm + 1 : Nat) : Int) := by rw [← hcm, HRM.out, IntWalk.i64_in _ (by have := HRM.out; have := hok.n2; omega)]; omega
        have HCM := Go.Lib.hid hcm
        clear hcm
        have hbs : Below w3.heap.size w3 (w3.alloc (.cells #[.bool false, .bool false, .bool false, .bool false, .bool false, .bool false, .bool false, .bool false, .bool false, .bool false, .bool false, .bool false] 28)) := (Below.refl _ _).alloc (Nat.le_refl _) _
        have r3' := below_cell hbs r3
        have r4' := below_cell hbs r4
        go_wp2
        clear hbs r3 r4 r3' r4'
        obtain ⟨hg4, hs4⟩ := HG.out.newR [.bool false, .bool false, .bool false, .bool false, .bool false, .bool false, .bool false, .bool false, .bool false, .bool false, .bool false, .bool false] 28
        have HEA : Hid (Each cf w3.heap.size ((S0 cf).newR w3.heap.size [.bool false, .bool false, .bool false, .bool false, .bool false, .bool false, .bool false, .bool false, .bool false, .bool false, .bool false, .bool false]) 0) := each_start hok w3.heap.size
        have HE4 := Go.Lib.hid ((Env.alloc_at (HE.out.shr hs4) hg4.new [.int .i64 (x 3)] 3 (b := w3.heap.size + 1) (by first | rfl | (simp; done) | (simp; omega))).head_eq (vs' := [.int .i64 (rm : Int)]) (by rw [← HCM.out, HRM.out]))
        have hb5 : Below (w3.alloc (.cells #[.bool false, .bool false, .bool false, .bool false, .bool false, .bool false, .bool false, .bool false, .bool false, .bool false, .bool false, .bool false] 28)).heap.size (w3.alloc (.cells #[.bool false, .bool false, .bool false, .bool false, .bool false, .bool false, .bool false, .bool false, .bool false, .bool false, .bool false, .bool false] 28)) ((w3.alloc (.cells #[.bool false, .bool false, .bool false, .bool false, .bool false, .bool false, .bool false, .bool false, .bool false, .bool false, .bool false, .bool false] 28)).alloc (.cells #[.int .i64 (x 3)] 3)) := (Below.refl _ _).alloc (Nat.le_refl _) _
        have HG5 := Go.Lib.hid (hg4.below hb5)
        have HB4 := hs4.below_old HB3.out (Nat.le_refl _) HOLD.out
        have HB5 := Go.Lib.hid (HB4.trans (hb5.mono HB4.size))
        have HOLD5 : Hid (∀ b, b < w.heap.size → (fun b => if b = w3.heap.size then 5 else L b) b = 0) := fun b hlt => (hs4.lab b (Nat.lt_of_lt_of_le hlt HB3.out.size)).trans (HOLD.out b hlt)
        have hsb5 : Hid (w3.heap.size < ((w3.alloc (.cells #[.bool false, .bool false, .bool false, .bool false, .bool false, .bool false, .bool false, .bool false, .bool false, .bool false, .bool false, .bool false] 28)).alloc (.cells #[.int .i64 (x 3)] 3)).heap.size) := Go.Lib.hid (by first | (simp; done) | (simp; omega))
        clear hb5 hg4 hs4 HB4 HG HE HB3 HOLD
        generalize hW : ((w3.alloc (.cells #[.bool false, .bool false, .bool false, .bool false, .bool false, .bool false, .bool false, .bool false, .bool false, .bool false, .bool false, .bool false] 28)).alloc (.cells #[.int .i64 (x 3)] 3)) = W5 at *
        clear hW
        generalize (fun b => if b = w3.heap.size then 5 else L b) = L5 at *
        have hrb : w3.heap.size + 1 = w3.heap.size + 1 := rfl
        generalize w3.heap.size + 1 = rb at *
        generalize w3.heap.size = sb at *
        clear hrb
        generalize (S0 cf).newR sb [.bool false, .bool false, .bool false, .bool false, .bool false, .bool false, .bool false, .bool false, .bool false, .bool false, .bool false, .bool false] = S5 at *
        go_loopw [8, 9, 10, 36] (fun _ _ _ i wr => ∃ (k : Nat) (S : St) (L : Lab), k ≤ rm + 1 ∧ i = .int .i64 k ∧ (k ≤ rm → Each cf sb S k) ∧ Good ⟨ek, ep, ea, ec, cf⟩ L S wr ∧ Below w.heap.size w wr ∧ (∀ b, b < w.heap.size → L b = 0) ∧ Env L wr [(rb, [.int .i64 (rm : Int)]), (cb, [.int .i64 (x 0), .int .i64 (x 1), .int .i64 (x 2), .int .i64 (x 3), .int .i64 (x 4), .int .i64 (x 5), .int .i64 (x 6), .int .i64 (x 7), .int .i64 (x 8), .int .i64 (x 9), .int .i64 (x 10), .int .i64 (x 11), .int .i64 (x 12)])] ∧ sb < wr.heap.size) (fun _ _ _ i _ => rm + 1 - (intOf i).toNat)
        case atStart => exact ⟨0, S5, L5, Nat.zero_le _, rfl, fun _ => HEA.out, HG5.out, HB5.out, HOLD5.out, HE4.out, hsb5.out⟩
        case round =>
          obtain ⟨k, S, L, hk, rfl, hea, hg, hbw, hold, henv, hsl⟩ := hrel
          by_cases hlt : k < rm + 1
          · have hD : ((k : Int) < ((rm + 1 : Nat) : Int)) := by omega
            have hb1 : Below wr.heap.size wr (wr.alloc (.cells #[.int .i64 (k : Int)] 3)) := (Below.refl _ _).alloc (Nat.le_refl _) _
            have henv1 := Env.alloc_at henv hg.new [.int .i64 (k : Int)] 3 (b := wr.heap.size) rfl
            have hg1 := hg.below hb1
            obtain ⟨hg2, hs2⟩ := hg1.newR [.bool false] 4
            have ho : (wr.alloc (.cells #[.int .i64 (k : Int)] 3)).heap.size = wr.heap.size + 1 := World.size_alloc _ _
            rw [ho] at hg2 hs2
            have hsbo : wr.heap.size + 1 ≠ sb := by omega
            obtain ⟨km, hkm⟩ : ∃ km, km = k % cf.workers := ⟨_, rfl⟩
            obtain ⟨kh, hkh⟩ : ∃ kh, kh = k / 2 := ⟨_, rfl⟩
            obtain ⟨kk, hkk⟩ : ∃ kk, kk = kh % cf.workers := ⟨_, rfl⟩
            have hml1 : km < cf.workers := hkm ▸ Nat.mod_lt _ hw0
            have hml2 : kk < cf.workers := hkk ▸ Nat.mod_lt _ hw0
            have HKM := Go.Lib.hid (And.intro hkm (And.intro hkh hkk))
            have hkhl : kh ≤ k := by omega
            clear hkm hkh hkk
            obtain ⟨m, S', hm, hr, hrd, hnx⟩ := each_step hok hfi hnd (ob := wr.heap.size + 1) (ticks := n) (s := kk) hsbo hn hml2 (km : Int) (hea (by omega)) (by have := HRM.out; omega)
            rw [HRM.out] at hr hnx
            have HR := Go.Lib.hid hr
            have HRD := Go.Lib.hid hrd
            have HNX := Go.Lib.hid hnx
            have HE2 := Go.Lib.hid (henv1.shr hs2)
            have HB1 := hbw.trans (hb1.mono hbw.size)
            have HB2 := Go.Lib.hid (hs2.below_old HB1 (Nat.le_refl _) hold)
            have HSH2 := Go.Lib.hid hs2
            have HOLDW := Go.Lib.hid hold
            have HBWS := Go.Lib.hid hbw.size
            have HSL2 := Go.Lib.hid (show sb < ((wr.alloc (.cells #[.int .i64 (k : Int)] 3)).alloc (.cells #[.bool false] 4)).heap.size by simp; omega)
            have HG2 := Go.Lib.hid hg2
            clear hea hg hbw hold henv hsl hb1 henv1 hg1 hg2 hs2 ho hsbo hr hrd hnx HB1
            have qb0 : ((wr.alloc (.cells #[.int .i64 (k : Int)] 3)).alloc (.cells #[.bool false] 4)).cell? ⟨wr.heap.size, 0, none⟩ = some (.int .i64 (k : Int)) := HE2.out.cell 0 0 rfl rfl
            have qc0 : ((wr.alloc (.cells #[.int .i64 (k : Int)] 3)).alloc (.cells #[.bool false] 4)).cell? ⟨cb, 0, none⟩ = some (.int .i64 (cf.workers : Int)) := by rw [HX.out.1]; exact HE2.out.cell (v := .int .i64 (x 0)) 2 0 rfl rfl
            go_wp2
            generalize ((wr.alloc (.cells #[.int .i64 (k : Int)] 3)).alloc (.cells #[.bool false] 4)) = W2 at *
            generalize (fun b => if b = wr.heap.size + 1 then 5 else L b) = L2 at *
            have HOLD2 := Go.Lib.hid (fun b (hlt : b < w.heap.size) => (HSH2.out.lab b (by rw [World.size_alloc]; have := HBWS.out; omega)).trans (HOLDW.out b hlt))
            clear HSH2 HOLDW HBWS
            generalize wr.heap.size + 1 = ob at *
            generalize wr.heap.size = bi at *
            have HST : Hid (∀ W, Below W2.heap.size W2 W → Calls Tryz.prog 9 #[.pointer (some ⟨ek, 0, none⟩), .int .i64 (km : Int), .int .i64 (n : Int), .int .i64 (kk : Int), .int .i64 (k : Int), .func (.func 10) #[] #[.pointer (some ⟨bi, 0, none⟩), .pointer (some ⟨rb, 0, none⟩), .pointer (some ⟨ob, 0, none⟩), .pointer (some ⟨cb, 0, none⟩), .pointer (some ⟨sb, 0, none⟩)]] W (Post cf (prApp cf (eachR cf.first cf.nodes sb rm)) ⟨ek, ep, ea, ec, cf⟩ 0 410 L2 W (S.newR ob [.bool false], some (startK cf (km : Int) (n : Int) (kk : Int) (k : Int) (.user (ob, k)))))) := fun W hW =>
              start_any (t := 0) (m := 410) (E := ⟨ek, ep, ea, ec, cf⟩) (prApp_mono cf _ (eachR_mono cf.first cf.nodes sb rm)) (HG2.out.below hW) (law16_each1 HX.out.2.1 HX.out.2.2.2 hfb (by have := HRM.out; have := hok.n2; omega) (HE2.out.below hW)) (by omega) (by omega)
            have qb0' : ∀ d os, (Sort.grow (redrawn W2 d) os).cell? ⟨bi, 0, none⟩ = some (.int .i64 (k : Int)) := fun d os => cell_regrown qb0 d os
            have qc0' : ∀ d os, (Sort.grow (redrawn W2 d) os).cell? ⟨cb, 0, none⟩ = some (.int .i64 (cf.workers : Int)) := fun d os => cell_regrown qc0 d os
            have hw0' : (0 : Int) < (cf.workers : Int) := by omega
            have hk0 : (0 : Int) ≤ (k : Int) := by omega
            have hz1 : ((cf.workers : Int) == 0) = false := by simp; omega
            have hz2 : decide ((cf.workers : Int) = 0) = false := by simp; omega
            have hz3 : (cf.workers = 0) = False := by simp; omega
            have hz4 : ((cf.workers : Int) = 0) = False := by simp; omega
            have hwn : IntKind.i64.wrap (n : Int) = n := IntWalk.i64_in _ (by omega)
            have hq1 : (k : Int).tdiv 2 = (kh : Int) := by rw [Int.tdiv_eq_ediv_of_nonneg (by omega)]; have := HKM.out.2.1; omega
            have hq2 : (k : Int) / 2 = (kh : Int) := by have := HKM.out.2.1; omega
            have hm1 : (k : Int).tmod (cf.workers : Int) = (km : Int) := by rw [Int.tmod_eq_emod_of_nonneg (by omega), HKM.out.1]; exact (Int.natCast_emod _ _).symm
            have hm2 : (k : Int) % (cf.workers : Int) = (km : Int) := by rw [HKM.out.1]; exact (Int.natCast_emod _ _).symm
            have hm3 : (kh : Int).tmod (cf.workers : Int) = (kk : Int) := by rw [Int.tmod_eq_emod_of_nonneg (by omega), HKM.out.2.2]; exact (Int.natCast_emod _ _).symm
            have hm4 : (kh : Int) % (cf.workers : Int) = (kk : Int) := by rw [HKM.out.2.2]; exact (Int.natCast_emod _ _).symm
            have hkh0 : (0 : Int) ≤ (kh : Int) := by omega
            have hwb1 : IntKind.i64.wrap (kh : Int) = (kh : Int) := IntWalk.i64_in _ (by omega)
            have hwb2 : IntKind.i64.wrap (km : Int) = (km : Int) := IntWalk.i64_in _ (by omega)
            have hwb3 : IntKind.i64.wrap (kk : Int) = (kk : Int) := IntWalk.i64_in _ (by omega)
            refine wp_region_below_tail 14 (by kernel_rfl) (by kernel_rfl) ?_
            simp only [List.take_succ_cons, List.take_zero, List.drop_succ_cons, List.drop_zero]
            repeat (go_big_quiet_step (first
              | fail))
            refine wpQuiet_nil ?_
            intro W3 hw'
            obtain ⟨p, rfl⟩ := hw'
            have hb := below_regrown W2 p.d p.os
            have HCD := Go.Lib.hid (HST.out _ hb)
            have HD3 := Go.Lib.hid (below_did hb 0 L2)
            clear qb0' qc0' qb0 qc0 hb hz1 hz2 hz3 hz4 hq1 hq2 hm1 hm2 hm3 hm4 hwb1 hwb2 hwb3 HST hwn
            generalize Sort.grow (redrawn W2 p.d) p.os = W3 at *
            go_wp2_with fail
            refine HCD.out.mono ?_
            rintro e w7 ⟨v, L7, rfl, hd7, hg7, hc7⟩
            have HD7 := Go.Lib.hid (HD3.out.trans hd7)
            have HG7 := Go.Lib.hid hg7
            have HC7 := Go.Lib.hid hc7
            obtain ⟨f, cap, rfl, _, _⟩ := hc7
            clear hd7 hg7 HCD HD3
            have HT := Go.Lib.hid (HG7.out.task 0 (.func (.func f) #[] cap) 53)
            go_wp2_with fail
            refine (step_New f #[] cap w7).mono ?_
            rintro e w8 ⟨rfl, rfl⟩
            generalize (fun b => if b = w7.heap.size then 5000 + 0 else L7 b) = L8 at *
            have hd8 : DidP (TP 0) L7 w7 L8 (w7.alloc (.cells #[.func (.func f) #[] cap, .int .i64 0] 53)) := ⟨rfl, rfl, rfl, by simp, fun b hb _ => Below.heap_alloc _ _ _ hb, HT.out.2.2.lab⟩
            have HK8 := Go.Lib.hid (CodeSim.ext cf (prApp cf (eachR cf.first cf.nodes sb rm)) _ 0 HC7.out HT.out.2.2)
            have HD8 := Go.Lib.hid hd8
            clear hd8 HC7
            generalize (w7.alloc (.cells #[.func (.func f) #[] cap, .int .i64 0] 53)) = W8 at *
            generalize w7.heap.size = tb at *
            go_wp2_with fail
            have HF : Calls Tryz.prog 12 #[.pointer (some ⟨tb, 0, none⟩), .int .i64 400] W8 _ := task_finish (most := 400) HT.out.1 HT.out.2.1 (by decide) hm (by decide) (by decide) (CodeSim.le cf (prApp cf (eachR cf.first cf.nodes sb rm)) _ 0 HK8.out (by omega)) HR.out
            refine HF.mono ?_
            rintro e w9 ⟨v', L9, rfl, hg9, hd9, ht9⟩
            have hdd := HD7.out.toP.trans (HD8.out.trans hd9)
            have hans := hg9.reads HRD.out
            have HE9 := Go.Lib.hid ((HE2.out.didP hdd).sub (env' := [(rb, [.int .i64 (rm : Int)]), (cb, [.int .i64 (x 0), .int .i64 (x 1), .int .i64 (x 2), .int .i64 (x 3), .int .i64 (x 4), .int .i64 (x 5), .int .i64 (x 6), .int .i64 (x 7), .int .i64 (x 8), .int .i64 (x 9), .int .i64 (x 10), .int .i64 (x 11), .int .i64 (x 12)])]) (by intro q hq; exact List.mem_cons_of_mem _ hq))
            have HB9 := Go.Lib.hid (hdd.below_old HB2.out (Nat.le_refl _) HOLD2.out)
            have HOLD9 := Go.Lib.hid (fun b (hlt : b < w.heap.size) => (hdd.lab b (Nat.lt_of_lt_of_le hlt HB2.out.size)).trans (HOLD2.out b hlt))
            have HSL9 := Go.Lib.hid (Nat.lt_of_lt_of_le HSL2.out hdd.size)
            have HG9 := Go.Lib.hid hg9
            clear hdd hg9 hd9 ht9 HF HE2 HB2 HOLD2 HSL2 HD7 HD8 HK8 HT HG7 HG2 HR HRD
            go_wp2
            refine ⟨⟨k + 1, S', L9, by omega, by go_num, fun h => HNX.out (by omega), HG9.out, HB9.out, HOLD9.out, HE9.out, HSL9.out⟩, by simp [intOf]; omega⟩
          · have hD : ((k : Int) < ((rm + 1 : Nat) : Int)) = False := by simp; omega
            have HBW := Go.Lib.hid hbw
            clear hea hg hbw hold henv hsl
            go_wp2
            go_ret
            exact ⟨rfl, HBW.out⟩
  · rw [decide_eq_false hsm]
    clear HBG
    go_wp2_with fail
    refine (law16_speaks _).mono ?_
    rintro e w3 ⟨rfl, hb1⟩
    have HB := Go.Lib.hid (hb.trans (hb1.mono hb.size))
    clear hb hb1
    go_wp2
    go_ret
    exact ⟨rfl, HB.out⟩
end Go.Proofs.YtpfhfohnpgmipaaGreat
/- What a row's proof opens: a configuration that came in; facts on the program. -/
namespace Go.Proofs.YtpfhfohnpgmipaaGreat
open Go.ChangeShapes Go.WideShapes Go.ChangeAt Go.RowKit
set_option maxRecDepth 100000

theorem prog_own : ownKnob Tryz.prog.godebug = none := by kernel_rfl
theorem prog_laidOut : laidOutB Tryz.prog = true := by kernel_rfl

/-- A configuration that came in is thirteen numbers. -/
theorem config_open {W : World} {r : Reach} {base : Nat} {v : Value} (h : Value.okWide Tryz.prog W r base 23 v) :
    ∃ x : Nat → Int, v = .agg #[.int .i64 (x 0), .int .i64 (x 1), .int .i64 (x 2), .int .i64 (x 3), .int .i64 (x 4), .int .i64 (x 5), .int .i64 (x 6), .int .i64 (x 7), .int .i64 (x 8), .int .i64 (x 9), .int .i64 (x 10), .int .i64 (x 11), .int .i64 (x 12)] := by
  have ht : Tryz.prog.cellTypes Tryz.prog.depth 23 = some (List.replicate 13 3) := by kernel_rfl
  have hn : Tryz.prog.cellsOf 23 = 13 := by kernel_rfl
  simp only [Value.okWide, Tryz.underlying23] at h
  obtain ⟨cs, rfl, hsz, ts, hts, _, hc⟩ := h
  rw [hn] at hsz
  obtain rfl : ts = List.replicate 13 3 := by rw [ht] at hts; exact (Option.some.inj hts).symm
  refine ⟨fun i => intOf (cs.getD i .nilFunc), ?_⟩
  have key : ∀ i, (hi : i < 13) → cs.getD i .nilFunc = .int .i64 (intOf (cs.getD i .nilFunc)) := by
    intro i hi
    have hg : cs[i]? = some (cs.getD i .nilFunc) := by
      rw [Array.getD_eq_getD_getElem?]
      simp [hsz, hi]
    obtain ⟨u, hu, hok⟩ := hc i _ hg
    have hu' : u = 3 := by
      rw [List.getElem?_replicate] at hu
      split at hu
      · exact (Option.some.inj hu).symm
      · cases hu
    subst hu'
    generalize cs.getD i .nilFunc = y at hok ⊢
    unfold Cell.okWide at hok
    simp only [Tryz.underlying3] at hok
    unfold Cell.ok at hok
    simp only [Tryz.underlying3] at hok
    cases y <;> simp_all [intOf]
  have e : cs = Array.ofFn (n := 13) fun i => cs.getD i.val .nilFunc := by
    apply Array.ext
    · simp [hsz]
    · intro i h1 h2
      simp [Array.getD, h1]
  have e2 : cs = Array.ofFn (n := 13) fun i => .int .i64 (intOf (cs.getD i.val .nilFunc)) := by
    conv => lhs; rw [e]
    congr 1
    funext i
    exact key i.val i.isLt
  conv => lhs; rw [e2]
  rfl
end Go.Proofs.YtpfhfohnpgmipaaGreat
namespace Go.Proofs.YtpfhfohnpgmipaaGreat
open Go.ChangeShapes Go.WideShapes Go.ChangeAt Go.RowKit
set_option maxRecDepth 100000

theorem startEach_lifted (os : Os) (started : os.Started) (H : Type) (enc : TypeId × Value → H) :
    ReturnsInHanded {} Tryz.checked os 3 .any (Rows.startEachSpec.pre6 enc Tryz.prog Tryz.f3 Rows.startEachRow.domain false) (Rows.startEachSpec.post enc Tryz.prog Tryz.f3 false true false false) := by
  refine returnsInHanded_of_change (C := Tryz.checked) prog_own started (by kernel_rfl) Tryz.func3
    (ChangeSpec.witness6 (enc := enc) (C := Tryz.checked) false ⟨#[], #[.agg #[.int .i64 0, .int .i64 0, .int .i64 0, .int .i64 0, .int .i64 0, .int .i64 0, .int .i64 0, .int .i64 0, .int .i64 0, .int .i64 0, .int .i64 0, .int .i64 0, .int .i64 0], .int .u8 0], []⟩ 8 (by kernel_rfl) (by kernel_rfl) (by kernel_rfl) (by kernel_rfl)) ?_
  intro W base args ds gs before hval0 hW hcnd _
  have hval : ∀ (j : Nat) t v, Tryz.f3.params[j]? = some t → args[j]? = some v → Value.okWide Tryz.prog W .any base t v := hval0
  have hW' := hW
  obtain ⟨p, q, hA0, hV, rfl, hfz, hnd⟩ := hW
  have hA : DataW.TrodAll enc Tryz.prog W 0 (fun _ => true) true Tryz.f3.params.toList args.toList ds p := hA0
  rw [Tryz.params3] at hA hval
  obtain ⟨v0, vs0, d0, ds0, p0, q0, hargs, rfl, rfl, h0, r0⟩ := trodAll_cons hA
  obtain ⟨v1, vs1, d1, ds1, p1, q1, rfl, rfl, rfl, h1, r1⟩ := trodAll_cons r0
  obtain ⟨rfl, rfl, rfl⟩ := trodAll_nil r1
  obtain rfl : args = #[v0, v1] := by cases args; simp_all
  obtain ⟨rfl, rfl⟩ := trodVars_none hV
  obtain ⟨x, rfl⟩ := config_open (hval 0 23 v0 rfl rfl)
  have lt0 : ∀ x ∈ p0, x.block < W.heap.size := by obtain ⟨m, hm⟩ := h0; exact DataW.trod_lt m _ _ _ hm
  obtain ⟨a1, rfl, rfl, rfl, w1⟩ := open_int Tryz.underlying5 (hval 1 5 v1 rfl rfl) h1
  clear hA0 hval0
  have hs1 := bounds_u8 w1
  obtain ⟨n1, rfl⟩ : ∃ n : Nat, a1 = (n : Int) := ⟨a1.toNat, by omega⟩
  refine (law16_StartEach x n1 (by omega)  W).mono fun e W' ⟨he, bel⟩ => ?_
  subst he
  exact ⟨_, rfl, _, _, _, [], _, [], hW', trodAll_mk1 (shut_bool Tryz.underlying4 _), (trodAll_cons_mk (Below.trod prog_laidOut (by kernel_rfl) (of_decide_eq_true (by kernel_rfl)) h0 bel lt0) (trodAll_cons_mk (shut_int Tryz.underlying5 w1) trodAll_mk0)), rfl, bel.frame _, fun h => by cases h⟩

theorem startEach_holds : Rows.StartEachSaid :=
  OpenClaim.holds_of_wide 3 Tryz.f3 rfl rfl rfl rfl rfl rfl rfl ⟨rfl, rfl, rfl, rfl, rfl⟩ rfl rfl rfl rfl rfl (by kernel_rfl) Tryz.func3 (by kernel_rfl)
    (of_decide_eq_true (by kernel_rfl)) (by unfold Func.isWrapper; first | (rw [if_pos (by decide +kernel)]; kernel_rfl) | (rw [if_neg (by decide +kernel)]; exact ⟨rfl, rfl⟩))
    (fun os started H enc _ => startEach_lifted os started H enc)
#print axioms startEach_holds
end Go.Proofs.YtpfhfohnpgmipaaGreat
