/- Where one Start runs after the other, what each answers, and what is there then, is as the document says. -/
import Derived.Test.YtgemjjpmoejgdaaGreatJoiny
namespace Go.Proofs.YtgemjjpmoejgdaaGreat
open Go.RowKit
set_option maxRecDepth 100000
set_option linter.unusedVariables false

set_option maxHeartbeats 8000000 in
theorem law16_StartAlone (x : Nat → Int) (ds : List DeedR) (v1 : Value) (ts : List Int) (v2 : Value) (w : World) (hrow : DeedsRow w v1 ds) (hds : ∀ d ∈ ds, -9223372036854775808 ≤ d.time ∧ d.time < 9223372036854775808 ∧ -9223372036854775808 ≤ d.user ∧ d.user < 9223372036854775808) (htk : IntsRow w v2 ts) (hts : ∀ z ∈ ts, -9223372036854775808 ≤ z ∧ z < 9223372036854775808) :
    Calls Tryz.prog 3 #[.agg #[.int .i64 (x 0), .int .i64 (x 1), .int .i64 (x 2), .int .i64 (x 3), .int .i64 (x 4), .int .i64 (x 5), .int .i64 (x 6), .int .i64 (x 7), .int .i64 (x 8), .int .i64 (x 9), .int .i64 (x 10), .int .i64 (x 11), .int .i64 (x 12)], v1, v2] w fun e w' => e = .returned (.bool true) ∧ Below w.heap.size w w' := by
  have hb0 : Below w.heap.size w (w.alloc (.cells #[.int .i64 (x 0), .int .i64 (x 1), .int .i64 (x 2), .int .i64 (x 3), .int .i64 (x 4), .int .i64 (x 5), .int .i64 (x 6), .int .i64 (x 7), .int .i64 (x 8), .int .i64 (x 9), .int .i64 (x 10), .int .i64 (x 11), .int .i64 (x 12)] 23)) := (Below.refl _ _).alloc (Nat.le_refl _) _
  have HEC : Hid (Env (fun _ => 0) (w.alloc (.cells #[.int .i64 (x 0), .int .i64 (x 1), .int .i64 (x 2), .int .i64 (x 3), .int .i64 (x 4), .int .i64 (x 5), .int .i64 (x 6), .int .i64 (x 7), .int .i64 (x 8), .int .i64 (x 9), .int .i64 (x 10), .int .i64 (x 11), .int .i64 (x 12)] 23)) [(w.heap.size, [.int .i64 (x 0), .int .i64 (x 1), .int .i64 (x 2), .int .i64 (x 3), .int .i64 (x 4), .int .i64 (x 5), .int .i64 (x 6), .int .i64 (x 7), .int .i64 (x 8), .int .i64 (x 9), .int .i64 (x 10), .int .i64 (x 11), .int .i64 (x 12)])]) := Go.Lib.hid (Env.alloc_at (Env.nil _ w) (fun _ _ => rfl) [.int .i64 (x 0), .int .i64 (x 1), .int .i64 (x 2), .int .i64 (x 3), .int .i64 (x 4), .int .i64 (x 5), .int .i64 (x 6), .int .i64 (x 7), .int .i64 (x 8), .int .i64 (x 9), .int .i64 (x 10), .int .i64 (x 11), .int .i64 (x 12)] 23 (b := w.heap.size) rfl)
  have HB := Go.Lib.hid hb0
  have HS := Go.Lib.hid (law15_Small x)
  have HBG := Go.Lib.hid (law15_Begin x)
  have HDS := Go.Lib.hid hds; have HTS := Go.Lib.hid hts; have HRW := Go.Lib.hid hrow; have HTW := Go.Lib.hid htk
  obtain ⟨p1, c1, rfl, _⟩ := id hrow
  obtain ⟨p2, c2, rfl, _⟩ := id htk
  clear hb0 hrow hds htk hts
  go_enter Tryz.func3, Tryz.ntmps3
  go_wp2_with fail
  generalize (w.alloc (.cells #[.int .i64 (x 0), .int .i64 (x 1), .int .i64 (x 2), .int .i64 (x 3), .int .i64 (x 4), .int .i64 (x 5), .int .i64 (x 6), .int .i64 (x 7), .int .i64 (x 8), .int .i64 (x 9), .int .i64 (x 10), .int .i64 (x 11), .int .i64 (x 12)] 23)) = w0 at *
  generalize hcb : w.heap.size = cb at HEC
  refine (law16_speaks _).mono ?_
  rintro e w1 ⟨rfl, hb1⟩
  replace HB := Go.Lib.hid (HB.out.trans (hb1.mono HB.out.size))
  replace HEC := Go.Lib.hid (HEC.out.below hb1)
  clear hb1
  have e0 := HEC.out.cell 0 0 rfl rfl
  have e1 := HEC.out.cell 0 1 rfl rfl
  have e2 := HEC.out.cell 0 2 rfl rfl
  have e3 := HEC.out.cell 0 3 rfl rfl
  have e4 := HEC.out.cell 0 4 rfl rfl
  have e5 := HEC.out.cell 0 5 rfl rfl
  have e6 := HEC.out.cell 0 6 rfl rfl
  have e7 := HEC.out.cell 0 7 rfl rfl
  have e8 := HEC.out.cell 0 8 rfl rfl
  have e9 := HEC.out.cell 0 9 rfl rfl
  have e10 := HEC.out.cell 0 10 rfl rfl
  have e11 := HEC.out.cell 0 11 rfl rfl
  have e12 := HEC.out.cell 0 12 rfl rfl
  go_wp2_with fail
  clear e0 e1 e2 e3 e4 e5 e6 e7 e8 e9 e10 e11 e12
  refine (HS.out _).mono ?_
  rintro e w2 ⟨rfl, hb1⟩
  replace HB := Go.Lib.hid (HB.out.trans (hb1.mono HB.out.size))
  replace HEC := Go.Lib.hid (HEC.out.below hb1)
  clear hb1
  clear HS
  by_cases hsm : smallI x
  · rw [decide_eq_true hsm]
    by_cases hln : 30 < ds.length
    · have hl1 : (30 : Int) < (ds.length : Int) := by omega
      clear HBG HEC hln
      go_wp2_with fail
      refine (law16_speaks _).mono ?_
      rintro e w3 ⟨rfl, hb1⟩
      have HB9 := Go.Lib.hid (HB.out.trans (hb1.mono HB.out.size))
      clear hb1
      go_wp2
      go_ret
      exact ⟨rfl, HB9.out⟩
    · have hl1 : ((30 : Int) < (ds.length : Int)) = False := by simp; omega
      have HBE := Go.Lib.hid (HBG.out hsm)
      have hok := cfOf_ok hsm.1
      have hlo := fun i (hi : i < 13) => (hsm.1 i hi).1
      have g0 : (1 : Int) ≤ x 0 := hlo 0 (by decide)
      have g3 : (1 : Int) ≤ x 3 := hlo 3 (by decide)
      have g4 : (1 : Int) ≤ x 4 := hlo 4 (by decide)
      have g5 : (0 : Int) ≤ x 5 := hlo 5 (by decide)
      have g6 : (0 : Int) ≤ x 6 := hlo 6 (by decide)
      have k0 : x 0 ≤ 6 := hsm.2.1
      have k4 : x 4 ≤ 30 := hsm.2.2.2.2.2.1
      have k3 : x 3 ≤ 12 := hsm.2.2.2.2.1
      have hx0 : x 0 = ((cfOf x).workers : Int) := by show x 0 = ((x 0).toNat : Int); omega
      have hx3 : x 3 = ((cfOf x).nodes : Int) := by show x 3 = ((x 3).toNat : Int); omega
      have hx4 : x 4 = ((cfOf x).tickets : Int) := by show x 4 = ((x 4).toNat : Int); omega
      have hx5 : x 5 = ((cfOf x).slack : Int) := by show x 5 = ((x 5).toNat : Int); omega
      have hx6 : x 6 = ((cfOf x).first : Int) := by show x 6 = ((x 6).toNat : Int); omega
      clear HBG hsm hlo
      generalize hc : cfOf x = c at *
      clear hc
      have hw0 : 0 < c.workers := hok.w1
      have hw6 : c.workers ≤ 6 := by omega
      have hn12 : c.nodes ≤ 12 := by omega
      have ht30 : c.tickets ≤ 30 := by omega
      have HX := Go.Lib.hid (And.intro hx0 (And.intro hx3 (And.intro hx4 (And.intro hx5 hx6))))
      clear hx0 hx3 hx4 hx5 hx6 k0 k3 k4 g0 g3 g4 g5 g6
      have e0 := HEC.out.cell 0 0 rfl rfl
      have e1 := HEC.out.cell 0 1 rfl rfl
      have e2 := HEC.out.cell 0 2 rfl rfl
      have e3 := HEC.out.cell 0 3 rfl rfl
      have e4 := HEC.out.cell 0 4 rfl rfl
      have e5 := HEC.out.cell 0 5 rfl rfl
      have e6 := HEC.out.cell 0 6 rfl rfl
      have e7 := HEC.out.cell 0 7 rfl rfl
      have e8 := HEC.out.cell 0 8 rfl rfl
      have e9 := HEC.out.cell 0 9 rfl rfl
      have e10 := HEC.out.cell 0 10 rfl rfl
      have e11 := HEC.out.cell 0 11 rfl rfl
      have e12 := HEC.out.cell 0 12 rfl rfl
      go_wp2_with fail
      clear e0 e1 e2 e3 e4 e5 e6 e7 e8 e9 e10 e11 e12
      refine (HBE.out _).mono ?_
      rintro e w3 ⟨E, L, wb, rfl, hb3, hborn⟩
      obtain ⟨hcf, hgood, hbl, hold, hnr, hek⟩ := hborn
      obtain ⟨ek, ep, ea, ec, cf⟩ := E
      obtain rfl : cf = c := hcf
      have hb0 := HB.out.trans (hb3.mono HB.out.size)
      have HB3 := Go.Lib.hid (hb0.trans (hbl.mono hb0.size))
      have HOLD : Hid (∀ b, b < w.heap.size → L b = 0) := fun b hlt => hold b (Nat.lt_of_lt_of_le hlt hb0.size)
      have hb3' := hb3.trans (hbl.mono hb3.size)
      have HE : Hid (Env L w3 [(cb, [.int .i64 (x 0), .int .i64 (x 1), .int .i64 (x 2), .int .i64 (x 3), .int .i64 (x 4), .int .i64 (x 5), .int .i64 (x 6), .int .i64 (x 7), .int .i64 (x 8), .int .i64 (x 9), .int .i64 (x 10), .int .i64 (x 11), .int .i64 (x 12)])]) := Go.Lib.hid (fun p hp => ⟨hold _ (Nat.lt_of_lt_of_le (HEC.out p hp).2.1 hb3.size), (HEC.out.below hb3' p hp).2⟩)
      have HG := Go.Lib.hid hgood
      have hepl := cell_lt (HG.out.pl.c0)
      clear hgood hbl hold hnr hek hb0 hb3 hb3' HBE HB HEC
      have e0 := HE.out.cell 0 0 rfl rfl
      have e1 := HE.out.cell 0 1 rfl rfl
      have e2 := HE.out.cell 0 2 rfl rfl
      have e3 := HE.out.cell 0 3 rfl rfl
      have e4 := HE.out.cell 0 4 rfl rfl
      have e5 := HE.out.cell 0 5 rfl rfl
      have e6 := HE.out.cell 0 6 rfl rfl
      have e7 := HE.out.cell 0 7 rfl rfl
      have e8 := HE.out.cell 0 8 rfl rfl
      have e9 := HE.out.cell 0 9 rfl rfl
      have e10 := HE.out.cell 0 10 rfl rfl
      have e11 := HE.out.cell 0 11 rfl rfl
      have e12 := HE.out.cell 0 12 rfl rfl
      go_wp2_with fail
      clear e0 e1 e2 e3 e4 e5 e6 e7 e8 e9 e10 e11 e12
      have hnew3 := HG.out.new
      replace hepl : ep < w3.heap.size := hepl
      refine (ref16_New x cf cf.workers HX.out.1 rfl HX.out.2.1 HX.out.2.2.1 HX.out.2.2.2.2 (by omega) (by omega) w3).mono ?_
      rintro e w4 ⟨v8, vw, rfl, hsh, hb⟩
      obtain ⟨R0, hR0⟩ : ∃ R0, R0 = freshR cf := ⟨_, rfl⟩
      rw [← hR0] at hsh
      have hrel0 : RelR cf (S0 cf).m R0 (List.range' 0 cf.nodes) (List.range' 0 cf.tickets) (fun _ => []) := by rw [hR0]; exact rel_fresh hok
      have hcl0 : R0.clock = 0 := by rw [hR0]; rfl
      obtain ⟨⟨vf, vn, vb, us, rfl, hf, hno, hbx⟩, hvw⟩ := id hsh
      have hvf := KRows.one hf
      have hvn := KRows.one hno
      have hvb := hbx.outer.one
      have HSH := Go.Lib.hid hsh; have HRE := Go.Lib.hid hrel0; have HC0 := Go.Lib.hid hcl0; have HW3 := Go.Lib.hid hnew3
      replace HG := Go.Lib.hid (HG.out.below hb)
      replace HE := Go.Lib.hid (HE.out.below hb)
      replace HB3 := Go.Lib.hid (HB3.out.trans (hb.mono HB3.out.size))
      have hsz34 := hb.size
      have hmcb : cb < w4.heap.size := (HE.out (cb, _) (List.mem_singleton.2 rfl)).2.1
      have hwsz := HB3.out.size
      have bM : (w4.alloc (.cells #[.int .i64 0, .int .i64 0, .int .i64 0, .int .i64 0, .int .i64 0, .int .i64 0, .int .i64 0, .int .i64 0, .int .i64 0, .int .i64 0, .int .i64 0, .int .i64 0, .int .i64 0, .int .i64 0, .slice none 0 0, .int .i64 0, .slice none 0 0, .slice none 0 0, .slice none 0 0] 33)).heap[w4.heap.size]? = some (.cells #[.int .i64 0, .int .i64 0, .int .i64 0, .int .i64 0, .int .i64 0, .int .i64 0, .int .i64 0, .int .i64 0, .int .i64 0, .int .i64 0, .int .i64 0, .int .i64 0, .int .i64 0, .int .i64 0, .slice none 0 0, .int .i64 0, .slice none 0 0, .slice none 0 0, .slice none 0 0] 33) := heap_alloc_new _ _
      have hbA : Below w4.heap.size w4 (w4.alloc (.cells #[.int .i64 0, .int .i64 0, .int .i64 0, .int .i64 0, .int .i64 0, .int .i64 0, .int .i64 0, .int .i64 0, .int .i64 0, .int .i64 0, .int .i64 0, .int .i64 0, .int .i64 0, .int .i64 0, .slice none 0 0, .int .i64 0, .slice none 0 0, .slice none 0 0, .slice none 0 0] 33)) := (Below.refl _ _).alloc (Nat.le_refl _) _
      have HBA := Go.Lib.hid hbA; have HBM := Go.Lib.hid bM
      clear hsh hR0 hrel0 hcl0 hf hno hbx hnew3 hb hbA bM
      go_upto_region 7 with (first
        | (refine wpList_store_rowTo (o := ⟨none, .store 33 _ _, _, _, _, _⟩) rfl 33 (.tmp 8) (.tmp 35) rfl rfl w4.heap.size #[.int .i64 (x 0), .int .i64 (x 1), .int .i64 (x 2), .int .i64 (x 3), .int .i64 (x 4), .int .i64 (x 5), .int .i64 (x 6), .int .i64 (x 7), .int .i64 (x 8), .int .i64 (x 9), .int .i64 (x 10), .int .i64 (x 11), .int .i64 (x 12), .int .i64 (R0.clock : Int), vf, .int .i64 (R0.tickets : Int), vn, vb, vw] rfl rfl 33 #[.int .i64 0, .int .i64 0, .int .i64 0, .int .i64 0, .int .i64 0, .int .i64 0, .int .i64 0, .int .i64 0, .int .i64 0, .int .i64 0, .int .i64 0, .int .i64 0, .int .i64 0, .int .i64 0, .slice none 0 0, .int .i64 0, .slice none 0 0, .slice none 0 0, .slice none 0 0] HBM.out (by kernel_rfl) rfl (by simp [show ∀ k n, (Value.int k n).oneCell' = true from fun _ _ => rfl, show ∀ a n c, (Value.slice a n c).oneCell' = true from fun _ _ _ => rfl, hvf, hvn, hvb, hvw]) ?_; refine Hid.out ?_)
        | fail)
      have bM2 := setRow_heap (w4.alloc (.cells #[.int .i64 0, .int .i64 0, .int .i64 0, .int .i64 0, .int .i64 0, .int .i64 0, .int .i64 0, .int .i64 0, .int .i64 0, .int .i64 0, .int .i64 0, .int .i64 0, .int .i64 0, .int .i64 0, .slice none 0 0, .int .i64 0, .slice none 0 0, .slice none 0 0, .slice none 0 0] 33)) w4.heap.size #[.int .i64 0, .int .i64 0, .int .i64 0, .int .i64 0, .int .i64 0, .int .i64 0, .int .i64 0, .int .i64 0, .int .i64 0, .int .i64 0, .int .i64 0, .int .i64 0, .int .i64 0, .int .i64 0, .slice none 0 0, .int .i64 0, .slice none 0 0, .slice none 0 0, .slice none 0 0] #[.int .i64 (x 0), .int .i64 (x 1), .int .i64 (x 2), .int .i64 (x 3), .int .i64 (x 4), .int .i64 (x 5), .int .i64 (x 6), .int .i64 (x 7), .int .i64 (x 8), .int .i64 (x 9), .int .i64 (x 10), .int .i64 (x 11), .int .i64 (x 12), .int .i64 (R0.clock : Int), vf, .int .i64 (R0.tickets : Int), vn, vb, vw] 33 (0, 0) HBM.out
      have hLm : L w4.heap.size = 0 := HG.out.new _ (Nat.le_refl _)
      have hg2 := (HG.out.below HBA.out).setRow (b := w4.heap.size) hLm (by show w4.heap.size ≠ ep; omega) #[.int .i64 (x 0), .int .i64 (x 1), .int .i64 (x 2), .int .i64 (x 3), .int .i64 (x 4), .int .i64 (x 5), .int .i64 (x 6), .int .i64 (x 7), .int .i64 (x 8), .int .i64 (x 9), .int .i64 (x 10), .int .i64 (x 11), .int .i64 (x 12), .int .i64 (R0.clock : Int), vf, .int .i64 (R0.tickets : Int), vn, vb, vw]
      have hoff : ∀ b, b ≠ w4.heap.size → ((w4.alloc (.cells #[.int .i64 0, .int .i64 0, .int .i64 0, .int .i64 0, .int .i64 0, .int .i64 0, .int .i64 0, .int .i64 0, .int .i64 0, .int .i64 0, .int .i64 0, .int .i64 0, .int .i64 0, .int .i64 0, .slice none 0 0, .int .i64 0, .slice none 0 0, .slice none 0 0, .slice none 0 0] 33)).setRow w4.heap.size #[.int .i64 (x 0), .int .i64 (x 1), .int .i64 (x 2), .int .i64 (x 3), .int .i64 (x 4), .int .i64 (x 5), .int .i64 (x 6), .int .i64 (x 7), .int .i64 (x 8), .int .i64 (x 9), .int .i64 (x 10), .int .i64 (x 11), .int .i64 (x 12), .int .i64 (R0.clock : Int), vf, .int .i64 (R0.tickets : Int), vn, vb, vw]).heap[b]? = (w4.alloc (.cells #[.int .i64 0, .int .i64 0, .int .i64 0, .int .i64 0, .int .i64 0, .int .i64 0, .int .i64 0, .int .i64 0, .int .i64 0, .int .i64 0, .int .i64 0, .int .i64 0, .int .i64 0, .int .i64 0, .slice none 0 0, .int .i64 0, .slice none 0 0, .slice none 0 0, .slice none 0 0] 33)).heap[b]? := fun b hb => setRow_other _ _ _ _ hb
      have he2 := (HE.out.below HBA.out).off (b := w4.heap.size) (w' := (w4.alloc (.cells #[.int .i64 0, .int .i64 0, .int .i64 0, .int .i64 0, .int .i64 0, .int .i64 0, .int .i64 0, .int .i64 0, .int .i64 0, .int .i64 0, .int .i64 0, .int .i64 0, .int .i64 0, .int .i64 0, .slice none 0 0, .int .i64 0, .slice none 0 0, .slice none 0 0, .slice none 0 0] 33)).setRow w4.heap.size #[.int .i64 (x 0), .int .i64 (x 1), .int .i64 (x 2), .int .i64 (x 3), .int .i64 (x 4), .int .i64 (x 5), .int .i64 (x 6), .int .i64 (x 7), .int .i64 (x 8), .int .i64 (x 9), .int .i64 (x 10), .int .i64 (x 11), .int .i64 (x 12), .int .i64 (R0.clock : Int), vf, .int .i64 (R0.tickets : Int), vn, vb, vw]) (by intro p hp; rw [List.mem_singleton.1 hp]; show cb ≠ w4.heap.size; omega) (by rw [size_setRow]; exact Nat.le_refl _) hoff
      have hs2 : ShopAt (KL L w4.heap.size ep ((w4.alloc (.cells #[.int .i64 0, .int .i64 0, .int .i64 0, .int .i64 0, .int .i64 0, .int .i64 0, .int .i64 0, .int .i64 0, .int .i64 0, .int .i64 0, .int .i64 0, .int .i64 0, .int .i64 0, .int .i64 0, .slice none 0 0, .int .i64 0, .slice none 0 0, .slice none 0 0, .slice none 0 0] 33)).setRow w4.heap.size #[.int .i64 (x 0), .int .i64 (x 1), .int .i64 (x 2), .int .i64 (x 3), .int .i64 (x 4), .int .i64 (x 5), .int .i64 (x 6), .int .i64 (x 7), .int .i64 (x 8), .int .i64 (x 9), .int .i64 (x 10), .int .i64 (x 11), .int .i64 (x 12), .int .i64 (R0.clock : Int), vf, .int .i64 (R0.tickets : Int), vn, vb, vw]).heap.size) ((w4.alloc (.cells #[.int .i64 0, .int .i64 0, .int .i64 0, .int .i64 0, .int .i64 0, .int .i64 0, .int .i64 0, .int .i64 0, .int .i64 0, .int .i64 0, .int .i64 0, .int .i64 0, .int .i64 0, .int .i64 0, .slice none 0 0, .int .i64 0, .slice none 0 0, .slice none 0 0, .slice none 0 0] 33)).setRow w4.heap.size #[.int .i64 (x 0), .int .i64 (x 1), .int .i64 (x 2), .int .i64 (x 3), .int .i64 (x 4), .int .i64 (x 5), .int .i64 (x 6), .int .i64 (x 7), .int .i64 (x 8), .int .i64 (x 9), .int .i64 (x 10), .int .i64 (x 11), .int .i64 (x 12), .int .i64 (R0.clock : Int), vf, .int .i64 (R0.tickets : Int), vn, vb, vw]) x vw (.agg #[.int .i64 (x 0), .int .i64 (x 1), .int .i64 (x 2), .int .i64 (x 3), .int .i64 (x 4), .int .i64 (x 5), .int .i64 (x 6), .int .i64 (x 7), .int .i64 (x 8), .int .i64 (x 9), .int .i64 (x 10), .int .i64 (x 11), .int .i64 (x 12), .int .i64 (R0.clock : Int), vf, .int .i64 (R0.tickets : Int), vn, vb, vw]) R0 :=
        (HSH.out.lt.keep fun b hb => (hoff b (by have := hb.2; omega)).trans (HBA.out.block b hb.2)).mono fun b hb => ⟨HW3.out b hb.1, by have := hb.2; omega, by have := hb.1; omega, by rw [size_setRow, World.size_alloc]; have := hb.2; omega⟩
      have hb2 := below_setRow (HB3.out.trans (HBA.out.mono HB3.out.size)) hwsz #[.int .i64 (x 0), .int .i64 (x 1), .int .i64 (x 2), .int .i64 (x 3), .int .i64 (x 4), .int .i64 (x 5), .int .i64 (x 6), .int .i64 (x 7), .int .i64 (x 8), .int .i64 (x 9), .int .i64 (x 10), .int .i64 (x 11), .int .i64 (x 12), .int .i64 (R0.clock : Int), vf, .int .i64 (R0.tickets : Int), vn, vb, vw]
      have hepm : ep < w4.heap.size := by omega
      unfold Hid
      clear HBM HG HE HB3 HSH HBA HW3 hoff hvf hvn hvb
      generalize (w4.alloc (.cells #[.int .i64 0, .int .i64 0, .int .i64 0, .int .i64 0, .int .i64 0, .int .i64 0, .int .i64 0, .int .i64 0, .int .i64 0, .int .i64 0, .int .i64 0, .int .i64 0, .int .i64 0, .int .i64 0, .slice none 0 0, .int .i64 0, .slice none 0 0, .slice none 0 0, .slice none 0 0] 33)).setRow w4.heap.size #[.int .i64 (x 0), .int .i64 (x 1), .int .i64 (x 2), .int .i64 (x 3), .int .i64 (x 4), .int .i64 (x 5), .int .i64 (x 6), .int .i64 (x 7), .int .i64 (x 8), .int .i64 (x 9), .int .i64 (x 10), .int .i64 (x 11), .int .i64 (x 12), .int .i64 (R0.clock : Int), vf, .int .i64 (R0.tickets : Int), vn, vb, vw] = W5 at *
      generalize w4.heap.size = mb at *
      have HG := Go.Lib.hid hg2; have HE := Go.Lib.hid he2; have HSH := Go.Lib.hid hs2; have HB3 := Go.Lib.hid hb2; have HM := Go.Lib.hid bM2; have HLM := Go.Lib.hid hLm
      clear hg2 he2 hs2 hb2 bM2 hLm hsz34 hepl
      go_wp2
      generalize (Value.agg #[.int .i64 (x 0), .int .i64 (x 1), .int .i64 (x 2), .int .i64 (x 3), .int .i64 (x 4), .int .i64 (x 5), .int .i64 (x 6), .int .i64 (x 7), .int .i64 (x 8), .int .i64 (x 9), .int .i64 (x 10), .int .i64 (x 11), .int .i64 (x 12)]) = vz0
      generalize (Value.agg #[.int .i64 (x 0), .int .i64 (x 1), .int .i64 (x 2), .int .i64 (x 3), .int .i64 (x 4), .int .i64 (x 5), .int .i64 (x 6), .int .i64 (x 7), .int .i64 (x 8), .int .i64 (x 9), .int .i64 (x 10), .int .i64 (x 11), .int .i64 (x 12), .int .i64 (R0.clock : Int), vf, .int .i64 (R0.tickets : Int), vn, vb, vw]) = vz1
      go_loopw [38] (fun i wr => ∃ (j : Nat) (S : St) (L : Lab) (R : ShopR) (fn ft : List Nat) (bx : Nat → List Nat) (cs : Array Value), i = .int .i64 (j : Int) ∧ j ≤ ds.length ∧ Good ⟨ek, ep, ea, ec, cf⟩ L S wr ∧ S.n = cf.size ∧ RelR cf S.m R fn ft bx ∧ S.cnt ≤ 300 * j ∧ S.log.length ≤ 2 * j ∧ Below w.heap.size w wr ∧ (∀ b, b < w.heap.size → L b = 0) ∧ Env L wr [(cb, [.int .i64 (x 0), .int .i64 (x 1), .int .i64 (x 2), .int .i64 (x 3), .int .i64 (x 4), .int .i64 (x 5), .int .i64 (x 6), .int .i64 (x 7), .int .i64 (x 8), .int .i64 (x 9), .int .i64 (x 10), .int .i64 (x 11), .int .i64 (x 12)])] ∧ R.clock ≤ j ∧ wr.heap[mb]? = some (.cells cs 33) ∧ L mb = 0 ∧ ShopAt (KL L mb ep wr.heap.size) wr x vw (.agg cs) R) (fun i _ => ds.length - (intOf i).toNat)
      case atStart => exact ⟨0, S0 cf, L, R0, _, _, _, _, rfl, Nat.zero_le _, HG.out, rfl, HRE.out, Nat.le_refl _, Nat.le_refl _, HB3.out, HOLD.out, HE.out, by have := HC0.out; omega, HM.out, HLM.out, HSH.out⟩
      case round =>
        obtain ⟨j, S, L, R, fn, ft, bx, cs, rfl, hj, hg, hSn, hrel, hcnt, hlog, hbw, hold, henv, hclk, hm, hlm, hsh⟩ := hrel
        have HG1 := Go.Lib.hid hg; have HSN := Go.Lib.hid hSn; have HRE1 := Go.Lib.hid hrel; have HCN := Go.Lib.hid hcnt; have HLO := Go.Lib.hid hlog; have HBW := Go.Lib.hid hbw; have HOL := Go.Lib.hid hold; have HEN := Go.Lib.hid henv; have HCK := Go.Lib.hid hclk
        clear hg hSn hrel hcnt hlog hbw hold henv hclk HG HE HSH HB3 HM HLM HRE HC0 HOLD
        by_cases hlt : j < ds.length
        · obtain ⟨⟨vf, vn, vb, us, hcs, hf, hno, hbx⟩, _⟩ := id hsh
          injection hcs with hcs
          subst hcs
          have hvf := KRows.one hf
          have hvn := KRows.one hno
          have hvb := hbx.outer.one
          have HSH := Go.Lib.hid hsh; have HM := Go.Lib.hid hm; have HLM := Go.Lib.hid hlm
          clear hsh hm hlm hf hno hbx
          have hj1 : (0 : Int) ≤ (j : Int) := by omega
          have hj2 : (j : Int) < (ds.length : Int) := by omega
          have hgi : ds[j]? = some ds[j] := List.getElem?_eq_getElem hlt
          have HDB := Go.Lib.hid (HDS.out ds[j] (List.getElem_mem hlt))
          generalize ds[j] = dj at *
          obtain ⟨pq, cq, hpq, hcells⟩ := HRW.out
          injection hpq with hp1 hp2 hp3
          subst hp1
          obtain ⟨a5, rfl, hda⟩ := hcells j dj hgi
          obtain ⟨c0, c1', c2', c3, c4', c5'⟩ := hda
          clear hcells hp2 hp3 hgi
          replace c0 := below_cell HBW.out c0
          replace c1' := below_cell HBW.out c1'
          replace c2' := below_cell HBW.out c2'
          replace c3 := below_cell HBW.out c3
          replace c4' := below_cell HBW.out c4'
          replace c5' := below_cell HBW.out c5'
          obtain ⟨op, hn', hg', tm, arg, us'⟩ := dj
          dsimp only at c0 c1' c2' c3 c4' c5' HDB
          have hb1 : Below wr.heap.size wr (wr.alloc (.cells #[.int .i64 op, .int .i64 hn', .int .i64 hg', .int .i64 tm, .int .i64 arg, .int .i64 us'] 38)) := (Below.refl _ _).alloc (Nat.le_refl _) _
          have HE1 : Hid (Env L (wr.alloc (.cells #[.int .i64 op, .int .i64 hn', .int .i64 hg', .int .i64 tm, .int .i64 arg, .int .i64 us'] 38)) [(wr.heap.size, [.int .i64 op, .int .i64 hn', .int .i64 hg', .int .i64 tm, .int .i64 arg, .int .i64 us']), (cb, [.int .i64 (x 0), .int .i64 (x 1), .int .i64 (x 2), .int .i64 (x 3), .int .i64 (x 4), .int .i64 (x 5), .int .i64 (x 6), .int .i64 (x 7), .int .i64 (x 8), .int .i64 (x 9), .int .i64 (x 10), .int .i64 (x 11), .int .i64 (x 12)])]) := Go.Lib.hid (Env.alloc_at HEN.out (fun b hb => HG1.out.new b hb) [.int .i64 op, .int .i64 hn', .int .i64 hg', .int .i64 tm, .int .i64 arg, .int .i64 us'] 38 (b := wr.heap.size) rfl)
          have HBX := Go.Lib.hid hb1
          go_upto_region 10 with (fail)
          replace HG1 := Go.Lib.hid (HG1.out.below hb1)
          replace HBW := Go.Lib.hid (HBW.out.trans (hb1.mono HBW.out.size))
          have bM := Below.row hb1 HM.out
          have hmx : mb < wr.heap.size := heap_lt HM.out
          have hsh := KL.shr HSH.out hb1.size (fun b hb _ => hb1.block b hb) (fun _ _ => rfl) (L' := L)
          clear c0 c1' c2' c3 c4' c5' HEN HBX hb1 HM HSH
          generalize (wr.alloc (.cells #[.int .i64 op, .int .i64 hn', .int .i64 hg', .int .i64 tm, .int .i64 arg, .int .i64 us'] 38)) = W1 at *
          generalize wr.heap.size = xb at *
          have hxm : xb ≠ mb := by omega
          have hcm : cb ≠ mb := by omega
          have HSH := Go.Lib.hid hsh; have HM := Go.Lib.hid bM
          clear hsh bM
          obtain ⟨km, hkm⟩ : ∃ km, km = j % cf.workers := ⟨_, rfl⟩
          have hml : km < cf.workers := hkm ▸ Nat.mod_lt _ hw0
          have HKM := Go.Lib.hid hkm
          clear hkm
          have hz3 : (cf.workers = 0) = False := by simp; omega
          have hz4 : ((cf.workers : Int) = 0) = False := by simp; omega
          have hz1 : ((cf.workers : Int) == 0) = false := by simp; omega
          have hz2 : decide ((cf.workers : Int) = 0) = false := by simp; omega
          have hm1' : (j : Int).tmod (cf.workers : Int) = (km : Int) := by rw [Int.tmod_eq_emod_of_nonneg (by omega), HKM.out]; exact (Int.natCast_emod _ _).symm
          have hm2' : (j : Int) % (cf.workers : Int) = (km : Int) := by rw [HKM.out]; exact (Int.natCast_emod _ _).symm
          have hwb2 : IntKind.i64.wrap (km : Int) = (km : Int) := IntWalk.i64_in _ (by omega)
          have qc0 : W1.cell? ⟨cb, 0, none⟩ = some (.int .i64 (cf.workers : Int)) := by rw [← HX.out.1]; exact HE1.out.cell 1 0 rfl rfl
          go_upto_region 11 with (fail)
          clear hz1 hz2 hz3 hz4 hm1' hm2' hwb2 qc0
          by_cases ht : j < ts.length
          · have ht1 : (j : Int) < (ts.length : Int) := by omega
            obtain ⟨pt, ct, hpt, hti⟩ := HTW.out
            injection hpt with hp1 hp2 hp3
            subst hp1
            obtain ⟨a2, rfl, hcz⟩ := hti j ts[j] (List.getElem?_eq_getElem ht)
            clear hti hp2 hp3
            have hcz := below_cell HBW.out hcz
            generalize ts[j] = z at *
            by_cases hz : 0 < z
            · have hS0 : S.m 0 = R.clock := HRE1.out.clock
              have hgs := HG1.out
              go_wp2_with fail
              clear hcz
              refine (core_tick hgs (by rw [HSN.out]; have := hok.size_le; omega) (by have := HCK.out; omega) (by have := HCN.out; omega) (by have := HLO.out; omega)).mono ?_
              rintro e W2 ⟨L2, rfl, hg2, hs2⟩
              have HRT : Hid (RelR cf S.tick.m { R with clock := R.clock + 1 } fn ft bx) := Go.Lib.hid (rel_tick hok HRE1.out (by show (if (0 : Nat) = 0 then S.m 0 + 1 else S.m 0) = _; rw [if_pos rfl]) (fun i hi => by show (if i = 0 then _ else S.m i) = _; rw [if_neg hi]) (by have := HCK.out; omega))
              have HE2 := Go.Lib.hid (HE1.out.shr hs2)
              have HB2 := Go.Lib.hid (hs2.below_old HBW.out (Nat.le_refl _) HOL.out)
              have HOL2 : Hid (∀ b, b < w.heap.size → L2 b = 0) := Go.Lib.hid (fun b hb => (hs2.lab b (Nat.lt_of_lt_of_le hb HBW.out.size)).trans (HOL.out b hb))
              have hm2 := (hs2.block mb (heap_lt HM.out) (.inl HLM.out)).trans HM.out
              have HLM2 := Go.Lib.hid ((hs2.lab mb (heap_lt HM.out)).trans HLM.out)
              have hsh2 := KL.shr HSH.out hs2.size (fun b hb h0 => hs2.block b hb (.inl h0)) hs2.lab
              have c13 : W2.cell? ⟨mb, 13, none⟩ = some (.int .i64 (R.clock : Int)) := cell_of_row _ _ _ _ _ _ hm2
              have f13 : W2.frozen? ⟨mb, 13, none⟩ = false := frozen_of_row _ _ _ _ _ hm2
              have hck30 : R.clock ≤ 30 := by have := HCK.out; omega
              have HG2 := Go.Lib.hid hg2; have HM2 := Go.Lib.hid hm2; have HSH2 := Go.Lib.hid hsh2
              clear hgs hs2 hg2 hm2 hsh2 HG1 HE1 HBW HOL HM HLM HSH
              go_upto_region 14 with (fail)
              have hoff : ∀ b, b ≠ mb → (W2.setCell ⟨mb, 13, none⟩ (.int .i64 ((R.clock : Int) + 1))).heap[b]? = W2.heap[b]? := fun b hb => Go.Deep.blk_setCell_other _ _ _ _ hb
              have hsz : (W2.setCell ⟨mb, 13, none⟩ (.int .i64 ((R.clock : Int) + 1))).heap.size = W2.heap.size := World.size_setCell _ _ _
              replace HG2 := Go.Lib.hid (HG2.out.setLocal (b := mb) (o := 13) HLM2.out (by show mb ≠ ep; omega) (.int .i64 ((R.clock : Int) + 1)))
              have hm2 := heap_set_same (j := 13) (v := .int .i64 ((R.clock : Int) + 1)) HM2.out
              have hsh2 := ShopAt.tick (KL.own HSH2.out hsz hoff)
              replace HE2 := Go.Lib.hid (HE2.out.off (b := mb) (w' := W2.setCell ⟨mb, 13, none⟩ (.int .i64 ((R.clock : Int) + 1))) (fun p hp => (List.mem_cons.1 hp).elim (fun e => by rw [e]; exact hxm) (fun h => by rw [List.mem_singleton.1 h]; exact hcm)) (by rw [hsz]; exact Nat.le_refl _) hoff)
              replace HB2 := Go.Lib.hid (show Below w.heap.size w (W2.setCell ⟨mb, 13, none⟩ (.int .i64 ((R.clock : Int) + 1))) from HB2.out.setCell (by show w.heap.size ≤ mb; omega) _)
              clear c13 f13 hoff hsz HM2 HSH2
              generalize W2.setCell ⟨mb, 13, none⟩ (.int .i64 ((R.clock : Int) + 1)) = W2 at *
              have HM2 := Go.Lib.hid hm2; have HSH2 := Go.Lib.hid hsh2
              clear hm2 hsh2
              have HSN2 : Hid (S.tick.n = cf.size) := HSN
              have HCN2 := Go.Lib.hid (show S.tick.cnt ≤ 300 * j + 1 by have := HCN.out; show S.cnt + 1 ≤ _; omega)
              have HLO2 := Go.Lib.hid (show S.tick.log.length ≤ 2 * j + 1 by have := HLO.out; show (S.log ++ [tickEv (S.m 0 + 1)]).length ≤ _; rw [List.length_append]; show S.log.length + 1 ≤ _; omega)
              have HCK2 := Go.Lib.hid (show R.clock + 1 ≤ j + 1 by have := HCK.out; omega)
              have HRE2 := HRT
              obtain ⟨R2, hR2⟩ : ∃ R2, R2 = ({ R with clock := R.clock + 1 } : ShopR) := ⟨_, rfl⟩
              have HCK3 : Hid (R2.clock ≤ j + 1) := Go.Lib.hid (by rw [hR2]; exact HCK2.out)
              have HRE3 : Hid (RelR cf S.tick.m R2 fn ft bx) := Go.Lib.hid (by rw [hR2]; exact HRE2.out)
              have HSH3 := HSH2.out
              rw [← hR2] at HSH3
              replace HSH2 := Go.Lib.hid HSH3
              clear HCK2 HRE2 HRT HSH3 HCN HLO HCK HSN HRE1 hS0 hck30 hR2
              have HCK2 := HCK3
              have HRE2 := HRE3
              clear HCK3 HRE3
              generalize S.tick = S2 at *
              obtain ⟨⟨vf, vn, vb, us, hcs, hf, hno, hbx⟩, _⟩ := id HSH2.out
              injection hcs with hcs
              rw [hcs] at HM2 HSH2
              clear hcs
              have hvf := KRows.one hf
              have hvn := KRows.one hno
              have hvb := hbx.outer.one
              have HST := Go.Lib.hid (ref16_Start cf.slack x HX.out.2.2.2.1 R2 (FitsR.of HRE2.out (by omega) (by omega) (by omega)) vw _ (KL L2 mb ep W2.heap.size) tm arg us' W2 HSH2.out KL.lt ⟨HDB.out.1, by have := HDB.out.2.1; omega⟩ ⟨HDB.out.2.2.1, by have := HDB.out.2.2.2; omega⟩)
              obtain ⟨r3, hr3⟩ : ∃ r3, r3 = (startR cf.slack R2 tm arg us') := ⟨_, rfl⟩
              rw [← hr3] at HST
              obtain ⟨R3, nn, gg, ee⟩ := r3
              have HR3 := Go.Lib.hid hr3
              clear hr3
              have q3 : W2.cell? ⟨xb, 3, none⟩ = some (.int .i64 tm) := HE2.out.cell 0 3 rfl rfl
              have q4 : W2.cell? ⟨xb, 4, none⟩ = some (.int .i64 arg) := HE2.out.cell 0 4 rfl rfl
              have q5 : W2.cell? ⟨xb, 5, none⟩ = some (.int .i64 us') := HE2.out.cell 0 5 rfl rfl
              have hmW := heap_lt HM2.out
              have HNW := Go.Lib.hid (HG2.out.new)
              clear hf hno hbx
              go_upto_region 15 with (first
                | (with_reducible (show wpList _ _ _ (⟨some 65, _, _, _, _, _⟩ :: _) _ _); refine wpList_load_row (o := ⟨some 65, .load 33 _, _, _, _, _⟩) rfl 33 (.tmp 8) rfl mb rfl 33 #[.int .i64 (x 0), .int .i64 (x 1), .int .i64 (x 2), .int .i64 (x 3), .int .i64 (x 4), .int .i64 (x 5), .int .i64 (x 6), .int .i64 (x 7), .int .i64 (x 8), .int .i64 (x 9), .int .i64 (x 10), .int .i64 (x 11), .int .i64 (x 12), .int .i64 (R2.clock : Int), vf, .int .i64 (R2.tickets : Int), vn, vb, vw] (0, 0) _ HM2.out Tryz.underlying33 rfl (by kernel_rfl) ?_; simp only [Act.put, List.setIfInBounds_toArray, List.set_cons_succ, List.set_cons_zero])
                | (go_at_call 16; refine HST.out.mono ?_; rintro e W5 hse; obtain ⟨v5, rfl, hsh5, hb5⟩ := hse; obtain ⟨⟨vf5, vn5, vb5, us5, rfl, hf5, hno5, hbx5⟩, _⟩ := id hsh5; have hvf := KRows.one hf5; have hvn := KRows.one hno5; have hvb := hbx5.outer.one; have HS5 := Go.Lib.hid hsh5; have HB5 := Go.Lib.hid hb5; clear hsh5 hb5 hf5 hno5 hbx5 q3 q4 q5; have hb12 : (((W5.alloc (.cells #[.int .i64 0, .int .i64 0, .int .i64 0, .int .i64 0, .int .i64 0, .int .i64 0, .int .i64 0, .int .i64 0, .int .i64 0, .int .i64 0, .int .i64 0, .int .i64 0, .int .i64 0, .int .i64 0, .slice none 0 0, .int .i64 0, .slice none 0 0, .slice none 0 0, .slice none 0 0] 33)).alloc (.cells #[.int .i64 0, .int .i64 0] 36)).alloc (.cells #[.int .i64 0] 3)).heap[W5.heap.size]? = some (.cells #[.int .i64 0, .int .i64 0, .int .i64 0, .int .i64 0, .int .i64 0, .int .i64 0, .int .i64 0, .int .i64 0, .int .i64 0, .int .i64 0, .int .i64 0, .int .i64 0, .int .i64 0, .int .i64 0, .slice none 0 0, .int .i64 0, .slice none 0 0, .slice none 0 0, .slice none 0 0] 33) := ((Below.heap_alloc _ _ _ (by simp; omega)).trans (Below.heap_alloc _ _ _ (by simp))).trans (heap_alloc_new _ _); have HB12 := Go.Lib.hid hb12; clear hb12)
                | (with_reducible (show wpList _ _ _ (⟨none, Op.store 33 (Operand.tmp 12) _, _, _, _, _⟩ :: _) _ _); refine wpList_store_rowTo (o := ⟨none, .store 33 _ _, _, _, _, _⟩) rfl 33 (.tmp 12) (.tmp 73) rfl rfl W5.heap.size #[.int .i64 (x 0), .int .i64 (x 1), .int .i64 (x 2), .int .i64 (x 3), .int .i64 (x 4), .int .i64 (x 5), .int .i64 (x 6), .int .i64 (x 7), .int .i64 (x 8), .int .i64 (x 9), .int .i64 (x 10), .int .i64 (x 11), .int .i64 (x 12), .int .i64 (R3.clock : Int), vf5, .int .i64 (R3.tickets : Int), vn5, vb5, vw] rfl rfl 33 #[.int .i64 0, .int .i64 0, .int .i64 0, .int .i64 0, .int .i64 0, .int .i64 0, .int .i64 0, .int .i64 0, .int .i64 0, .int .i64 0, .int .i64 0, .int .i64 0, .int .i64 0, .int .i64 0, .slice none 0 0, .int .i64 0, .slice none 0 0, .slice none 0 0, .slice none 0 0] HB12.out (by kernel_rfl) rfl (by simp [show ∀ k n, (Value.int k n).oneCell' = true from fun _ _ => rfl, show ∀ a n c, (Value.slice a n c).oneCell' = true from fun _ _ _ => rfl, hvf, hvn, hvb, hvw]) ?_; refine Hid.out ?_)
                | fail)
              have b12 := setRow_heap (((W5.alloc (.cells #[.int .i64 0, .int .i64 0, .int .i64 0, .int .i64 0, .int .i64 0, .int .i64 0, .int .i64 0, .int .i64 0, .int .i64 0, .int .i64 0, .int .i64 0, .int .i64 0, .int .i64 0, .int .i64 0, .slice none 0 0, .int .i64 0, .slice none 0 0, .slice none 0 0, .slice none 0 0] 33)).alloc (.cells #[.int .i64 0, .int .i64 0] 36)).alloc (.cells #[.int .i64 0] 3)) W5.heap.size #[.int .i64 0, .int .i64 0, .int .i64 0, .int .i64 0, .int .i64 0, .int .i64 0, .int .i64 0, .int .i64 0, .int .i64 0, .int .i64 0, .int .i64 0, .int .i64 0, .int .i64 0, .int .i64 0, .slice none 0 0, .int .i64 0, .slice none 0 0, .slice none 0 0, .slice none 0 0] #[.int .i64 (x 0), .int .i64 (x 1), .int .i64 (x 2), .int .i64 (x 3), .int .i64 (x 4), .int .i64 (x 5), .int .i64 (x 6), .int .i64 (x 7), .int .i64 (x 8), .int .i64 (x 9), .int .i64 (x 10), .int .i64 (x 11), .int .i64 (x 12), .int .i64 (R3.clock : Int), vf5, .int .i64 (R3.tickets : Int), vn5, vb5, vw] 33 (0, 0) HB12.out
              have b13 : ((((W5.alloc (.cells #[.int .i64 0, .int .i64 0, .int .i64 0, .int .i64 0, .int .i64 0, .int .i64 0, .int .i64 0, .int .i64 0, .int .i64 0, .int .i64 0, .int .i64 0, .int .i64 0, .int .i64 0, .int .i64 0, .slice none 0 0, .int .i64 0, .slice none 0 0, .slice none 0 0, .slice none 0 0] 33)).alloc (.cells #[.int .i64 0, .int .i64 0] 36)).alloc (.cells #[.int .i64 0] 3)).setRow W5.heap.size #[.int .i64 (x 0), .int .i64 (x 1), .int .i64 (x 2), .int .i64 (x 3), .int .i64 (x 4), .int .i64 (x 5), .int .i64 (x 6), .int .i64 (x 7), .int .i64 (x 8), .int .i64 (x 9), .int .i64 (x 10), .int .i64 (x 11), .int .i64 (x 12), .int .i64 (R3.clock : Int), vf5, .int .i64 (R3.tickets : Int), vn5, vb5, vw]).heap[W5.heap.size + 1]? = some (.cells #[.int .i64 0, .int .i64 0] 36) := (setRow_other _ _ _ _ (by omega)).trans ((Below.heap_alloc _ _ _ (by simp)).trans (by have h := heap_alloc_new (W5.alloc (.cells #[.int .i64 0, .int .i64 0, .int .i64 0, .int .i64 0, .int .i64 0, .int .i64 0, .int .i64 0, .int .i64 0, .int .i64 0, .int .i64 0, .int .i64 0, .int .i64 0, .int .i64 0, .int .i64 0, .slice none 0 0, .int .i64 0, .slice none 0 0, .slice none 0 0, .slice none 0 0] 33)) (.cells #[.int .i64 0, .int .i64 0] 36); rw [World.size_alloc] at h; exact h))
              have b14 : ((((W5.alloc (.cells #[.int .i64 0, .int .i64 0, .int .i64 0, .int .i64 0, .int .i64 0, .int .i64 0, .int .i64 0, .int .i64 0, .int .i64 0, .int .i64 0, .int .i64 0, .int .i64 0, .int .i64 0, .int .i64 0, .slice none 0 0, .int .i64 0, .slice none 0 0, .slice none 0 0, .slice none 0 0] 33)).alloc (.cells #[.int .i64 0, .int .i64 0] 36)).alloc (.cells #[.int .i64 0] 3)).setRow W5.heap.size #[.int .i64 (x 0), .int .i64 (x 1), .int .i64 (x 2), .int .i64 (x 3), .int .i64 (x 4), .int .i64 (x 5), .int .i64 (x 6), .int .i64 (x 7), .int .i64 (x 8), .int .i64 (x 9), .int .i64 (x 10), .int .i64 (x 11), .int .i64 (x 12), .int .i64 (R3.clock : Int), vf5, .int .i64 (R3.tickets : Int), vn5, vb5, vw]).heap[W5.heap.size + 1 + 1]? = some (.cells #[.int .i64 0] 3) := (setRow_other _ _ _ _ (by omega)).trans (by have h := heap_alloc_new ((W5.alloc (.cells #[.int .i64 0, .int .i64 0, .int .i64 0, .int .i64 0, .int .i64 0, .int .i64 0, .int .i64 0, .int .i64 0, .int .i64 0, .int .i64 0, .int .i64 0, .int .i64 0, .int .i64 0, .int .i64 0, .slice none 0 0, .int .i64 0, .slice none 0 0, .slice none 0 0, .slice none 0 0] 33)).alloc (.cells #[.int .i64 0, .int .i64 0] 36)) (.cells #[.int .i64 0] 3); rw [World.size_alloc, World.size_alloc] at h; exact h)
              have hb6 : Below W5.heap.size W5 ((((W5.alloc (.cells #[.int .i64 0, .int .i64 0, .int .i64 0, .int .i64 0, .int .i64 0, .int .i64 0, .int .i64 0, .int .i64 0, .int .i64 0, .int .i64 0, .int .i64 0, .int .i64 0, .int .i64 0, .int .i64 0, .slice none 0 0, .int .i64 0, .slice none 0 0, .slice none 0 0, .slice none 0 0] 33)).alloc (.cells #[.int .i64 0, .int .i64 0] 36)).alloc (.cells #[.int .i64 0] 3)).setRow W5.heap.size #[.int .i64 (x 0), .int .i64 (x 1), .int .i64 (x 2), .int .i64 (x 3), .int .i64 (x 4), .int .i64 (x 5), .int .i64 (x 6), .int .i64 (x 7), .int .i64 (x 8), .int .i64 (x 9), .int .i64 (x 10), .int .i64 (x 11), .int .i64 (x 12), .int .i64 (R3.clock : Int), vf5, .int .i64 (R3.tickets : Int), vn5, vb5, vw]) := below_setRow ((((Below.refl _ _).alloc (Nat.le_refl _) _).alloc (by simp) _).alloc (by simp; omega) _) (Nat.le_refl _) _
              unfold Hid
              clear HB12
              generalize (((W5.alloc (.cells #[.int .i64 0, .int .i64 0, .int .i64 0, .int .i64 0, .int .i64 0, .int .i64 0, .int .i64 0, .int .i64 0, .int .i64 0, .int .i64 0, .int .i64 0, .int .i64 0, .int .i64 0, .int .i64 0, .slice none 0 0, .int .i64 0, .slice none 0 0, .slice none 0 0, .slice none 0 0] 33)).alloc (.cells #[.int .i64 0, .int .i64 0] 36)).alloc (.cells #[.int .i64 0] 3)).setRow W5.heap.size #[.int .i64 (x 0), .int .i64 (x 1), .int .i64 (x 2), .int .i64 (x 3), .int .i64 (x 4), .int .i64 (x 5), .int .i64 (x 6), .int .i64 (x 7), .int .i64 (x 8), .int .i64 (x 9), .int .i64 (x 10), .int .i64 (x 11), .int .i64 (x 12), .int .i64 (R3.clock : Int), vf5, .int .i64 (R3.tickets : Int), vn5, vb5, vw] = W6 at *
              have c0 : W6.cell? ⟨W5.heap.size + 1, 0, none⟩ = some (.int .i64 0) := cell_of_row _ _ _ _ _ _ b13
              have c1 : W6.cell? ⟨W5.heap.size + 1, 1, none⟩ = some (.int .i64 0) := cell_of_row _ _ _ _ _ _ b13
              have c2 : W6.cell? ⟨W5.heap.size + 1 + 1, 0, none⟩ = some (.int .i64 0) := cell_of_row _ _ _ _ _ _ b14
              have f0 : W6.frozen? ⟨W5.heap.size + 1, 0, none⟩ = false := frozen_of_row _ _ _ _ _ b13
              have f1 : W6.frozen? ⟨W5.heap.size + 1, 1, none⟩ = false := frozen_of_row _ _ _ _ _ b13
              have f2 : W6.frozen? ⟨W5.heap.size + 1 + 1, 0, none⟩ = false := frozen_of_row _ _ _ _ _ b14
              have HB12 := Go.Lib.hid b12; have HB13 := Go.Lib.hid b13; have HB14 := Go.Lib.hid b14; have HB6 := Go.Lib.hid hb6
              clear b12 b13 b14 hb6
              go_upto_region 15 with (fail)
              have hoff : ∀ b, b ≠ W5.heap.size + 1 → b ≠ W5.heap.size + 1 + 1 → (((W6.setCell ⟨W5.heap.size + 1, 0, none⟩ (.int .i64 nn)).setCell ⟨W5.heap.size + 1, 1, none⟩ (.int .i64 gg)).setCell ⟨W5.heap.size + 1 + 1, 0, none⟩ (.int .i64 ee)).heap[b]? = W6.heap[b]? := fun b h1 h2 => (Go.Deep.blk_setCell_other _ _ _ _ h2).trans ((Go.Deep.blk_setCell_other _ _ _ _ h1).trans (Go.Deep.blk_setCell_other _ _ _ _ h1))
              have b12 := (hoff W5.heap.size (by omega) (by omega)).trans HB12.out
              have b13 : (((W6.setCell ⟨W5.heap.size + 1, 0, none⟩ (.int .i64 nn)).setCell ⟨W5.heap.size + 1, 1, none⟩ (.int .i64 gg)).setCell ⟨W5.heap.size + 1 + 1, 0, none⟩ (.int .i64 ee)).heap[W5.heap.size + 1]? = some (.cells #[.int .i64 nn, .int .i64 gg] 36) := (Go.Deep.blk_setCell_other _ _ _ _ (by show W5.heap.size + 1 ≠ W5.heap.size + 1 + 1; omega)).trans (heap_set_same (j := 1) (v := .int .i64 gg) (heap_set_same (j := 0) (v := .int .i64 nn) HB13.out))
              have b14 : (((W6.setCell ⟨W5.heap.size + 1, 0, none⟩ (.int .i64 nn)).setCell ⟨W5.heap.size + 1, 1, none⟩ (.int .i64 gg)).setCell ⟨W5.heap.size + 1 + 1, 0, none⟩ (.int .i64 ee)).heap[W5.heap.size + 1 + 1]? = some (.cells #[.int .i64 ee] 3) := heap_set_same (j := 0) (v := .int .i64 ee) ((Go.Deep.blk_setCell_other _ _ _ _ (by show W5.heap.size + 1 + 1 ≠ W5.heap.size + 1; omega)).trans ((Go.Deep.blk_setCell_other _ _ _ _ (by show W5.heap.size + 1 + 1 ≠ W5.heap.size + 1; omega)).trans HB14.out))
              have hb7 : Below W5.heap.size W5 (((W6.setCell ⟨W5.heap.size + 1, 0, none⟩ (.int .i64 nn)).setCell ⟨W5.heap.size + 1, 1, none⟩ (.int .i64 gg)).setCell ⟨W5.heap.size + 1 + 1, 0, none⟩ (.int .i64 ee)) := ((HB6.out.setCell (by show W5.heap.size ≤ W5.heap.size + 1; omega) _).setCell (by show W5.heap.size ≤ W5.heap.size + 1; omega) _).setCell (by show W5.heap.size ≤ W5.heap.size + 1 + 1; omega) _
              have hb7w := HB5.out.trans (hb7.mono HB5.out.size)
              have hs7 := HS5.out.lt.keep fun b hb => hb7.block b hb.2
              have hsW5 := HB5.out.size
              clear c0 c1 c2 f0 f1 f2 HB12 HB13 HB14 HB6 HB5 HS5 hoff
              generalize (((W6.setCell ⟨W5.heap.size + 1, 0, none⟩ (.int .i64 nn)).setCell ⟨W5.heap.size + 1, 1, none⟩ (.int .i64 gg)).setCell ⟨W5.heap.size + 1 + 1, 0, none⟩ (.int .i64 ee)) = W7 at *
              generalize W5.heap.size = g12 at *
              have hg7 := HG2.out.below hb7w
              have he7 := HE2.out.below hb7w
              have hm7 := Below.row hb7w HM2.out
              have hbw7 := HB2.out.trans (hb7w.mono HB2.out.size)
              have h14 := heap_lt b14
              have HB12 := Go.Lib.hid b12; have HB13 := Go.Lib.hid b13; have HB14 := Go.Lib.hid b14; have HG7 := Go.Lib.hid hg7; have HE7 := Go.Lib.hid he7; have HM7 := Go.Lib.hid hm7; have HB7 := Go.Lib.hid hbw7; have HS7 := Go.Lib.hid hs7
              clear b12 b13 b14 hb7 hb7w hs7 hg7 he7 hm7 hbw7 HG2 HE2 HM2 HB2 HSH2 HST
              generalize (Value.agg #[.int .i64 (x 0), .int .i64 (x 1), .int .i64 (x 2), .int .i64 (x 3), .int .i64 (x 4), .int .i64 (x 5), .int .i64 (x 6), .int .i64 (x 7), .int .i64 (x 8), .int .i64 (x 9), .int .i64 (x 10), .int .i64 (x 11), .int .i64 (x 12), .int .i64 (R2.clock : Int), vf, .int .i64 (R2.tickets : Int), vn, vb, vw]) = vz2
              go_upto_region 16 with (first
                | (with_reducible (show wpList _ _ _ (⟨some 76, _, _, _, _, _⟩ :: _) _ _); refine wpList_load_row (o := ⟨some 76, .load 33 _, _, _, _, _⟩) rfl 33 (.tmp 12) rfl g12 rfl 33 #[.int .i64 (x 0), .int .i64 (x 1), .int .i64 (x 2), .int .i64 (x 3), .int .i64 (x 4), .int .i64 (x 5), .int .i64 (x 6), .int .i64 (x 7), .int .i64 (x 8), .int .i64 (x 9), .int .i64 (x 10), .int .i64 (x 11), .int .i64 (x 12), .int .i64 (R3.clock : Int), vf5, .int .i64 (R3.tickets : Int), vn5, vb5, vw] (0, 0) _ HB12.out Tryz.underlying33 rfl (by kernel_rfl) ?_)
                | (with_reducible (show wpList _ _ _ (⟨none, Op.store 33 (Operand.tmp 8) _, _, _, _, _⟩ :: _) _ _); refine wpList_store_rowTo (o := ⟨none, .store 33 _ _, _, _, _, _⟩) rfl 33 (.tmp 8) (.tmp 76) rfl rfl mb #[.int .i64 (x 0), .int .i64 (x 1), .int .i64 (x 2), .int .i64 (x 3), .int .i64 (x 4), .int .i64 (x 5), .int .i64 (x 6), .int .i64 (x 7), .int .i64 (x 8), .int .i64 (x 9), .int .i64 (x 10), .int .i64 (x 11), .int .i64 (x 12), .int .i64 (R3.clock : Int), vf5, .int .i64 (R3.tickets : Int), vn5, vb5, vw] rfl rfl 33 #[.int .i64 (x 0), .int .i64 (x 1), .int .i64 (x 2), .int .i64 (x 3), .int .i64 (x 4), .int .i64 (x 5), .int .i64 (x 6), .int .i64 (x 7), .int .i64 (x 8), .int .i64 (x 9), .int .i64 (x 10), .int .i64 (x 11), .int .i64 (x 12), .int .i64 (R2.clock : Int), vf, .int .i64 (R2.tickets : Int), vn, vb, vw] HM7.out (by kernel_rfl) rfl (by simp [show ∀ k n, (Value.int k n).oneCell' = true from fun _ _ => rfl, show ∀ a n c, (Value.slice a n c).oneCell' = true from fun _ _ _ => rfl, hvf, hvn, hvb, hvw]) ?_; refine Hid.out ?_)
                | fail)
              have hoff : ∀ b, b ≠ mb → (W7.setRow mb #[.int .i64 (x 0), .int .i64 (x 1), .int .i64 (x 2), .int .i64 (x 3), .int .i64 (x 4), .int .i64 (x 5), .int .i64 (x 6), .int .i64 (x 7), .int .i64 (x 8), .int .i64 (x 9), .int .i64 (x 10), .int .i64 (x 11), .int .i64 (x 12), .int .i64 (R3.clock : Int), vf5, .int .i64 (R3.tickets : Int), vn5, vb5, vw]).heap[b]? = W7.heap[b]? := fun b hb => setRow_other _ _ _ _ hb
              have b13 := (hoff (g12 + 1) (by omega)).trans HB13.out
              have b14 := (hoff (g12 + 1 + 1) (by omega)).trans HB14.out
              have bm8 := setRow_heap W7 mb #[.int .i64 (x 0), .int .i64 (x 1), .int .i64 (x 2), .int .i64 (x 3), .int .i64 (x 4), .int .i64 (x 5), .int .i64 (x 6), .int .i64 (x 7), .int .i64 (x 8), .int .i64 (x 9), .int .i64 (x 10), .int .i64 (x 11), .int .i64 (x 12), .int .i64 (R2.clock : Int), vf, .int .i64 (R2.tickets : Int), vn, vb, vw] #[.int .i64 (x 0), .int .i64 (x 1), .int .i64 (x 2), .int .i64 (x 3), .int .i64 (x 4), .int .i64 (x 5), .int .i64 (x 6), .int .i64 (x 7), .int .i64 (x 8), .int .i64 (x 9), .int .i64 (x 10), .int .i64 (x 11), .int .i64 (x 12), .int .i64 (R3.clock : Int), vf5, .int .i64 (R3.tickets : Int), vn5, vb5, vw] 33 (0, 0) HM7.out
              have hg8 := HG7.out.setRow (b := mb) HLM2.out (by show mb ≠ ep; omega) #[.int .i64 (x 0), .int .i64 (x 1), .int .i64 (x 2), .int .i64 (x 3), .int .i64 (x 4), .int .i64 (x 5), .int .i64 (x 6), .int .i64 (x 7), .int .i64 (x 8), .int .i64 (x 9), .int .i64 (x 10), .int .i64 (x 11), .int .i64 (x 12), .int .i64 (R3.clock : Int), vf5, .int .i64 (R3.tickets : Int), vn5, vb5, vw]
              have he8 := HE7.out.off (b := mb) (w' := W7.setRow mb #[.int .i64 (x 0), .int .i64 (x 1), .int .i64 (x 2), .int .i64 (x 3), .int .i64 (x 4), .int .i64 (x 5), .int .i64 (x 6), .int .i64 (x 7), .int .i64 (x 8), .int .i64 (x 9), .int .i64 (x 10), .int .i64 (x 11), .int .i64 (x 12), .int .i64 (R3.clock : Int), vf5, .int .i64 (R3.tickets : Int), vn5, vb5, vw]) (fun p hp => (List.mem_cons.1 hp).elim (fun e => by rw [e]; exact hxm) (fun h => by rw [List.mem_singleton.1 h]; exact hcm)) (by rw [size_setRow]; exact Nat.le_refl _) hoff
              have hb8 := below_setRow HB7.out (show w.heap.size ≤ mb by omega) #[.int .i64 (x 0), .int .i64 (x 1), .int .i64 (x 2), .int .i64 (x 3), .int .i64 (x 4), .int .i64 (x 5), .int .i64 (x 6), .int .i64 (x 7), .int .i64 (x 8), .int .i64 (x 9), .int .i64 (x 10), .int .i64 (x 11), .int .i64 (x 12), .int .i64 (R3.clock : Int), vf5, .int .i64 (R3.tickets : Int), vn5, vb5, vw]
              have hs8 := (HS7.out.keep (w' := W7.setRow mb #[.int .i64 (x 0), .int .i64 (x 1), .int .i64 (x 2), .int .i64 (x 3), .int .i64 (x 4), .int .i64 (x 5), .int .i64 (x 6), .int .i64 (x 7), .int .i64 (x 8), .int .i64 (x 9), .int .i64 (x 10), .int .i64 (x 11), .int .i64 (x 12), .int .i64 (R3.clock : Int), vf5, .int .i64 (R3.tickets : Int), vn5, vb5, vw]) fun b hb => hoff b (hb.1.elim (fun h => h.2.1) fun h => by omega)).mono (K' := KL L2 mb ep (W7.setRow mb #[.int .i64 (x 0), .int .i64 (x 1), .int .i64 (x 2), .int .i64 (x 3), .int .i64 (x 4), .int .i64 (x 5), .int .i64 (x 6), .int .i64 (x 7), .int .i64 (x 8), .int .i64 (x 9), .int .i64 (x 10), .int .i64 (x 11), .int .i64 (x 12), .int .i64 (R3.clock : Int), vf5, .int .i64 (R3.tickets : Int), vn5, vb5, vw]).heap.size) fun b hb => by
                have hlt : b < (W7.setRow mb #[.int .i64 (x 0), .int .i64 (x 1), .int .i64 (x 2), .int .i64 (x 3), .int .i64 (x 4), .int .i64 (x 5), .int .i64 (x 6), .int .i64 (x 7), .int .i64 (x 8), .int .i64 (x 9), .int .i64 (x 10), .int .i64 (x 11), .int .i64 (x 12), .int .i64 (R3.clock : Int), vf5, .int .i64 (R3.tickets : Int), vn5, vb5, vw]).heap.size := by rw [size_setRow]; have := hb.2; omega
                exact hb.1.elim (fun h => ⟨h.1, h.2.1, h.2.2.1, hlt⟩) fun h => ⟨HNW.out b h, by omega, by omega, hlt⟩
              unfold Hid
              clear HB12 HB13 HB14 HG7 HE7 HM7 HB7 HS7 hoff
              generalize W7.setRow mb #[.int .i64 (x 0), .int .i64 (x 1), .int .i64 (x 2), .int .i64 (x 3), .int .i64 (x 4), .int .i64 (x 5), .int .i64 (x 6), .int .i64 (x 7), .int .i64 (x 8), .int .i64 (x 9), .int .i64 (x 10), .int .i64 (x 11), .int .i64 (x 12), .int .i64 (R3.clock : Int), vf5, .int .i64 (R3.tickets : Int), vn5, vb5, vw] = W8 at *
              generalize (Value.agg #[.int .i64 (x 0), .int .i64 (x 1), .int .i64 (x 2), .int .i64 (x 3), .int .i64 (x 4), .int .i64 (x 5), .int .i64 (x 6), .int .i64 (x 7), .int .i64 (x 8), .int .i64 (x 9), .int .i64 (x 10), .int .i64 (x 11), .int .i64 (x 12), .int .i64 (R3.clock : Int), vf5, .int .i64 (R3.tickets : Int), vn5, vb5, vw]) = vz3
              have HS8 := Go.Lib.hid hs8; have HM8 := Go.Lib.hid bm8
              have he9 := Env.row (Env.row he8 b14 (HNW.out _ (by omega))) b13 (HNW.out _ (by omega))
              obtain ⟨hg9, hs9⟩ := hg8.newR [.bool false] 4
              have hs8sz := heap_lt bm8
              clear b13 b14 bm8 hs8 he8
              go_upto_region 17 with (fail)
              generalize (fun b => if b = W8.heap.size then 5 else L2 b) = L9 at *
              have hs9' := KL.shr HS8.out hs9.size (fun b hb h0 => hs9.block b hb (.inl h0)) hs9.lab
              have hm9 := (hs9.block mb hs8sz (.inl HLM2.out)).trans HM8.out
              have hlm9 := (hs9.lab mb hs8sz).trans HLM2.out
              have he9' := he9.shr hs9
              have hb9 := hs9.below_old hb8 (Nat.le_refl _) HOL2.out
              have hol9 := fun b (hb : b < w.heap.size) => (hs9.lab b (Nat.lt_of_lt_of_le hb hb8.size)).trans (HOL2.out b hb)
              have hknow : (S2.newR W8.heap.size [.bool false]).knows (W8.heap.size, 0) := St.newR_knows S2 W8.heap.size [.bool false] (by decide)
              have hsd := start_done (R := R2) (fn := fn) (ft := ft) (bx := bx) (wk := (km : Int)) (ticks := tm) (shard := arg) (user := us') hok (show (S2.newR W8.heap.size [.bool false]).n = cf.size from HSN2.out) HRE2.out (by have := HDB.out.2.2.2; omega) hknow ht30 (by have := HCN2.out; show S2.cnt ≤ _; omega) (by have := HLO2.out; show S2.log.length ≤ _; omega)
              rw [← HR3.out] at hsd
              obtain ⟨m, T, fn', ft', bx', hm1, hm2, hrun, hrelT, hTn, hTc, hTl, hTr⟩ := hsd
              replace hTn : T.n = S2.n := hTn
              replace hTc : T.cnt ≤ S2.cnt + 260 := hTc
              replace hTl : T.log.length ≤ S2.log.length + 1 := hTl
              have hckT : R3.clock ≤ j + 1 := by have h := startR_clock cf.slack R2 tm arg us'; rw [← HR3.out] at h; have h : R3.clock = R2.clock := h; have := HCK2.out; omega
              clear hs9 he9 hb8 hs8sz HS8 HM8 hg8 hknow
              generalize (W8.alloc (.cells #[.bool false] 4)) = W9 at *
              generalize W8.heap.size = ob at *
              dsimp only at hrun hrelT
              have HGN := Go.Lib.hid hg9; have HSX := Go.Lib.hid hs9'; have HMX := Go.Lib.hid hm9; have HLX := Go.Lib.hid hlm9; have HEX := Go.Lib.hid he9'; have HBX := Go.Lib.hid hb9; have HOX := Go.Lib.hid hol9; have HRUN := Go.Lib.hid hrun; have HRT := Go.Lib.hid hrelT; have HTN := Go.Lib.hid hTn; have HTC := Go.Lib.hid hTc; have HTL := Go.Lib.hid hTl; have HTR := Go.Lib.hid hTr; have HCT := Go.Lib.hid hckT
              clear hg9 hs9' hm9 hlm9 he9' hb9 hol9 hrun hrelT hTn hTc hTl hTr hckT HLM2 HOL2 HRE2 HCK2 HR3
              have HDO := Go.Lib.hid (start_any (t := 0) (m := 410) (E := ⟨ek, ep, ea, ec, cf⟩) (wk := (km : Int)) (ticks := tm) (shard := arg) (user := us') (prApp_mono cf _ (heR_mono nn gg ee)) HGN.out (law16_alone1 (E := ⟨ek, ep, ea, ec, cf⟩) (ob := ob) (HEX.out.sub (env' := [(g12 + 1, [.int .i64 nn, .int .i64 gg]), (g12 + 1 + 1, [.int .i64 ee])]) (by simp))) (by omega) (by have := HDB.out.2.1; omega))
              have q3 : W9.cell? ⟨xb, 3, none⟩ = some (.int .i64 tm) := HEX.out.cell 2 3 rfl rfl
              have q4 : W9.cell? ⟨xb, 4, none⟩ = some (.int .i64 arg) := HEX.out.cell 2 4 rfl rfl
              have q5 : W9.cell? ⟨xb, 5, none⟩ = some (.int .i64 us') := HEX.out.cell 2 5 rfl rfl
              go_wp2_with fail
              clear q3 q4 q5
              refine HDO.out.mono ?_
              rintro e w7 ⟨v, L7, rfl, hd7, hg7, hc7⟩
              have HG7 := Go.Lib.hid hg7
              have HC7 := Go.Lib.hid hc7
              obtain ⟨f, cap, rfl, _, _⟩ := hc7
              have HD7 := Go.Lib.hid hd7
              clear hd7 hg7 HDO
              have HT := Go.Lib.hid (HG7.out.task 0 (.func (.func f) #[] cap) 142)
              go_wp2_with fail
              refine (step_New f #[] cap w7).mono ?_
              rintro e w8 ⟨rfl, rfl⟩
              generalize (fun b => if b = w7.heap.size then 5000 + 0 else L7 b) = L8 at *
              have hd8 : DidP (TP 0) L7 w7 L8 (w7.alloc (.cells #[.func (.func f) #[] cap, .int .i64 0] 142)) := ⟨rfl, rfl, rfl, by simp, fun b hb _ => Below.heap_alloc _ _ _ hb, HT.out.2.2.lab⟩
              have hdd := HD7.out.toP.trans hd8
              have HK8 := Go.Lib.hid (CodeSim.ext cf (prApp cf (heR nn gg ee)) _ 0 HC7.out HT.out.2.2)
              have HE8 := Go.Lib.hid ((HEX.out.toDidP hdd).sub (env' := [(cb, [.int .i64 (x 0), .int .i64 (x 1), .int .i64 (x 2), .int .i64 (x 3), .int .i64 (x 4), .int .i64 (x 5), .int .i64 (x 6), .int .i64 (x 7), .int .i64 (x 8), .int .i64 (x 9), .int .i64 (x 10), .int .i64 (x 11), .int .i64 (x 12)])]) (by simp))
              have HB8 := Go.Lib.hid (hdd.below_old HBX.out (Nat.le_refl _) HOX.out)
              have HOL8 : Hid (∀ b, b < w.heap.size → L8 b = 0) := Go.Lib.hid (fun b hb => (hdd.lab b (Nat.lt_of_lt_of_le hb HBX.out.size)).trans (HOX.out b hb))
              have hml := heap_lt HMX.out
              have HM8 := Go.Lib.hid ((hdd.block mb hml (by rw [HLX.out]; unfold TP; omega)).trans HMX.out)
              have HL8 := Go.Lib.hid ((hdd.lab mb hml).trans HLX.out)
              have HS8 := Go.Lib.hid (KL.shr HSX.out hdd.size (fun b hb h0 => hdd.block b hb (by rw [h0]; unfold TP; omega)) hdd.lab)
              clear hd8 hdd HC7 HEX HBX HOX HD7 HG7 HMX HLX HSX hml HGN
              generalize (w7.alloc (.cells #[.func (.func f) #[] cap, .int .i64 0] 142)) = W10 at *
              generalize w7.heap.size = tb at *
              have qc4 : W10.cell? ⟨cb, 4, none⟩ = some (.int .i64 (cf.tickets : Int)) := by rw [← HX.out.2.2.1]; exact HE8.out.cell 0 4 rfl rfl
              have hw1 : IntKind.i64.wrap (10 * (cf.tickets : Int)) = 10 * (cf.tickets : Int) := IntWalk.i64_in _ (by omega)
              have hw2 : IntKind.i64.wrap (60 + 10 * (cf.tickets : Int)) = ((60 + 10 * cf.tickets : Nat) : Int) := by rw [IntWalk.i64_in _ (by omega)]; omega
              have hmm := hm2
              go_wp2_with fail
              clear qc4 hw1 hw2
              have HF : Calls Tryz.prog 20 #[.pointer (some ⟨tb, 0, none⟩), .int .i64 ((60 + 10 * cf.tickets : Nat) : Int)] W10 _ := task_finish (most := 60 + 10 * cf.tickets) HT.out.1 HT.out.2.1 (by decide) (by omega) (by omega) (by decide) (CodeSim.le cf (prApp cf (heR nn gg ee)) _ 0 HK8.out (by omega)) HRUN.out
              refine HF.mono ?_
              rintro e w9 ⟨v', L10, rfl, hg10, hd10, ht10⟩
              have hans := hg10.reads HTR.out
              have hml := heap_lt HM8.out
              have HE10 := Go.Lib.hid (HE8.out.toDidP hd10)
              have HB10 := Go.Lib.hid (hd10.below_old HB8.out (Nat.le_refl _) HOL8.out)
              have HOL10 : Hid (∀ b, b < w.heap.size → L10 b = 0) := Go.Lib.hid (fun b hb => (hd10.lab b (Nat.lt_of_lt_of_le hb HB8.out.size)).trans (HOL8.out b hb))
              have HM10 := Go.Lib.hid ((hd10.block mb hml (by rw [HL8.out]; unfold TP; omega)).trans HM8.out)
              have HL10 := Go.Lib.hid ((hd10.lab mb hml).trans HL8.out)
              have hs10 := KL.shr HS8.out hd10.size (fun b hb h0 => hd10.block b hb (by rw [h0]; unfold TP; omega)) hd10.lab
              rw [Nat.zero_add] at ht10
              have HSTP := Go.Lib.hid (task_steps ht10)
              have HIS := Go.Lib.hid (law16_Is hg10 (HTN.out.trans HSN2.out) HRT.out x vw _ (KL L10 mb ep w9.heap.size) hs10 KL.lt)
              have HS10 := Go.Lib.hid hs10
              have hst1 : decide ((m : Int) < 1) = false := by simp; omega
              have hst2 : ((m : Int) < 1) = False := by simp; omega
              have HG10 := Go.Lib.hid hg10
              clear hg10 hd10 ht10 hs10 HF HT HK8 HE8 HB8 HOL8 HM8 HL8 HS8 HRUN HTR hml
              go_upto_region 20 with (first
                | (with_reducible (show wpList _ _ _ (⟨some 110, _, _, _, _, _⟩ :: _) _ _); refine wpList_load_row_g (o := ⟨some 110, .load 33 _, _, _, _, _⟩) (by kernel_rfl) 33 (.tmp 8) rfl mb rfl 33 #[.int .i64 (x 0), .int .i64 (x 1), .int .i64 (x 2), .int .i64 (x 3), .int .i64 (x 4), .int .i64 (x 5), .int .i64 (x 6), .int .i64 (x 7), .int .i64 (x 8), .int .i64 (x 9), .int .i64 (x 10), .int .i64 (x 11), .int .i64 (x 12), .int .i64 (R3.clock : Int), vf5, .int .i64 (R3.tickets : Int), vn5, vb5, vw] (0, 0) _ HM10.out Tryz.underlying33 rfl (by kernel_rfl) ?_)
                | (go_at_call 21; refine HSTP.out.mono ?_; rintro e w11 ⟨rfl, hw⟩; subst hw)
                | (go_at_call 22; refine HIS.out.mono ?_; rintro e w12 ⟨rfl, hb12⟩; have HB12 := Go.Lib.hid hb12; clear hb12)
                | fail)
              go_wp2
              have e1 : (j : Int) + 1 = ((j + 1 : Nat) : Int) := by omega
              exact ⟨⟨j + 1, T, L10, R3, fn', ft', bx', #[.int .i64 (x 0), .int .i64 (x 1), .int .i64 (x 2), .int .i64 (x 3), .int .i64 (x 4), .int .i64 (x 5), .int .i64 (x 6), .int .i64 (x 7), .int .i64 (x 8), .int .i64 (x 9), .int .i64 (x 10), .int .i64 (x 11), .int .i64 (x 12), .int .i64 (R3.clock : Int), vf5, .int .i64 (R3.tickets : Int), vn5, vb5, vw], by rw [e1], by omega, HG10.out.below HB12.out, HTN.out.trans HSN2.out, HRT.out, by have := HTC.out; have := HCN2.out; omega, by have := HTL.out; have := HLO2.out; omega, HB10.out.trans (HB12.out.mono HB10.out.size), HOL10.out, HE10.out.below HB12.out, HCT.out, Below.row HB12.out HM10.out, HL10.out, KL.shr HS10.out HB12.out.size (fun b hb _ => HB12.out.block b hb) (fun _ _ => rfl)⟩, by show ds.length - ((j : Int) + 1).toNat < ds.length - (j : Int).toNat; omega⟩
            · have hz2 : decide (0 < z) = false := by simp; omega
              go_upto_region 14 with (fail)
              clear hcz
              have HCN2 := Go.Lib.hid (show S.cnt ≤ 300 * j + 1 by have := HCN.out; omega)
              have HLO2 := Go.Lib.hid (show S.log.length ≤ 2 * j + 1 by have := HLO.out; omega)
              have HCK2 := Go.Lib.hid (show R.clock ≤ j + 1 by have := HCK.out; omega)
              clear HCN HLO HCK
              have HG2 := HG1
              have HRE2 := HRE1
              have HSN2 := HSN
              have HB2 := HBW
              have HOL2 := HOL
              have HE2 := HE1
              have HM2 := HM
              have HLM2 := HLM
              have HSH2 := HSH
              clear HG1 HRE1 HSN HBW HOL HE1 HM HLM HSH
              obtain ⟨⟨vf, vn, vb, us, hcs, hf, hno, hbx⟩, _⟩ := id HSH2.out
              injection hcs with hcs
              rw [hcs] at HM2 HSH2
              clear hcs
              have hvf := KRows.one hf
              have hvn := KRows.one hno
              have hvb := hbx.outer.one
              have HST := Go.Lib.hid (ref16_Start cf.slack x HX.out.2.2.2.1 R (FitsR.of HRE2.out (by omega) (by omega) (by omega)) vw _ (KL L mb ep W1.heap.size) tm arg us' W1 HSH2.out KL.lt ⟨HDB.out.1, by have := HDB.out.2.1; omega⟩ ⟨HDB.out.2.2.1, by have := HDB.out.2.2.2; omega⟩)
              obtain ⟨r3, hr3⟩ : ∃ r3, r3 = (startR cf.slack R tm arg us') := ⟨_, rfl⟩
              rw [← hr3] at HST
              obtain ⟨R3, nn, gg, ee⟩ := r3
              have HR3 := Go.Lib.hid hr3
              clear hr3
              have q3 : W1.cell? ⟨xb, 3, none⟩ = some (.int .i64 tm) := HE2.out.cell 0 3 rfl rfl
              have q4 : W1.cell? ⟨xb, 4, none⟩ = some (.int .i64 arg) := HE2.out.cell 0 4 rfl rfl
              have q5 : W1.cell? ⟨xb, 5, none⟩ = some (.int .i64 us') := HE2.out.cell 0 5 rfl rfl
              have hmW := heap_lt HM2.out
              have HNW := Go.Lib.hid (HG2.out.new)
              clear hf hno hbx
              go_upto_region 15 with (first
                | (with_reducible (show wpList _ _ _ (⟨some 65, _, _, _, _, _⟩ :: _) _ _); refine wpList_load_row (o := ⟨some 65, .load 33 _, _, _, _, _⟩) rfl 33 (.tmp 8) rfl mb rfl 33 #[.int .i64 (x 0), .int .i64 (x 1), .int .i64 (x 2), .int .i64 (x 3), .int .i64 (x 4), .int .i64 (x 5), .int .i64 (x 6), .int .i64 (x 7), .int .i64 (x 8), .int .i64 (x 9), .int .i64 (x 10), .int .i64 (x 11), .int .i64 (x 12), .int .i64 (R.clock : Int), vf, .int .i64 (R.tickets : Int), vn, vb, vw] (0, 0) _ HM2.out Tryz.underlying33 rfl (by kernel_rfl) ?_; simp only [Act.put, List.setIfInBounds_toArray, List.set_cons_succ, List.set_cons_zero])
                | (go_at_call 16; refine HST.out.mono ?_; rintro e W5 hse; obtain ⟨v5, rfl, hsh5, hb5⟩ := hse; obtain ⟨⟨vf5, vn5, vb5, us5, rfl, hf5, hno5, hbx5⟩, _⟩ := id hsh5; have hvf := KRows.one hf5; have hvn := KRows.one hno5; have hvb := hbx5.outer.one; have HS5 := Go.Lib.hid hsh5; have HB5 := Go.Lib.hid hb5; clear hsh5 hb5 hf5 hno5 hbx5 q3 q4 q5; have hb12 : (((W5.alloc (.cells #[.int .i64 0, .int .i64 0, .int .i64 0, .int .i64 0, .int .i64 0, .int .i64 0, .int .i64 0, .int .i64 0, .int .i64 0, .int .i64 0, .int .i64 0, .int .i64 0, .int .i64 0, .int .i64 0, .slice none 0 0, .int .i64 0, .slice none 0 0, .slice none 0 0, .slice none 0 0] 33)).alloc (.cells #[.int .i64 0, .int .i64 0] 36)).alloc (.cells #[.int .i64 0] 3)).heap[W5.heap.size]? = some (.cells #[.int .i64 0, .int .i64 0, .int .i64 0, .int .i64 0, .int .i64 0, .int .i64 0, .int .i64 0, .int .i64 0, .int .i64 0, .int .i64 0, .int .i64 0, .int .i64 0, .int .i64 0, .int .i64 0, .slice none 0 0, .int .i64 0, .slice none 0 0, .slice none 0 0, .slice none 0 0] 33) := ((Below.heap_alloc _ _ _ (by simp; omega)).trans (Below.heap_alloc _ _ _ (by simp))).trans (heap_alloc_new _ _); have HB12 := Go.Lib.hid hb12; clear hb12)
                | (with_reducible (show wpList _ _ _ (⟨none, Op.store 33 (Operand.tmp 12) _, _, _, _, _⟩ :: _) _ _); refine wpList_store_rowTo (o := ⟨none, .store 33 _ _, _, _, _, _⟩) rfl 33 (.tmp 12) (.tmp 73) rfl rfl W5.heap.size #[.int .i64 (x 0), .int .i64 (x 1), .int .i64 (x 2), .int .i64 (x 3), .int .i64 (x 4), .int .i64 (x 5), .int .i64 (x 6), .int .i64 (x 7), .int .i64 (x 8), .int .i64 (x 9), .int .i64 (x 10), .int .i64 (x 11), .int .i64 (x 12), .int .i64 (R3.clock : Int), vf5, .int .i64 (R3.tickets : Int), vn5, vb5, vw] rfl rfl 33 #[.int .i64 0, .int .i64 0, .int .i64 0, .int .i64 0, .int .i64 0, .int .i64 0, .int .i64 0, .int .i64 0, .int .i64 0, .int .i64 0, .int .i64 0, .int .i64 0, .int .i64 0, .int .i64 0, .slice none 0 0, .int .i64 0, .slice none 0 0, .slice none 0 0, .slice none 0 0] HB12.out (by kernel_rfl) rfl (by simp [show ∀ k n, (Value.int k n).oneCell' = true from fun _ _ => rfl, show ∀ a n c, (Value.slice a n c).oneCell' = true from fun _ _ _ => rfl, hvf, hvn, hvb, hvw]) ?_; refine Hid.out ?_)
                | fail)
              have b12 := setRow_heap (((W5.alloc (.cells #[.int .i64 0, .int .i64 0, .int .i64 0, .int .i64 0, .int .i64 0, .int .i64 0, .int .i64 0, .int .i64 0, .int .i64 0, .int .i64 0, .int .i64 0, .int .i64 0, .int .i64 0, .int .i64 0, .slice none 0 0, .int .i64 0, .slice none 0 0, .slice none 0 0, .slice none 0 0] 33)).alloc (.cells #[.int .i64 0, .int .i64 0] 36)).alloc (.cells #[.int .i64 0] 3)) W5.heap.size #[.int .i64 0, .int .i64 0, .int .i64 0, .int .i64 0, .int .i64 0, .int .i64 0, .int .i64 0, .int .i64 0, .int .i64 0, .int .i64 0, .int .i64 0, .int .i64 0, .int .i64 0, .int .i64 0, .slice none 0 0, .int .i64 0, .slice none 0 0, .slice none 0 0, .slice none 0 0] #[.int .i64 (x 0), .int .i64 (x 1), .int .i64 (x 2), .int .i64 (x 3), .int .i64 (x 4), .int .i64 (x 5), .int .i64 (x 6), .int .i64 (x 7), .int .i64 (x 8), .int .i64 (x 9), .int .i64 (x 10), .int .i64 (x 11), .int .i64 (x 12), .int .i64 (R3.clock : Int), vf5, .int .i64 (R3.tickets : Int), vn5, vb5, vw] 33 (0, 0) HB12.out
              have b13 : ((((W5.alloc (.cells #[.int .i64 0, .int .i64 0, .int .i64 0, .int .i64 0, .int .i64 0, .int .i64 0, .int .i64 0, .int .i64 0, .int .i64 0, .int .i64 0, .int .i64 0, .int .i64 0, .int .i64 0, .int .i64 0, .slice none 0 0, .int .i64 0, .slice none 0 0, .slice none 0 0, .slice none 0 0] 33)).alloc (.cells #[.int .i64 0, .int .i64 0] 36)).alloc (.cells #[.int .i64 0] 3)).setRow W5.heap.size #[.int .i64 (x 0), .int .i64 (x 1), .int .i64 (x 2), .int .i64 (x 3), .int .i64 (x 4), .int .i64 (x 5), .int .i64 (x 6), .int .i64 (x 7), .int .i64 (x 8), .int .i64 (x 9), .int .i64 (x 10), .int .i64 (x 11), .int .i64 (x 12), .int .i64 (R3.clock : Int), vf5, .int .i64 (R3.tickets : Int), vn5, vb5, vw]).heap[W5.heap.size + 1]? = some (.cells #[.int .i64 0, .int .i64 0] 36) := (setRow_other _ _ _ _ (by omega)).trans ((Below.heap_alloc _ _ _ (by simp)).trans (by have h := heap_alloc_new (W5.alloc (.cells #[.int .i64 0, .int .i64 0, .int .i64 0, .int .i64 0, .int .i64 0, .int .i64 0, .int .i64 0, .int .i64 0, .int .i64 0, .int .i64 0, .int .i64 0, .int .i64 0, .int .i64 0, .int .i64 0, .slice none 0 0, .int .i64 0, .slice none 0 0, .slice none 0 0, .slice none 0 0] 33)) (.cells #[.int .i64 0, .int .i64 0] 36); rw [World.size_alloc] at h; exact h))
              have b14 : ((((W5.alloc (.cells #[.int .i64 0, .int .i64 0, .int .i64 0, .int .i64 0, .int .i64 0, .int .i64 0, .int .i64 0, .int .i64 0, .int .i64 0, .int .i64 0, .int .i64 0, .int .i64 0, .int .i64 0, .int .i64 0, .slice none 0 0, .int .i64 0, .slice none 0 0, .slice none 0 0, .slice none 0 0] 33)).alloc (.cells #[.int .i64 0, .int .i64 0] 36)).alloc (.cells #[.int .i64 0] 3)).setRow W5.heap.size #[.int .i64 (x 0), .int .i64 (x 1), .int .i64 (x 2), .int .i64 (x 3), .int .i64 (x 4), .int .i64 (x 5), .int .i64 (x 6), .int .i64 (x 7), .int .i64 (x 8), .int .i64 (x 9), .int .i64 (x 10), .int .i64 (x 11), .int .i64 (x 12), .int .i64 (R3.clock : Int), vf5, .int .i64 (R3.tickets : Int), vn5, vb5, vw]).heap[W5.heap.size + 1 + 1]? = some (.cells #[.int .i64 0] 3) := (setRow_other _ _ _ _ (by omega)).trans (by have h := heap_alloc_new ((W5.alloc (.cells #[.int .i64 0, .int .i64 0, .int .i64 0, .int .i64 0, .int .i64 0, .int .i64 0, .int .i64 0, .int .i64 0, .int .i64 0, .int .i64 0, .int .i64 0, .int .i64 0, .int .i64 0, .int .i64 0, .slice none 0 0, .int .i64 0, .slice none 0 0, .slice none 0 0, .slice none 0 0] 33)).alloc (.cells #[.int .i64 0, .int .i64 0] 36)) (.cells #[.int .i64 0] 3); rw [World.size_alloc, World.size_alloc] at h; exact h)
              have hb6 : Below W5.heap.size W5 ((((W5.alloc (.cells #[.int .i64 0, .int .i64 0, .int .i64 0, .int .i64 0, .int .i64 0, .int .i64 0, .int .i64 0, .int .i64 0, .int .i64 0, .int .i64 0, .int .i64 0, .int .i64 0, .int .i64 0, .int .i64 0, .slice none 0 0, .int .i64 0, .slice none 0 0, .slice none 0 0, .slice none 0 0] 33)).alloc (.cells #[.int .i64 0, .int .i64 0] 36)).alloc (.cells #[.int .i64 0] 3)).setRow W5.heap.size #[.int .i64 (x 0), .int .i64 (x 1), .int .i64 (x 2), .int .i64 (x 3), .int .i64 (x 4), .int .i64 (x 5), .int .i64 (x 6), .int .i64 (x 7), .int .i64 (x 8), .int .i64 (x 9), .int .i64 (x 10), .int .i64 (x 11), .int .i64 (x 12), .int .i64 (R3.clock : Int), vf5, .int .i64 (R3.tickets : Int), vn5, vb5, vw]) := below_setRow ((((Below.refl _ _).alloc (Nat.le_refl _) _).alloc (by simp) _).alloc (by simp; omega) _) (Nat.le_refl _) _
              unfold Hid
              clear HB12
              generalize (((W5.alloc (.cells #[.int .i64 0, .int .i64 0, .int .i64 0, .int .i64 0, .int .i64 0, .int .i64 0, .int .i64 0, .int .i64 0, .int .i64 0, .int .i64 0, .int .i64 0, .int .i64 0, .int .i64 0, .int .i64 0, .slice none 0 0, .int .i64 0, .slice none 0 0, .slice none 0 0, .slice none 0 0] 33)).alloc (.cells #[.int .i64 0, .int .i64 0] 36)).alloc (.cells #[.int .i64 0] 3)).setRow W5.heap.size #[.int .i64 (x 0), .int .i64 (x 1), .int .i64 (x 2), .int .i64 (x 3), .int .i64 (x 4), .int .i64 (x 5), .int .i64 (x 6), .int .i64 (x 7), .int .i64 (x 8), .int .i64 (x 9), .int .i64 (x 10), .int .i64 (x 11), .int .i64 (x 12), .int .i64 (R3.clock : Int), vf5, .int .i64 (R3.tickets : Int), vn5, vb5, vw] = W6 at *
              have c0 : W6.cell? ⟨W5.heap.size + 1, 0, none⟩ = some (.int .i64 0) := cell_of_row _ _ _ _ _ _ b13
              have c1 : W6.cell? ⟨W5.heap.size + 1, 1, none⟩ = some (.int .i64 0) := cell_of_row _ _ _ _ _ _ b13
              have c2 : W6.cell? ⟨W5.heap.size + 1 + 1, 0, none⟩ = some (.int .i64 0) := cell_of_row _ _ _ _ _ _ b14
              have f0 : W6.frozen? ⟨W5.heap.size + 1, 0, none⟩ = false := frozen_of_row _ _ _ _ _ b13
              have f1 : W6.frozen? ⟨W5.heap.size + 1, 1, none⟩ = false := frozen_of_row _ _ _ _ _ b13
              have f2 : W6.frozen? ⟨W5.heap.size + 1 + 1, 0, none⟩ = false := frozen_of_row _ _ _ _ _ b14
              have HB12 := Go.Lib.hid b12; have HB13 := Go.Lib.hid b13; have HB14 := Go.Lib.hid b14; have HB6 := Go.Lib.hid hb6
              clear b12 b13 b14 hb6
              go_upto_region 15 with (fail)
              have hoff : ∀ b, b ≠ W5.heap.size + 1 → b ≠ W5.heap.size + 1 + 1 → (((W6.setCell ⟨W5.heap.size + 1, 0, none⟩ (.int .i64 nn)).setCell ⟨W5.heap.size + 1, 1, none⟩ (.int .i64 gg)).setCell ⟨W5.heap.size + 1 + 1, 0, none⟩ (.int .i64 ee)).heap[b]? = W6.heap[b]? := fun b h1 h2 => (Go.Deep.blk_setCell_other _ _ _ _ h2).trans ((Go.Deep.blk_setCell_other _ _ _ _ h1).trans (Go.Deep.blk_setCell_other _ _ _ _ h1))
              have b12 := (hoff W5.heap.size (by omega) (by omega)).trans HB12.out
              have b13 : (((W6.setCell ⟨W5.heap.size + 1, 0, none⟩ (.int .i64 nn)).setCell ⟨W5.heap.size + 1, 1, none⟩ (.int .i64 gg)).setCell ⟨W5.heap.size + 1 + 1, 0, none⟩ (.int .i64 ee)).heap[W5.heap.size + 1]? = some (.cells #[.int .i64 nn, .int .i64 gg] 36) := (Go.Deep.blk_setCell_other _ _ _ _ (by show W5.heap.size + 1 ≠ W5.heap.size + 1 + 1; omega)).trans (heap_set_same (j := 1) (v := .int .i64 gg) (heap_set_same (j := 0) (v := .int .i64 nn) HB13.out))
              have b14 : (((W6.setCell ⟨W5.heap.size + 1, 0, none⟩ (.int .i64 nn)).setCell ⟨W5.heap.size + 1, 1, none⟩ (.int .i64 gg)).setCell ⟨W5.heap.size + 1 + 1, 0, none⟩ (.int .i64 ee)).heap[W5.heap.size + 1 + 1]? = some (.cells #[.int .i64 ee] 3) := heap_set_same (j := 0) (v := .int .i64 ee) ((Go.Deep.blk_setCell_other _ _ _ _ (by show W5.heap.size + 1 + 1 ≠ W5.heap.size + 1; omega)).trans ((Go.Deep.blk_setCell_other _ _ _ _ (by show W5.heap.size + 1 + 1 ≠ W5.heap.size + 1; omega)).trans HB14.out))
              have hb7 : Below W5.heap.size W5 (((W6.setCell ⟨W5.heap.size + 1, 0, none⟩ (.int .i64 nn)).setCell ⟨W5.heap.size + 1, 1, none⟩ (.int .i64 gg)).setCell ⟨W5.heap.size + 1 + 1, 0, none⟩ (.int .i64 ee)) := ((HB6.out.setCell (by show W5.heap.size ≤ W5.heap.size + 1; omega) _).setCell (by show W5.heap.size ≤ W5.heap.size + 1; omega) _).setCell (by show W5.heap.size ≤ W5.heap.size + 1 + 1; omega) _
              have hb7w := HB5.out.trans (hb7.mono HB5.out.size)
              have hs7 := HS5.out.lt.keep fun b hb => hb7.block b hb.2
              have hsW5 := HB5.out.size
              clear c0 c1 c2 f0 f1 f2 HB12 HB13 HB14 HB6 HB5 HS5 hoff
              generalize (((W6.setCell ⟨W5.heap.size + 1, 0, none⟩ (.int .i64 nn)).setCell ⟨W5.heap.size + 1, 1, none⟩ (.int .i64 gg)).setCell ⟨W5.heap.size + 1 + 1, 0, none⟩ (.int .i64 ee)) = W7 at *
              generalize W5.heap.size = g12 at *
              have hg7 := HG2.out.below hb7w
              have he7 := HE2.out.below hb7w
              have hm7 := Below.row hb7w HM2.out
              have hbw7 := HB2.out.trans (hb7w.mono HB2.out.size)
              have h14 := heap_lt b14
              have HB12 := Go.Lib.hid b12; have HB13 := Go.Lib.hid b13; have HB14 := Go.Lib.hid b14; have HG7 := Go.Lib.hid hg7; have HE7 := Go.Lib.hid he7; have HM7 := Go.Lib.hid hm7; have HB7 := Go.Lib.hid hbw7; have HS7 := Go.Lib.hid hs7
              clear b12 b13 b14 hb7 hb7w hs7 hg7 he7 hm7 hbw7 HG2 HE2 HM2 HB2 HSH2 HST
              generalize (Value.agg #[.int .i64 (x 0), .int .i64 (x 1), .int .i64 (x 2), .int .i64 (x 3), .int .i64 (x 4), .int .i64 (x 5), .int .i64 (x 6), .int .i64 (x 7), .int .i64 (x 8), .int .i64 (x 9), .int .i64 (x 10), .int .i64 (x 11), .int .i64 (x 12), .int .i64 (R.clock : Int), vf, .int .i64 (R.tickets : Int), vn, vb, vw]) = vz2
              go_upto_region 16 with (first
                | (with_reducible (show wpList _ _ _ (⟨some 76, _, _, _, _, _⟩ :: _) _ _); refine wpList_load_row (o := ⟨some 76, .load 33 _, _, _, _, _⟩) rfl 33 (.tmp 12) rfl g12 rfl 33 #[.int .i64 (x 0), .int .i64 (x 1), .int .i64 (x 2), .int .i64 (x 3), .int .i64 (x 4), .int .i64 (x 5), .int .i64 (x 6), .int .i64 (x 7), .int .i64 (x 8), .int .i64 (x 9), .int .i64 (x 10), .int .i64 (x 11), .int .i64 (x 12), .int .i64 (R3.clock : Int), vf5, .int .i64 (R3.tickets : Int), vn5, vb5, vw] (0, 0) _ HB12.out Tryz.underlying33 rfl (by kernel_rfl) ?_)
                | (with_reducible (show wpList _ _ _ (⟨none, Op.store 33 (Operand.tmp 8) _, _, _, _, _⟩ :: _) _ _); refine wpList_store_rowTo (o := ⟨none, .store 33 _ _, _, _, _, _⟩) rfl 33 (.tmp 8) (.tmp 76) rfl rfl mb #[.int .i64 (x 0), .int .i64 (x 1), .int .i64 (x 2), .int .i64 (x 3), .int .i64 (x 4), .int .i64 (x 5), .int .i64 (x 6), .int .i64 (x 7), .int .i64 (x 8), .int .i64 (x 9), .int .i64 (x 10), .int .i64 (x 11), .int .i64 (x 12), .int .i64 (R3.clock : Int), vf5, .int .i64 (R3.tickets : Int), vn5, vb5, vw] rfl rfl 33 #[.int .i64 (x 0), .int .i64 (x 1), .int .i64 (x 2), .int .i64 (x 3), .int .i64 (x 4), .int .i64 (x 5), .int .i64 (x 6), .int .i64 (x 7), .int .i64 (x 8), .int .i64 (x 9), .int .i64 (x 10), .int .i64 (x 11), .int .i64 (x 12), .int .i64 (R.clock : Int), vf, .int .i64 (R.tickets : Int), vn, vb, vw] HM7.out (by kernel_rfl) rfl (by simp [show ∀ k n, (Value.int k n).oneCell' = true from fun _ _ => rfl, show ∀ a n c, (Value.slice a n c).oneCell' = true from fun _ _ _ => rfl, hvf, hvn, hvb, hvw]) ?_; refine Hid.out ?_)
                | fail)
              have hoff : ∀ b, b ≠ mb → (W7.setRow mb #[.int .i64 (x 0), .int .i64 (x 1), .int .i64 (x 2), .int .i64 (x 3), .int .i64 (x 4), .int .i64 (x 5), .int .i64 (x 6), .int .i64 (x 7), .int .i64 (x 8), .int .i64 (x 9), .int .i64 (x 10), .int .i64 (x 11), .int .i64 (x 12), .int .i64 (R3.clock : Int), vf5, .int .i64 (R3.tickets : Int), vn5, vb5, vw]).heap[b]? = W7.heap[b]? := fun b hb => setRow_other _ _ _ _ hb
              have b13 := (hoff (g12 + 1) (by omega)).trans HB13.out
              have b14 := (hoff (g12 + 1 + 1) (by omega)).trans HB14.out
              have bm8 := setRow_heap W7 mb #[.int .i64 (x 0), .int .i64 (x 1), .int .i64 (x 2), .int .i64 (x 3), .int .i64 (x 4), .int .i64 (x 5), .int .i64 (x 6), .int .i64 (x 7), .int .i64 (x 8), .int .i64 (x 9), .int .i64 (x 10), .int .i64 (x 11), .int .i64 (x 12), .int .i64 (R.clock : Int), vf, .int .i64 (R.tickets : Int), vn, vb, vw] #[.int .i64 (x 0), .int .i64 (x 1), .int .i64 (x 2), .int .i64 (x 3), .int .i64 (x 4), .int .i64 (x 5), .int .i64 (x 6), .int .i64 (x 7), .int .i64 (x 8), .int .i64 (x 9), .int .i64 (x 10), .int .i64 (x 11), .int .i64 (x 12), .int .i64 (R3.clock : Int), vf5, .int .i64 (R3.tickets : Int), vn5, vb5, vw] 33 (0, 0) HM7.out
              have hg8 := HG7.out.setRow (b := mb) HLM2.out (by show mb ≠ ep; omega) #[.int .i64 (x 0), .int .i64 (x 1), .int .i64 (x 2), .int .i64 (x 3), .int .i64 (x 4), .int .i64 (x 5), .int .i64 (x 6), .int .i64 (x 7), .int .i64 (x 8), .int .i64 (x 9), .int .i64 (x 10), .int .i64 (x 11), .int .i64 (x 12), .int .i64 (R3.clock : Int), vf5, .int .i64 (R3.tickets : Int), vn5, vb5, vw]
              have he8 := HE7.out.off (b := mb) (w' := W7.setRow mb #[.int .i64 (x 0), .int .i64 (x 1), .int .i64 (x 2), .int .i64 (x 3), .int .i64 (x 4), .int .i64 (x 5), .int .i64 (x 6), .int .i64 (x 7), .int .i64 (x 8), .int .i64 (x 9), .int .i64 (x 10), .int .i64 (x 11), .int .i64 (x 12), .int .i64 (R3.clock : Int), vf5, .int .i64 (R3.tickets : Int), vn5, vb5, vw]) (fun p hp => (List.mem_cons.1 hp).elim (fun e => by rw [e]; exact hxm) (fun h => by rw [List.mem_singleton.1 h]; exact hcm)) (by rw [size_setRow]; exact Nat.le_refl _) hoff
              have hb8 := below_setRow HB7.out (show w.heap.size ≤ mb by omega) #[.int .i64 (x 0), .int .i64 (x 1), .int .i64 (x 2), .int .i64 (x 3), .int .i64 (x 4), .int .i64 (x 5), .int .i64 (x 6), .int .i64 (x 7), .int .i64 (x 8), .int .i64 (x 9), .int .i64 (x 10), .int .i64 (x 11), .int .i64 (x 12), .int .i64 (R3.clock : Int), vf5, .int .i64 (R3.tickets : Int), vn5, vb5, vw]
              have hs8 := (HS7.out.keep (w' := W7.setRow mb #[.int .i64 (x 0), .int .i64 (x 1), .int .i64 (x 2), .int .i64 (x 3), .int .i64 (x 4), .int .i64 (x 5), .int .i64 (x 6), .int .i64 (x 7), .int .i64 (x 8), .int .i64 (x 9), .int .i64 (x 10), .int .i64 (x 11), .int .i64 (x 12), .int .i64 (R3.clock : Int), vf5, .int .i64 (R3.tickets : Int), vn5, vb5, vw]) fun b hb => hoff b (hb.1.elim (fun h => h.2.1) fun h => by omega)).mono (K' := KL L mb ep (W7.setRow mb #[.int .i64 (x 0), .int .i64 (x 1), .int .i64 (x 2), .int .i64 (x 3), .int .i64 (x 4), .int .i64 (x 5), .int .i64 (x 6), .int .i64 (x 7), .int .i64 (x 8), .int .i64 (x 9), .int .i64 (x 10), .int .i64 (x 11), .int .i64 (x 12), .int .i64 (R3.clock : Int), vf5, .int .i64 (R3.tickets : Int), vn5, vb5, vw]).heap.size) fun b hb => by
                have hlt : b < (W7.setRow mb #[.int .i64 (x 0), .int .i64 (x 1), .int .i64 (x 2), .int .i64 (x 3), .int .i64 (x 4), .int .i64 (x 5), .int .i64 (x 6), .int .i64 (x 7), .int .i64 (x 8), .int .i64 (x 9), .int .i64 (x 10), .int .i64 (x 11), .int .i64 (x 12), .int .i64 (R3.clock : Int), vf5, .int .i64 (R3.tickets : Int), vn5, vb5, vw]).heap.size := by rw [size_setRow]; have := hb.2; omega
                exact hb.1.elim (fun h => ⟨h.1, h.2.1, h.2.2.1, hlt⟩) fun h => ⟨HNW.out b h, by omega, by omega, hlt⟩
              unfold Hid
              clear HB12 HB13 HB14 HG7 HE7 HM7 HB7 HS7 hoff
              generalize W7.setRow mb #[.int .i64 (x 0), .int .i64 (x 1), .int .i64 (x 2), .int .i64 (x 3), .int .i64 (x 4), .int .i64 (x 5), .int .i64 (x 6), .int .i64 (x 7), .int .i64 (x 8), .int .i64 (x 9), .int .i64 (x 10), .int .i64 (x 11), .int .i64 (x 12), .int .i64 (R3.clock : Int), vf5, .int .i64 (R3.tickets : Int), vn5, vb5, vw] = W8 at *
              generalize (Value.agg #[.int .i64 (x 0), .int .i64 (x 1), .int .i64 (x 2), .int .i64 (x 3), .int .i64 (x 4), .int .i64 (x 5), .int .i64 (x 6), .int .i64 (x 7), .int .i64 (x 8), .int .i64 (x 9), .int .i64 (x 10), .int .i64 (x 11), .int .i64 (x 12), .int .i64 (R3.clock : Int), vf5, .int .i64 (R3.tickets : Int), vn5, vb5, vw]) = vz3
              have HS8 := Go.Lib.hid hs8; have HM8 := Go.Lib.hid bm8
              have he9 := Env.row (Env.row he8 b14 (HNW.out _ (by omega))) b13 (HNW.out _ (by omega))
              obtain ⟨hg9, hs9⟩ := hg8.newR [.bool false] 4
              have hs8sz := heap_lt bm8
              clear b13 b14 bm8 hs8 he8
              go_upto_region 17 with (fail)
              generalize (fun b => if b = W8.heap.size then 5 else L b) = L9 at *
              have hs9' := KL.shr HS8.out hs9.size (fun b hb h0 => hs9.block b hb (.inl h0)) hs9.lab
              have hm9 := (hs9.block mb hs8sz (.inl HLM2.out)).trans HM8.out
              have hlm9 := (hs9.lab mb hs8sz).trans HLM2.out
              have he9' := he9.shr hs9
              have hb9 := hs9.below_old hb8 (Nat.le_refl _) HOL2.out
              have hol9 := fun b (hb : b < w.heap.size) => (hs9.lab b (Nat.lt_of_lt_of_le hb hb8.size)).trans (HOL2.out b hb)
              have hknow : (S.newR W8.heap.size [.bool false]).knows (W8.heap.size, 0) := St.newR_knows S W8.heap.size [.bool false] (by decide)
              have hsd := start_done (R := R) (fn := fn) (ft := ft) (bx := bx) (wk := (km : Int)) (ticks := tm) (shard := arg) (user := us') hok (show (S.newR W8.heap.size [.bool false]).n = cf.size from HSN2.out) HRE2.out (by have := HDB.out.2.2.2; omega) hknow ht30 (by have := HCN2.out; show S.cnt ≤ _; omega) (by have := HLO2.out; show S.log.length ≤ _; omega)
              rw [← HR3.out] at hsd
              obtain ⟨m, T, fn', ft', bx', hm1, hm2, hrun, hrelT, hTn, hTc, hTl, hTr⟩ := hsd
              replace hTn : T.n = S.n := hTn
              replace hTc : T.cnt ≤ S.cnt + 260 := hTc
              replace hTl : T.log.length ≤ S.log.length + 1 := hTl
              have hckT : R3.clock ≤ j + 1 := by have h := startR_clock cf.slack R tm arg us'; rw [← HR3.out] at h; have h : R3.clock = R.clock := h; have := HCK2.out; omega
              clear hs9 he9 hb8 hs8sz HS8 HM8 hg8 hknow
              generalize (W8.alloc (.cells #[.bool false] 4)) = W9 at *
              generalize W8.heap.size = ob at *
              dsimp only at hrun hrelT
              have HGN := Go.Lib.hid hg9; have HSX := Go.Lib.hid hs9'; have HMX := Go.Lib.hid hm9; have HLX := Go.Lib.hid hlm9; have HEX := Go.Lib.hid he9'; have HBX := Go.Lib.hid hb9; have HOX := Go.Lib.hid hol9; have HRUN := Go.Lib.hid hrun; have HRT := Go.Lib.hid hrelT; have HTN := Go.Lib.hid hTn; have HTC := Go.Lib.hid hTc; have HTL := Go.Lib.hid hTl; have HTR := Go.Lib.hid hTr; have HCT := Go.Lib.hid hckT
              clear hg9 hs9' hm9 hlm9 he9' hb9 hol9 hrun hrelT hTn hTc hTl hTr hckT HLM2 HOL2 HRE2 HCK2 HR3
              have HDO := Go.Lib.hid (start_any (t := 0) (m := 410) (E := ⟨ek, ep, ea, ec, cf⟩) (wk := (km : Int)) (ticks := tm) (shard := arg) (user := us') (prApp_mono cf _ (heR_mono nn gg ee)) HGN.out (law16_alone1 (E := ⟨ek, ep, ea, ec, cf⟩) (ob := ob) (HEX.out.sub (env' := [(g12 + 1, [.int .i64 nn, .int .i64 gg]), (g12 + 1 + 1, [.int .i64 ee])]) (by simp))) (by omega) (by have := HDB.out.2.1; omega))
              have q3 : W9.cell? ⟨xb, 3, none⟩ = some (.int .i64 tm) := HEX.out.cell 2 3 rfl rfl
              have q4 : W9.cell? ⟨xb, 4, none⟩ = some (.int .i64 arg) := HEX.out.cell 2 4 rfl rfl
              have q5 : W9.cell? ⟨xb, 5, none⟩ = some (.int .i64 us') := HEX.out.cell 2 5 rfl rfl
              go_wp2_with fail
              clear q3 q4 q5
              refine HDO.out.mono ?_
              rintro e w7 ⟨v, L7, rfl, hd7, hg7, hc7⟩
              have HG7 := Go.Lib.hid hg7
              have HC7 := Go.Lib.hid hc7
              obtain ⟨f, cap, rfl, _, _⟩ := hc7
              have HD7 := Go.Lib.hid hd7
              clear hd7 hg7 HDO
              have HT := Go.Lib.hid (HG7.out.task 0 (.func (.func f) #[] cap) 142)
              go_wp2_with fail
              refine (step_New f #[] cap w7).mono ?_
              rintro e w8 ⟨rfl, rfl⟩
              generalize (fun b => if b = w7.heap.size then 5000 + 0 else L7 b) = L8 at *
              have hd8 : DidP (TP 0) L7 w7 L8 (w7.alloc (.cells #[.func (.func f) #[] cap, .int .i64 0] 142)) := ⟨rfl, rfl, rfl, by simp, fun b hb _ => Below.heap_alloc _ _ _ hb, HT.out.2.2.lab⟩
              have hdd := HD7.out.toP.trans hd8
              have HK8 := Go.Lib.hid (CodeSim.ext cf (prApp cf (heR nn gg ee)) _ 0 HC7.out HT.out.2.2)
              have HE8 := Go.Lib.hid ((HEX.out.toDidP hdd).sub (env' := [(cb, [.int .i64 (x 0), .int .i64 (x 1), .int .i64 (x 2), .int .i64 (x 3), .int .i64 (x 4), .int .i64 (x 5), .int .i64 (x 6), .int .i64 (x 7), .int .i64 (x 8), .int .i64 (x 9), .int .i64 (x 10), .int .i64 (x 11), .int .i64 (x 12)])]) (by simp))
              have HB8 := Go.Lib.hid (hdd.below_old HBX.out (Nat.le_refl _) HOX.out)
              have HOL8 : Hid (∀ b, b < w.heap.size → L8 b = 0) := Go.Lib.hid (fun b hb => (hdd.lab b (Nat.lt_of_lt_of_le hb HBX.out.size)).trans (HOX.out b hb))
              have hml := heap_lt HMX.out
              have HM8 := Go.Lib.hid ((hdd.block mb hml (by rw [HLX.out]; unfold TP; omega)).trans HMX.out)
              have HL8 := Go.Lib.hid ((hdd.lab mb hml).trans HLX.out)
              have HS8 := Go.Lib.hid (KL.shr HSX.out hdd.size (fun b hb h0 => hdd.block b hb (by rw [h0]; unfold TP; omega)) hdd.lab)
              clear hd8 hdd HC7 HEX HBX HOX HD7 HG7 HMX HLX HSX hml HGN
              generalize (w7.alloc (.cells #[.func (.func f) #[] cap, .int .i64 0] 142)) = W10 at *
              generalize w7.heap.size = tb at *
              have qc4 : W10.cell? ⟨cb, 4, none⟩ = some (.int .i64 (cf.tickets : Int)) := by rw [← HX.out.2.2.1]; exact HE8.out.cell 0 4 rfl rfl
              have hw1 : IntKind.i64.wrap (10 * (cf.tickets : Int)) = 10 * (cf.tickets : Int) := IntWalk.i64_in _ (by omega)
              have hw2 : IntKind.i64.wrap (60 + 10 * (cf.tickets : Int)) = ((60 + 10 * cf.tickets : Nat) : Int) := by rw [IntWalk.i64_in _ (by omega)]; omega
              have hmm := hm2
              go_wp2_with fail
              clear qc4 hw1 hw2
              have HF : Calls Tryz.prog 20 #[.pointer (some ⟨tb, 0, none⟩), .int .i64 ((60 + 10 * cf.tickets : Nat) : Int)] W10 _ := task_finish (most := 60 + 10 * cf.tickets) HT.out.1 HT.out.2.1 (by decide) (by omega) (by omega) (by decide) (CodeSim.le cf (prApp cf (heR nn gg ee)) _ 0 HK8.out (by omega)) HRUN.out
              refine HF.mono ?_
              rintro e w9 ⟨v', L10, rfl, hg10, hd10, ht10⟩
              have hans := hg10.reads HTR.out
              have hml := heap_lt HM8.out
              have HE10 := Go.Lib.hid (HE8.out.toDidP hd10)
              have HB10 := Go.Lib.hid (hd10.below_old HB8.out (Nat.le_refl _) HOL8.out)
              have HOL10 : Hid (∀ b, b < w.heap.size → L10 b = 0) := Go.Lib.hid (fun b hb => (hd10.lab b (Nat.lt_of_lt_of_le hb HB8.out.size)).trans (HOL8.out b hb))
              have HM10 := Go.Lib.hid ((hd10.block mb hml (by rw [HL8.out]; unfold TP; omega)).trans HM8.out)
              have HL10 := Go.Lib.hid ((hd10.lab mb hml).trans HL8.out)
              have hs10 := KL.shr HS8.out hd10.size (fun b hb h0 => hd10.block b hb (by rw [h0]; unfold TP; omega)) hd10.lab
              rw [Nat.zero_add] at ht10
              have HSTP := Go.Lib.hid (task_steps ht10)
              have HIS := Go.Lib.hid (law16_Is hg10 (HTN.out.trans HSN2.out) HRT.out x vw _ (KL L10 mb ep w9.heap.size) hs10 KL.lt)
              have HS10 := Go.Lib.hid hs10
              have hst1 : decide ((m : Int) < 1) = false := by simp; omega
              have hst2 : ((m : Int) < 1) = False := by simp; omega
              have HG10 := Go.Lib.hid hg10
              clear hg10 hd10 ht10 hs10 HF HT HK8 HE8 HB8 HOL8 HM8 HL8 HS8 HRUN HTR hml
              go_upto_region 20 with (first
                | (with_reducible (show wpList _ _ _ (⟨some 110, _, _, _, _, _⟩ :: _) _ _); refine wpList_load_row_g (o := ⟨some 110, .load 33 _, _, _, _, _⟩) (by kernel_rfl) 33 (.tmp 8) rfl mb rfl 33 #[.int .i64 (x 0), .int .i64 (x 1), .int .i64 (x 2), .int .i64 (x 3), .int .i64 (x 4), .int .i64 (x 5), .int .i64 (x 6), .int .i64 (x 7), .int .i64 (x 8), .int .i64 (x 9), .int .i64 (x 10), .int .i64 (x 11), .int .i64 (x 12), .int .i64 (R3.clock : Int), vf5, .int .i64 (R3.tickets : Int), vn5, vb5, vw] (0, 0) _ HM10.out Tryz.underlying33 rfl (by kernel_rfl) ?_)
                | (go_at_call 21; refine HSTP.out.mono ?_; rintro e w11 ⟨rfl, hw⟩; subst hw)
                | (go_at_call 22; refine HIS.out.mono ?_; rintro e w12 ⟨rfl, hb12⟩; have HB12 := Go.Lib.hid hb12; clear hb12)
                | fail)
              go_wp2
              have e1 : (j : Int) + 1 = ((j + 1 : Nat) : Int) := by omega
              exact ⟨⟨j + 1, T, L10, R3, fn', ft', bx', #[.int .i64 (x 0), .int .i64 (x 1), .int .i64 (x 2), .int .i64 (x 3), .int .i64 (x 4), .int .i64 (x 5), .int .i64 (x 6), .int .i64 (x 7), .int .i64 (x 8), .int .i64 (x 9), .int .i64 (x 10), .int .i64 (x 11), .int .i64 (x 12), .int .i64 (R3.clock : Int), vf5, .int .i64 (R3.tickets : Int), vn5, vb5, vw], by rw [e1], by omega, HG10.out.below HB12.out, HTN.out.trans HSN2.out, HRT.out, by have := HTC.out; have := HCN2.out; omega, by have := HTL.out; have := HLO2.out; omega, HB10.out.trans (HB12.out.mono HB10.out.size), HOL10.out, HE10.out.below HB12.out, HCT.out, Below.row HB12.out HM10.out, HL10.out, KL.shr HS10.out HB12.out.size (fun b hb _ => HB12.out.block b hb) (fun _ _ => rfl)⟩, by show ds.length - ((j : Int) + 1).toNat < ds.length - (j : Int).toNat; omega⟩
          · have ht1 : decide ((j : Int) < (ts.length : Int)) = false := by simp; omega
            go_upto_region 14 with (fail)
            have HCN2 := Go.Lib.hid (show S.cnt ≤ 300 * j + 1 by have := HCN.out; omega)
            have HLO2 := Go.Lib.hid (show S.log.length ≤ 2 * j + 1 by have := HLO.out; omega)
            have HCK2 := Go.Lib.hid (show R.clock ≤ j + 1 by have := HCK.out; omega)
            clear HCN HLO HCK
            have HG2 := HG1
            have HRE2 := HRE1
            have HSN2 := HSN
            have HB2 := HBW
            have HOL2 := HOL
            have HE2 := HE1
            have HM2 := HM
            have HLM2 := HLM
            have HSH2 := HSH
            clear HG1 HRE1 HSN HBW HOL HE1 HM HLM HSH
            obtain ⟨⟨vf, vn, vb, us, hcs, hf, hno, hbx⟩, _⟩ := id HSH2.out
            injection hcs with hcs
            rw [hcs] at HM2 HSH2
            clear hcs
            have hvf := KRows.one hf
            have hvn := KRows.one hno
            have hvb := hbx.outer.one
            have HST := Go.Lib.hid (ref16_Start cf.slack x HX.out.2.2.2.1 R (FitsR.of HRE2.out (by omega) (by omega) (by omega)) vw _ (KL L mb ep W1.heap.size) tm arg us' W1 HSH2.out KL.lt ⟨HDB.out.1, by have := HDB.out.2.1; omega⟩ ⟨HDB.out.2.2.1, by have := HDB.out.2.2.2; omega⟩)
            obtain ⟨r3, hr3⟩ : ∃ r3, r3 = (startR cf.slack R tm arg us') := ⟨_, rfl⟩
            rw [← hr3] at HST
            obtain ⟨R3, nn, gg, ee⟩ := r3
            have HR3 := Go.Lib.hid hr3
            clear hr3
            have q3 : W1.cell? ⟨xb, 3, none⟩ = some (.int .i64 tm) := HE2.out.cell 0 3 rfl rfl
            have q4 : W1.cell? ⟨xb, 4, none⟩ = some (.int .i64 arg) := HE2.out.cell 0 4 rfl rfl
            have q5 : W1.cell? ⟨xb, 5, none⟩ = some (.int .i64 us') := HE2.out.cell 0 5 rfl rfl
            have hmW := heap_lt HM2.out
            have HNW := Go.Lib.hid (HG2.out.new)
            clear hf hno hbx
            go_upto_region 15 with (first
              | (with_reducible (show wpList _ _ _ (⟨some 65, _, _, _, _, _⟩ :: _) _ _); refine wpList_load_row (o := ⟨some 65, .load 33 _, _, _, _, _⟩) rfl 33 (.tmp 8) rfl mb rfl 33 #[.int .i64 (x 0), .int .i64 (x 1), .int .i64 (x 2), .int .i64 (x 3), .int .i64 (x 4), .int .i64 (x 5), .int .i64 (x 6), .int .i64 (x 7), .int .i64 (x 8), .int .i64 (x 9), .int .i64 (x 10), .int .i64 (x 11), .int .i64 (x 12), .int .i64 (R.clock : Int), vf, .int .i64 (R.tickets : Int), vn, vb, vw] (0, 0) _ HM2.out Tryz.underlying33 rfl (by kernel_rfl) ?_; simp only [Act.put, List.setIfInBounds_toArray, List.set_cons_succ, List.set_cons_zero])
              | (go_at_call 16; refine HST.out.mono ?_; rintro e W5 hse; obtain ⟨v5, rfl, hsh5, hb5⟩ := hse; obtain ⟨⟨vf5, vn5, vb5, us5, rfl, hf5, hno5, hbx5⟩, _⟩ := id hsh5; have hvf := KRows.one hf5; have hvn := KRows.one hno5; have hvb := hbx5.outer.one; have HS5 := Go.Lib.hid hsh5; have HB5 := Go.Lib.hid hb5; clear hsh5 hb5 hf5 hno5 hbx5 q3 q4 q5; have hb12 : (((W5.alloc (.cells #[.int .i64 0, .int .i64 0, .int .i64 0, .int .i64 0, .int .i64 0, .int .i64 0, .int .i64 0, .int .i64 0, .int .i64 0, .int .i64 0, .int .i64 0, .int .i64 0, .int .i64 0, .int .i64 0, .slice none 0 0, .int .i64 0, .slice none 0 0, .slice none 0 0, .slice none 0 0] 33)).alloc (.cells #[.int .i64 0, .int .i64 0] 36)).alloc (.cells #[.int .i64 0] 3)).heap[W5.heap.size]? = some (.cells #[.int .i64 0, .int .i64 0, .int .i64 0, .int .i64 0, .int .i64 0, .int .i64 0, .int .i64 0, .int .i64 0, .int .i64 0, .int .i64 0, .int .i64 0, .int .i64 0, .int .i64 0, .int .i64 0, .slice none 0 0, .int .i64 0, .slice none 0 0, .slice none 0 0, .slice none 0 0] 33) := ((Below.heap_alloc _ _ _ (by simp; omega)).trans (Below.heap_alloc _ _ _ (by simp))).trans (heap_alloc_new _ _); have HB12 := Go.Lib.hid hb12; clear hb12)
              | (with_reducible (show wpList _ _ _ (⟨none, Op.store 33 (Operand.tmp 12) _, _, _, _, _⟩ :: _) _ _); refine wpList_store_rowTo (o := ⟨none, .store 33 _ _, _, _, _, _⟩) rfl 33 (.tmp 12) (.tmp 73) rfl rfl W5.heap.size #[.int .i64 (x 0), .int .i64 (x 1), .int .i64 (x 2), .int .i64 (x 3), .int .i64 (x 4), .int .i64 (x 5), .int .i64 (x 6), .int .i64 (x 7), .int .i64 (x 8), .int .i64 (x 9), .int .i64 (x 10), .int .i64 (x 11), .int .i64 (x 12), .int .i64 (R3.clock : Int), vf5, .int .i64 (R3.tickets : Int), vn5, vb5, vw] rfl rfl 33 #[.int .i64 0, .int .i64 0, .int .i64 0, .int .i64 0, .int .i64 0, .int .i64 0, .int .i64 0, .int .i64 0, .int .i64 0, .int .i64 0, .int .i64 0, .int .i64 0, .int .i64 0, .int .i64 0, .slice none 0 0, .int .i64 0, .slice none 0 0, .slice none 0 0, .slice none 0 0] HB12.out (by kernel_rfl) rfl (by simp [show ∀ k n, (Value.int k n).oneCell' = true from fun _ _ => rfl, show ∀ a n c, (Value.slice a n c).oneCell' = true from fun _ _ _ => rfl, hvf, hvn, hvb, hvw]) ?_; refine Hid.out ?_)
              | fail)
            have b12 := setRow_heap (((W5.alloc (.cells #[.int .i64 0, .int .i64 0, .int .i64 0, .int .i64 0, .int .i64 0, .int .i64 0, .int .i64 0, .int .i64 0, .int .i64 0, .int .i64 0, .int .i64 0, .int .i64 0, .int .i64 0, .int .i64 0, .slice none 0 0, .int .i64 0, .slice none 0 0, .slice none 0 0, .slice none 0 0] 33)).alloc (.cells #[.int .i64 0, .int .i64 0] 36)).alloc (.cells #[.int .i64 0] 3)) W5.heap.size #[.int .i64 0, .int .i64 0, .int .i64 0, .int .i64 0, .int .i64 0, .int .i64 0, .int .i64 0, .int .i64 0, .int .i64 0, .int .i64 0, .int .i64 0, .int .i64 0, .int .i64 0, .int .i64 0, .slice none 0 0, .int .i64 0, .slice none 0 0, .slice none 0 0, .slice none 0 0] #[.int .i64 (x 0), .int .i64 (x 1), .int .i64 (x 2), .int .i64 (x 3), .int .i64 (x 4), .int .i64 (x 5), .int .i64 (x 6), .int .i64 (x 7), .int .i64 (x 8), .int .i64 (x 9), .int .i64 (x 10), .int .i64 (x 11), .int .i64 (x 12), .int .i64 (R3.clock : Int), vf5, .int .i64 (R3.tickets : Int), vn5, vb5, vw] 33 (0, 0) HB12.out
            have b13 : ((((W5.alloc (.cells #[.int .i64 0, .int .i64 0, .int .i64 0, .int .i64 0, .int .i64 0, .int .i64 0, .int .i64 0, .int .i64 0, .int .i64 0, .int .i64 0, .int .i64 0, .int .i64 0, .int .i64 0, .int .i64 0, .slice none 0 0, .int .i64 0, .slice none 0 0, .slice none 0 0, .slice none 0 0] 33)).alloc (.cells #[.int .i64 0, .int .i64 0] 36)).alloc (.cells #[.int .i64 0] 3)).setRow W5.heap.size #[.int .i64 (x 0), .int .i64 (x 1), .int .i64 (x 2), .int .i64 (x 3), .int .i64 (x 4), .int .i64 (x 5), .int .i64 (x 6), .int .i64 (x 7), .int .i64 (x 8), .int .i64 (x 9), .int .i64 (x 10), .int .i64 (x 11), .int .i64 (x 12), .int .i64 (R3.clock : Int), vf5, .int .i64 (R3.tickets : Int), vn5, vb5, vw]).heap[W5.heap.size + 1]? = some (.cells #[.int .i64 0, .int .i64 0] 36) := (setRow_other _ _ _ _ (by omega)).trans ((Below.heap_alloc _ _ _ (by simp)).trans (by have h := heap_alloc_new (W5.alloc (.cells #[.int .i64 0, .int .i64 0, .int .i64 0, .int .i64 0, .int .i64 0, .int .i64 0, .int .i64 0, .int .i64 0, .int .i64 0, .int .i64 0, .int .i64 0, .int .i64 0, .int .i64 0, .int .i64 0, .slice none 0 0, .int .i64 0, .slice none 0 0, .slice none 0 0, .slice none 0 0] 33)) (.cells #[.int .i64 0, .int .i64 0] 36); rw [World.size_alloc] at h; exact h))
            have b14 : ((((W5.alloc (.cells #[.int .i64 0, .int .i64 0, .int .i64 0, .int .i64 0, .int .i64 0, .int .i64 0, .int .i64 0, .int .i64 0, .int .i64 0, .int .i64 0, .int .i64 0, .int .i64 0, .int .i64 0, .int .i64 0, .slice none 0 0, .int .i64 0, .slice none 0 0, .slice none 0 0, .slice none 0 0] 33)).alloc (.cells #[.int .i64 0, .int .i64 0] 36)).alloc (.cells #[.int .i64 0] 3)).setRow W5.heap.size #[.int .i64 (x 0), .int .i64 (x 1), .int .i64 (x 2), .int .i64 (x 3), .int .i64 (x 4), .int .i64 (x 5), .int .i64 (x 6), .int .i64 (x 7), .int .i64 (x 8), .int .i64 (x 9), .int .i64 (x 10), .int .i64 (x 11), .int .i64 (x 12), .int .i64 (R3.clock : Int), vf5, .int .i64 (R3.tickets : Int), vn5, vb5, vw]).heap[W5.heap.size + 1 + 1]? = some (.cells #[.int .i64 0] 3) := (setRow_other _ _ _ _ (by omega)).trans (by have h := heap_alloc_new ((W5.alloc (.cells #[.int .i64 0, .int .i64 0, .int .i64 0, .int .i64 0, .int .i64 0, .int .i64 0, .int .i64 0, .int .i64 0, .int .i64 0, .int .i64 0, .int .i64 0, .int .i64 0, .int .i64 0, .int .i64 0, .slice none 0 0, .int .i64 0, .slice none 0 0, .slice none 0 0, .slice none 0 0] 33)).alloc (.cells #[.int .i64 0, .int .i64 0] 36)) (.cells #[.int .i64 0] 3); rw [World.size_alloc, World.size_alloc] at h; exact h)
            have hb6 : Below W5.heap.size W5 ((((W5.alloc (.cells #[.int .i64 0, .int .i64 0, .int .i64 0, .int .i64 0, .int .i64 0, .int .i64 0, .int .i64 0, .int .i64 0, .int .i64 0, .int .i64 0, .int .i64 0, .int .i64 0, .int .i64 0, .int .i64 0, .slice none 0 0, .int .i64 0, .slice none 0 0, .slice none 0 0, .slice none 0 0] 33)).alloc (.cells #[.int .i64 0, .int .i64 0] 36)).alloc (.cells #[.int .i64 0] 3)).setRow W5.heap.size #[.int .i64 (x 0), .int .i64 (x 1), .int .i64 (x 2), .int .i64 (x 3), .int .i64 (x 4), .int .i64 (x 5), .int .i64 (x 6), .int .i64 (x 7), .int .i64 (x 8), .int .i64 (x 9), .int .i64 (x 10), .int .i64 (x 11), .int .i64 (x 12), .int .i64 (R3.clock : Int), vf5, .int .i64 (R3.tickets : Int), vn5, vb5, vw]) := below_setRow ((((Below.refl _ _).alloc (Nat.le_refl _) _).alloc (by simp) _).alloc (by simp; omega) _) (Nat.le_refl _) _
            unfold Hid
            clear HB12
            generalize (((W5.alloc (.cells #[.int .i64 0, .int .i64 0, .int .i64 0, .int .i64 0, .int .i64 0, .int .i64 0, .int .i64 0, .int .i64 0, .int .i64 0, .int .i64 0, .int .i64 0, .int .i64 0, .int .i64 0, .int .i64 0, .slice none 0 0, .int .i64 0, .slice none 0 0, .slice none 0 0, .slice none 0 0] 33)).alloc (.cells #[.int .i64 0, .int .i64 0] 36)).alloc (.cells #[.int .i64 0] 3)).setRow W5.heap.size #[.int .i64 (x 0), .int .i64 (x 1), .int .i64 (x 2), .int .i64 (x 3), .int .i64 (x 4), .int .i64 (x 5), .int .i64 (x 6), .int .i64 (x 7), .int .i64 (x 8), .int .i64 (x 9), .int .i64 (x 10), .int .i64 (x 11), .int .i64 (x 12), .int .i64 (R3.clock : Int), vf5, .int .i64 (R3.tickets : Int), vn5, vb5, vw] = W6 at *
            have c0 : W6.cell? ⟨W5.heap.size + 1, 0, none⟩ = some (.int .i64 0) := cell_of_row _ _ _ _ _ _ b13
            have c1 : W6.cell? ⟨W5.heap.size + 1, 1, none⟩ = some (.int .i64 0) := cell_of_row _ _ _ _ _ _ b13
            have c2 : W6.cell? ⟨W5.heap.size + 1 + 1, 0, none⟩ = some (.int .i64 0) := cell_of_row _ _ _ _ _ _ b14
            have f0 : W6.frozen? ⟨W5.heap.size + 1, 0, none⟩ = false := frozen_of_row _ _ _ _ _ b13
            have f1 : W6.frozen? ⟨W5.heap.size + 1, 1, none⟩ = false := frozen_of_row _ _ _ _ _ b13
            have f2 : W6.frozen? ⟨W5.heap.size + 1 + 1, 0, none⟩ = false := frozen_of_row _ _ _ _ _ b14
            have HB12 := Go.Lib.hid b12; have HB13 := Go.Lib.hid b13; have HB14 := Go.Lib.hid b14; have HB6 := Go.Lib.hid hb6
            clear b12 b13 b14 hb6
            go_upto_region 15 with (fail)
            have hoff : ∀ b, b ≠ W5.heap.size + 1 → b ≠ W5.heap.size + 1 + 1 → (((W6.setCell ⟨W5.heap.size + 1, 0, none⟩ (.int .i64 nn)).setCell ⟨W5.heap.size + 1, 1, none⟩ (.int .i64 gg)).setCell ⟨W5.heap.size + 1 + 1, 0, none⟩ (.int .i64 ee)).heap[b]? = W6.heap[b]? := fun b h1 h2 => (Go.Deep.blk_setCell_other _ _ _ _ h2).trans ((Go.Deep.blk_setCell_other _ _ _ _ h1).trans (Go.Deep.blk_setCell_other _ _ _ _ h1))
            have b12 := (hoff W5.heap.size (by omega) (by omega)).trans HB12.out
            have b13 : (((W6.setCell ⟨W5.heap.size + 1, 0, none⟩ (.int .i64 nn)).setCell ⟨W5.heap.size + 1, 1, none⟩ (.int .i64 gg)).setCell ⟨W5.heap.size + 1 + 1, 0, none⟩ (.int .i64 ee)).heap[W5.heap.size + 1]? = some (.cells #[.int .i64 nn, .int .i64 gg] 36) := (Go.Deep.blk_setCell_other _ _ _ _ (by show W5.heap.size + 1 ≠ W5.heap.size + 1 + 1; omega)).trans (heap_set_same (j := 1) (v := .int .i64 gg) (heap_set_same (j := 0) (v := .int .i64 nn) HB13.out))
            have b14 : (((W6.setCell ⟨W5.heap.size + 1, 0, none⟩ (.int .i64 nn)).setCell ⟨W5.heap.size + 1, 1, none⟩ (.int .i64 gg)).setCell ⟨W5.heap.size + 1 + 1, 0, none⟩ (.int .i64 ee)).heap[W5.heap.size + 1 + 1]? = some (.cells #[.int .i64 ee] 3) := heap_set_same (j := 0) (v := .int .i64 ee) ((Go.Deep.blk_setCell_other _ _ _ _ (by show W5.heap.size + 1 + 1 ≠ W5.heap.size + 1; omega)).trans ((Go.Deep.blk_setCell_other _ _ _ _ (by show W5.heap.size + 1 + 1 ≠ W5.heap.size + 1; omega)).trans HB14.out))
            have hb7 : Below W5.heap.size W5 (((W6.setCell ⟨W5.heap.size + 1, 0, none⟩ (.int .i64 nn)).setCell ⟨W5.heap.size + 1, 1, none⟩ (.int .i64 gg)).setCell ⟨W5.heap.size + 1 + 1, 0, none⟩ (.int .i64 ee)) := ((HB6.out.setCell (by show W5.heap.size ≤ W5.heap.size + 1; omega) _).setCell (by show W5.heap.size ≤ W5.heap.size + 1; omega) _).setCell (by show W5.heap.size ≤ W5.heap.size + 1 + 1; omega) _
            have hb7w := HB5.out.trans (hb7.mono HB5.out.size)
            have hs7 := HS5.out.lt.keep fun b hb => hb7.block b hb.2
            have hsW5 := HB5.out.size
            clear c0 c1 c2 f0 f1 f2 HB12 HB13 HB14 HB6 HB5 HS5 hoff
            generalize (((W6.setCell ⟨W5.heap.size + 1, 0, none⟩ (.int .i64 nn)).setCell ⟨W5.heap.size + 1, 1, none⟩ (.int .i64 gg)).setCell ⟨W5.heap.size + 1 + 1, 0, none⟩ (.int .i64 ee)) = W7 at *
            generalize W5.heap.size = g12 at *
            have hg7 := HG2.out.below hb7w
            have he7 := HE2.out.below hb7w
            have hm7 := Below.row hb7w HM2.out
            have hbw7 := HB2.out.trans (hb7w.mono HB2.out.size)
            have h14 := heap_lt b14
            have HB12 := Go.Lib.hid b12; have HB13 := Go.Lib.hid b13; have HB14 := Go.Lib.hid b14; have HG7 := Go.Lib.hid hg7; have HE7 := Go.Lib.hid he7; have HM7 := Go.Lib.hid hm7; have HB7 := Go.Lib.hid hbw7; have HS7 := Go.Lib.hid hs7
            clear b12 b13 b14 hb7 hb7w hs7 hg7 he7 hm7 hbw7 HG2 HE2 HM2 HB2 HSH2 HST
            generalize (Value.agg #[.int .i64 (x 0), .int .i64 (x 1), .int .i64 (x 2), .int .i64 (x 3), .int .i64 (x 4), .int .i64 (x 5), .int .i64 (x 6), .int .i64 (x 7), .int .i64 (x 8), .int .i64 (x 9), .int .i64 (x 10), .int .i64 (x 11), .int .i64 (x 12), .int .i64 (R.clock : Int), vf, .int .i64 (R.tickets : Int), vn, vb, vw]) = vz2
            go_upto_region 16 with (first
              | (with_reducible (show wpList _ _ _ (⟨some 76, _, _, _, _, _⟩ :: _) _ _); refine wpList_load_row (o := ⟨some 76, .load 33 _, _, _, _, _⟩) rfl 33 (.tmp 12) rfl g12 rfl 33 #[.int .i64 (x 0), .int .i64 (x 1), .int .i64 (x 2), .int .i64 (x 3), .int .i64 (x 4), .int .i64 (x 5), .int .i64 (x 6), .int .i64 (x 7), .int .i64 (x 8), .int .i64 (x 9), .int .i64 (x 10), .int .i64 (x 11), .int .i64 (x 12), .int .i64 (R3.clock : Int), vf5, .int .i64 (R3.tickets : Int), vn5, vb5, vw] (0, 0) _ HB12.out Tryz.underlying33 rfl (by kernel_rfl) ?_)
              | (with_reducible (show wpList _ _ _ (⟨none, Op.store 33 (Operand.tmp 8) _, _, _, _, _⟩ :: _) _ _); refine wpList_store_rowTo (o := ⟨none, .store 33 _ _, _, _, _, _⟩) rfl 33 (.tmp 8) (.tmp 76) rfl rfl mb #[.int .i64 (x 0), .int .i64 (x 1), .int .i64 (x 2), .int .i64 (x 3), .int .i64 (x 4), .int .i64 (x 5), .int .i64 (x 6), .int .i64 (x 7), .int .i64 (x 8), .int .i64 (x 9), .int .i64 (x 10), .int .i64 (x 11), .int .i64 (x 12), .int .i64 (R3.clock : Int), vf5, .int .i64 (R3.tickets : Int), vn5, vb5, vw] rfl rfl 33 #[.int .i64 (x 0), .int .i64 (x 1), .int .i64 (x 2), .int .i64 (x 3), .int .i64 (x 4), .int .i64 (x 5), .int .i64 (x 6), .int .i64 (x 7), .int .i64 (x 8), .int .i64 (x 9), .int .i64 (x 10), .int .i64 (x 11), .int .i64 (x 12), .int .i64 (R.clock : Int), vf, .int .i64 (R.tickets : Int), vn, vb, vw] HM7.out (by kernel_rfl) rfl (by simp [show ∀ k n, (Value.int k n).oneCell' = true from fun _ _ => rfl, show ∀ a n c, (Value.slice a n c).oneCell' = true from fun _ _ _ => rfl, hvf, hvn, hvb, hvw]) ?_; refine Hid.out ?_)
              | fail)
            have hoff : ∀ b, b ≠ mb → (W7.setRow mb #[.int .i64 (x 0), .int .i64 (x 1), .int .i64 (x 2), .int .i64 (x 3), .int .i64 (x 4), .int .i64 (x 5), .int .i64 (x 6), .int .i64 (x 7), .int .i64 (x 8), .int .i64 (x 9), .int .i64 (x 10), .int .i64 (x 11), .int .i64 (x 12), .int .i64 (R3.clock : Int), vf5, .int .i64 (R3.tickets : Int), vn5, vb5, vw]).heap[b]? = W7.heap[b]? := fun b hb => setRow_other _ _ _ _ hb
            have b13 := (hoff (g12 + 1) (by omega)).trans HB13.out
            have b14 := (hoff (g12 + 1 + 1) (by omega)).trans HB14.out
            have bm8 := setRow_heap W7 mb #[.int .i64 (x 0), .int .i64 (x 1), .int .i64 (x 2), .int .i64 (x 3), .int .i64 (x 4), .int .i64 (x 5), .int .i64 (x 6), .int .i64 (x 7), .int .i64 (x 8), .int .i64 (x 9), .int .i64 (x 10), .int .i64 (x 11), .int .i64 (x 12), .int .i64 (R.clock : Int), vf, .int .i64 (R.tickets : Int), vn, vb, vw] #[.int .i64 (x 0), .int .i64 (x 1), .int .i64 (x 2), .int .i64 (x 3), .int .i64 (x 4), .int .i64 (x 5), .int .i64 (x 6), .int .i64 (x 7), .int .i64 (x 8), .int .i64 (x 9), .int .i64 (x 10), .int .i64 (x 11), .int .i64 (x 12), .int .i64 (R3.clock : Int), vf5, .int .i64 (R3.tickets : Int), vn5, vb5, vw] 33 (0, 0) HM7.out
            have hg8 := HG7.out.setRow (b := mb) HLM2.out (by show mb ≠ ep; omega) #[.int .i64 (x 0), .int .i64 (x 1), .int .i64 (x 2), .int .i64 (x 3), .int .i64 (x 4), .int .i64 (x 5), .int .i64 (x 6), .int .i64 (x 7), .int .i64 (x 8), .int .i64 (x 9), .int .i64 (x 10), .int .i64 (x 11), .int .i64 (x 12), .int .i64 (R3.clock : Int), vf5, .int .i64 (R3.tickets : Int), vn5, vb5, vw]
            have he8 := HE7.out.off (b := mb) (w' := W7.setRow mb #[.int .i64 (x 0), .int .i64 (x 1), .int .i64 (x 2), .int .i64 (x 3), .int .i64 (x 4), .int .i64 (x 5), .int .i64 (x 6), .int .i64 (x 7), .int .i64 (x 8), .int .i64 (x 9), .int .i64 (x 10), .int .i64 (x 11), .int .i64 (x 12), .int .i64 (R3.clock : Int), vf5, .int .i64 (R3.tickets : Int), vn5, vb5, vw]) (fun p hp => (List.mem_cons.1 hp).elim (fun e => by rw [e]; exact hxm) (fun h => by rw [List.mem_singleton.1 h]; exact hcm)) (by rw [size_setRow]; exact Nat.le_refl _) hoff
            have hb8 := below_setRow HB7.out (show w.heap.size ≤ mb by omega) #[.int .i64 (x 0), .int .i64 (x 1), .int .i64 (x 2), .int .i64 (x 3), .int .i64 (x 4), .int .i64 (x 5), .int .i64 (x 6), .int .i64 (x 7), .int .i64 (x 8), .int .i64 (x 9), .int .i64 (x 10), .int .i64 (x 11), .int .i64 (x 12), .int .i64 (R3.clock : Int), vf5, .int .i64 (R3.tickets : Int), vn5, vb5, vw]
            have hs8 := (HS7.out.keep (w' := W7.setRow mb #[.int .i64 (x 0), .int .i64 (x 1), .int .i64 (x 2), .int .i64 (x 3), .int .i64 (x 4), .int .i64 (x 5), .int .i64 (x 6), .int .i64 (x 7), .int .i64 (x 8), .int .i64 (x 9), .int .i64 (x 10), .int .i64 (x 11), .int .i64 (x 12), .int .i64 (R3.clock : Int), vf5, .int .i64 (R3.tickets : Int), vn5, vb5, vw]) fun b hb => hoff b (hb.1.elim (fun h => h.2.1) fun h => by omega)).mono (K' := KL L mb ep (W7.setRow mb #[.int .i64 (x 0), .int .i64 (x 1), .int .i64 (x 2), .int .i64 (x 3), .int .i64 (x 4), .int .i64 (x 5), .int .i64 (x 6), .int .i64 (x 7), .int .i64 (x 8), .int .i64 (x 9), .int .i64 (x 10), .int .i64 (x 11), .int .i64 (x 12), .int .i64 (R3.clock : Int), vf5, .int .i64 (R3.tickets : Int), vn5, vb5, vw]).heap.size) fun b hb => by
              have hlt : b < (W7.setRow mb #[.int .i64 (x 0), .int .i64 (x 1), .int .i64 (x 2), .int .i64 (x 3), .int .i64 (x 4), .int .i64 (x 5), .int .i64 (x 6), .int .i64 (x 7), .int .i64 (x 8), .int .i64 (x 9), .int .i64 (x 10), .int .i64 (x 11), .int .i64 (x 12), .int .i64 (R3.clock : Int), vf5, .int .i64 (R3.tickets : Int), vn5, vb5, vw]).heap.size := by rw [size_setRow]; have := hb.2; omega
              exact hb.1.elim (fun h => ⟨h.1, h.2.1, h.2.2.1, hlt⟩) fun h => ⟨HNW.out b h, by omega, by omega, hlt⟩
            unfold Hid
            clear HB12 HB13 HB14 HG7 HE7 HM7 HB7 HS7 hoff
            generalize W7.setRow mb #[.int .i64 (x 0), .int .i64 (x 1), .int .i64 (x 2), .int .i64 (x 3), .int .i64 (x 4), .int .i64 (x 5), .int .i64 (x 6), .int .i64 (x 7), .int .i64 (x 8), .int .i64 (x 9), .int .i64 (x 10), .int .i64 (x 11), .int .i64 (x 12), .int .i64 (R3.clock : Int), vf5, .int .i64 (R3.tickets : Int), vn5, vb5, vw] = W8 at *
            generalize (Value.agg #[.int .i64 (x 0), .int .i64 (x 1), .int .i64 (x 2), .int .i64 (x 3), .int .i64 (x 4), .int .i64 (x 5), .int .i64 (x 6), .int .i64 (x 7), .int .i64 (x 8), .int .i64 (x 9), .int .i64 (x 10), .int .i64 (x 11), .int .i64 (x 12), .int .i64 (R3.clock : Int), vf5, .int .i64 (R3.tickets : Int), vn5, vb5, vw]) = vz3
            have HS8 := Go.Lib.hid hs8; have HM8 := Go.Lib.hid bm8
            have he9 := Env.row (Env.row he8 b14 (HNW.out _ (by omega))) b13 (HNW.out _ (by omega))
            obtain ⟨hg9, hs9⟩ := hg8.newR [.bool false] 4
            have hs8sz := heap_lt bm8
            clear b13 b14 bm8 hs8 he8
            go_upto_region 17 with (fail)
            generalize (fun b => if b = W8.heap.size then 5 else L b) = L9 at *
            have hs9' := KL.shr HS8.out hs9.size (fun b hb h0 => hs9.block b hb (.inl h0)) hs9.lab
            have hm9 := (hs9.block mb hs8sz (.inl HLM2.out)).trans HM8.out
            have hlm9 := (hs9.lab mb hs8sz).trans HLM2.out
            have he9' := he9.shr hs9
            have hb9 := hs9.below_old hb8 (Nat.le_refl _) HOL2.out
            have hol9 := fun b (hb : b < w.heap.size) => (hs9.lab b (Nat.lt_of_lt_of_le hb hb8.size)).trans (HOL2.out b hb)
            have hknow : (S.newR W8.heap.size [.bool false]).knows (W8.heap.size, 0) := St.newR_knows S W8.heap.size [.bool false] (by decide)
            have hsd := start_done (R := R) (fn := fn) (ft := ft) (bx := bx) (wk := (km : Int)) (ticks := tm) (shard := arg) (user := us') hok (show (S.newR W8.heap.size [.bool false]).n = cf.size from HSN2.out) HRE2.out (by have := HDB.out.2.2.2; omega) hknow ht30 (by have := HCN2.out; show S.cnt ≤ _; omega) (by have := HLO2.out; show S.log.length ≤ _; omega)
            rw [← HR3.out] at hsd
            obtain ⟨m, T, fn', ft', bx', hm1, hm2, hrun, hrelT, hTn, hTc, hTl, hTr⟩ := hsd
            replace hTn : T.n = S.n := hTn
            replace hTc : T.cnt ≤ S.cnt + 260 := hTc
            replace hTl : T.log.length ≤ S.log.length + 1 := hTl
            have hckT : R3.clock ≤ j + 1 := by have h := startR_clock cf.slack R tm arg us'; rw [← HR3.out] at h; have h : R3.clock = R.clock := h; have := HCK2.out; omega
            clear hs9 he9 hb8 hs8sz HS8 HM8 hg8 hknow
            generalize (W8.alloc (.cells #[.bool false] 4)) = W9 at *
            generalize W8.heap.size = ob at *
            dsimp only at hrun hrelT
            have HGN := Go.Lib.hid hg9; have HSX := Go.Lib.hid hs9'; have HMX := Go.Lib.hid hm9; have HLX := Go.Lib.hid hlm9; have HEX := Go.Lib.hid he9'; have HBX := Go.Lib.hid hb9; have HOX := Go.Lib.hid hol9; have HRUN := Go.Lib.hid hrun; have HRT := Go.Lib.hid hrelT; have HTN := Go.Lib.hid hTn; have HTC := Go.Lib.hid hTc; have HTL := Go.Lib.hid hTl; have HTR := Go.Lib.hid hTr; have HCT := Go.Lib.hid hckT
            clear hg9 hs9' hm9 hlm9 he9' hb9 hol9 hrun hrelT hTn hTc hTl hTr hckT HLM2 HOL2 HRE2 HCK2 HR3
            have HDO := Go.Lib.hid (start_any (t := 0) (m := 410) (E := ⟨ek, ep, ea, ec, cf⟩) (wk := (km : Int)) (ticks := tm) (shard := arg) (user := us') (prApp_mono cf _ (heR_mono nn gg ee)) HGN.out (law16_alone1 (E := ⟨ek, ep, ea, ec, cf⟩) (ob := ob) (HEX.out.sub (env' := [(g12 + 1, [.int .i64 nn, .int .i64 gg]), (g12 + 1 + 1, [.int .i64 ee])]) (by simp))) (by omega) (by have := HDB.out.2.1; omega))
            have q3 : W9.cell? ⟨xb, 3, none⟩ = some (.int .i64 tm) := HEX.out.cell 2 3 rfl rfl
            have q4 : W9.cell? ⟨xb, 4, none⟩ = some (.int .i64 arg) := HEX.out.cell 2 4 rfl rfl
            have q5 : W9.cell? ⟨xb, 5, none⟩ = some (.int .i64 us') := HEX.out.cell 2 5 rfl rfl
            go_wp2_with fail
            clear q3 q4 q5
            refine HDO.out.mono ?_
            rintro e w7 ⟨v, L7, rfl, hd7, hg7, hc7⟩
            have HG7 := Go.Lib.hid hg7
            have HC7 := Go.Lib.hid hc7
            obtain ⟨f, cap, rfl, _, _⟩ := hc7
            have HD7 := Go.Lib.hid hd7
            clear hd7 hg7 HDO
            have HT := Go.Lib.hid (HG7.out.task 0 (.func (.func f) #[] cap) 142)
            go_wp2_with fail
            refine (step_New f #[] cap w7).mono ?_
            rintro e w8 ⟨rfl, rfl⟩
            generalize (fun b => if b = w7.heap.size then 5000 + 0 else L7 b) = L8 at *
            have hd8 : DidP (TP 0) L7 w7 L8 (w7.alloc (.cells #[.func (.func f) #[] cap, .int .i64 0] 142)) := ⟨rfl, rfl, rfl, by simp, fun b hb _ => Below.heap_alloc _ _ _ hb, HT.out.2.2.lab⟩
            have hdd := HD7.out.toP.trans hd8
            have HK8 := Go.Lib.hid (CodeSim.ext cf (prApp cf (heR nn gg ee)) _ 0 HC7.out HT.out.2.2)
            have HE8 := Go.Lib.hid ((HEX.out.toDidP hdd).sub (env' := [(cb, [.int .i64 (x 0), .int .i64 (x 1), .int .i64 (x 2), .int .i64 (x 3), .int .i64 (x 4), .int .i64 (x 5), .int .i64 (x 6), .int .i64 (x 7), .int .i64 (x 8), .int .i64 (x 9), .int .i64 (x 10), .int .i64 (x 11), .int .i64 (x 12)])]) (by simp))
            have HB8 := Go.Lib.hid (hdd.below_old HBX.out (Nat.le_refl _) HOX.out)
            have HOL8 : Hid (∀ b, b < w.heap.size → L8 b = 0) := Go.Lib.hid (fun b hb => (hdd.lab b (Nat.lt_of_lt_of_le hb HBX.out.size)).trans (HOX.out b hb))
            have hml := heap_lt HMX.out
            have HM8 := Go.Lib.hid ((hdd.block mb hml (by rw [HLX.out]; unfold TP; omega)).trans HMX.out)
            have HL8 := Go.Lib.hid ((hdd.lab mb hml).trans HLX.out)
            have HS8 := Go.Lib.hid (KL.shr HSX.out hdd.size (fun b hb h0 => hdd.block b hb (by rw [h0]; unfold TP; omega)) hdd.lab)
            clear hd8 hdd HC7 HEX HBX HOX HD7 HG7 HMX HLX HSX hml HGN
            generalize (w7.alloc (.cells #[.func (.func f) #[] cap, .int .i64 0] 142)) = W10 at *
            generalize w7.heap.size = tb at *
            have qc4 : W10.cell? ⟨cb, 4, none⟩ = some (.int .i64 (cf.tickets : Int)) := by rw [← HX.out.2.2.1]; exact HE8.out.cell 0 4 rfl rfl
            have hw1 : IntKind.i64.wrap (10 * (cf.tickets : Int)) = 10 * (cf.tickets : Int) := IntWalk.i64_in _ (by omega)
            have hw2 : IntKind.i64.wrap (60 + 10 * (cf.tickets : Int)) = ((60 + 10 * cf.tickets : Nat) : Int) := by rw [IntWalk.i64_in _ (by omega)]; omega
            have hmm := hm2
            go_wp2_with fail
            clear qc4 hw1 hw2
            have HF : Calls Tryz.prog 20 #[.pointer (some ⟨tb, 0, none⟩), .int .i64 ((60 + 10 * cf.tickets : Nat) : Int)] W10 _ := task_finish (most := 60 + 10 * cf.tickets) HT.out.1 HT.out.2.1 (by decide) (by omega) (by omega) (by decide) (CodeSim.le cf (prApp cf (heR nn gg ee)) _ 0 HK8.out (by omega)) HRUN.out
            refine HF.mono ?_
            rintro e w9 ⟨v', L10, rfl, hg10, hd10, ht10⟩
            have hans := hg10.reads HTR.out
            have hml := heap_lt HM8.out
            have HE10 := Go.Lib.hid (HE8.out.toDidP hd10)
            have HB10 := Go.Lib.hid (hd10.below_old HB8.out (Nat.le_refl _) HOL8.out)
            have HOL10 : Hid (∀ b, b < w.heap.size → L10 b = 0) := Go.Lib.hid (fun b hb => (hd10.lab b (Nat.lt_of_lt_of_le hb HB8.out.size)).trans (HOL8.out b hb))
            have HM10 := Go.Lib.hid ((hd10.block mb hml (by rw [HL8.out]; unfold TP; omega)).trans HM8.out)
            have HL10 := Go.Lib.hid ((hd10.lab mb hml).trans HL8.out)
            have hs10 := KL.shr HS8.out hd10.size (fun b hb h0 => hd10.block b hb (by rw [h0]; unfold TP; omega)) hd10.lab
            rw [Nat.zero_add] at ht10
            have HSTP := Go.Lib.hid (task_steps ht10)
            have HIS := Go.Lib.hid (law16_Is hg10 (HTN.out.trans HSN2.out) HRT.out x vw _ (KL L10 mb ep w9.heap.size) hs10 KL.lt)
            have HS10 := Go.Lib.hid hs10
            have hst1 : decide ((m : Int) < 1) = false := by simp; omega
            have hst2 : ((m : Int) < 1) = False := by simp; omega
            have HG10 := Go.Lib.hid hg10
            clear hg10 hd10 ht10 hs10 HF HT HK8 HE8 HB8 HOL8 HM8 HL8 HS8 HRUN HTR hml
            go_upto_region 20 with (first
              | (with_reducible (show wpList _ _ _ (⟨some 110, _, _, _, _, _⟩ :: _) _ _); refine wpList_load_row_g (o := ⟨some 110, .load 33 _, _, _, _, _⟩) (by kernel_rfl) 33 (.tmp 8) rfl mb rfl 33 #[.int .i64 (x 0), .int .i64 (x 1), .int .i64 (x 2), .int .i64 (x 3), .int .i64 (x 4), .int .i64 (x 5), .int .i64 (x 6), .int .i64 (x 7), .int .i64 (x 8), .int .i64 (x 9), .int .i64 (x 10), .int .i64 (x 11), .int .i64 (x 12), .int .i64 (R3.clock : Int), vf5, .int .i64 (R3.tickets : Int), vn5, vb5, vw] (0, 0) _ HM10.out Tryz.underlying33 rfl (by kernel_rfl) ?_)
              | (go_at_call 21; refine HSTP.out.mono ?_; rintro e w11 ⟨rfl, hw⟩; subst hw)
              | (go_at_call 22; refine HIS.out.mono ?_; rintro e w12 ⟨rfl, hb12⟩; have HB12 := Go.Lib.hid hb12; clear hb12)
              | fail)
            go_wp2
            have e1 : (j : Int) + 1 = ((j + 1 : Nat) : Int) := by omega
            exact ⟨⟨j + 1, T, L10, R3, fn', ft', bx', #[.int .i64 (x 0), .int .i64 (x 1), .int .i64 (x 2), .int .i64 (x 3), .int .i64 (x 4), .int .i64 (x 5), .int .i64 (x 6), .int .i64 (x 7), .int .i64 (x 8), .int .i64 (x 9), .int .i64 (x 10), .int .i64 (x 11), .int .i64 (x 12), .int .i64 (R3.clock : Int), vf5, .int .i64 (R3.tickets : Int), vn5, vb5, vw], by rw [e1], by omega, HG10.out.below HB12.out, HTN.out.trans HSN2.out, HRT.out, by have := HTC.out; have := HCN2.out; omega, by have := HTL.out; have := HLO2.out; omega, HB10.out.trans (HB12.out.mono HB10.out.size), HOL10.out, HE10.out.below HB12.out, HCT.out, Below.row HB12.out HM10.out, HL10.out, KL.shr HS10.out HB12.out.size (fun b hb _ => HB12.out.block b hb) (fun _ _ => rfl)⟩, by show ds.length - ((j : Int) + 1).toNat < ds.length - (j : Int).toNat; omega⟩
        · have HB9 := Go.Lib.hid HBW.out
          obtain rfl : j = ds.length := by omega
          clear HG1 HSN HRE1 HCN HLO HBW HOL HEN HCK
          go_wp2
          go_ret
          exact ⟨rfl, HB9.out⟩
  · rw [decide_eq_false hsm]
    clear HBG HEC
    go_wp2_with fail
    refine (law16_speaks _).mono ?_
    rintro e w3 ⟨rfl, hb1⟩
    have HB9 := Go.Lib.hid (HB.out.trans (hb1.mono HB.out.size))
    clear hb1
    go_wp2
    go_ret
    exact ⟨rfl, HB9.out⟩
end Go.Proofs.YtgemjjpmoejgdaaGreat
