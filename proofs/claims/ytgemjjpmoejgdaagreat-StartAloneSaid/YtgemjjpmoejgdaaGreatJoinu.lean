/- The document's Start: a node that is given up; no ticket. -/
import Derived.Test.YtgemjjpmoejgdaaGreatJoint
namespace Go.Proofs.YtgemjjpmoejgdaaGreat
open Go.RowKit
set_option maxRecDepth 100000
set_option linter.unusedVariables false

set_option maxHeartbeats 4000000 in
theorem ref16_Start_gone (slack : Nat) (x : Nat → Int) (hx5 : x 5 = (slack : Int)) (R : ShopR) (hR : FitsR R) (vf vn vb vw : Value) (us : List Value) (K : Nat → Prop) (ticks shard user : Int) (w : World) (hf : KFree K w vf R.free) (hn : KNodes K w vn R.nodes) (hbx : KBoxes K w vb R.boxes us) (hK : ∀ b, K b → b < w.heap.size) (hvw : vw.oneCell' = true) (ht : -9223372036854775808 ≤ ticks ∧ ticks ≤ 9223372036854775807) (hu : -9223372036854775808 ≤ user ∧ user ≤ 9223372036854775807) (h1 : ¬ (ticks < 0 ∨ user < 0 ∨ ¬ shardR R shard)) (h2 : ¬ 1073741823 - (R.clock : Int) < ticks) (y : Nat) (fs : List Nat) (h3 : R.free = y :: fs) (h4 : (R.nodes.getD y default).gen = 4294967295) :
    Calls Tryz.prog 16 #[.agg #[.int .i64 (x 0), .int .i64 (x 1), .int .i64 (x 2), .int .i64 (x 3), .int .i64 (x 4), .int .i64 (x 5), .int .i64 (x 6), .int .i64 (x 7), .int .i64 (x 8), .int .i64 (x 9), .int .i64 (x 10), .int .i64 (x 11), .int .i64 (x 12), .int .i64 (R.clock : Int), vf, .int .i64 (R.tickets : Int), vn, vb, vw], .int .i64 ticks, .int .i64 shard, .int .i64 user] w fun e w' => StartEnd x vw K w (startR slack R ticks shard user) e w' := by
  have hvf := KRows.one hf
  have hvn := KRows.one hn
  have hvb := hbx.outer.one
  have HX5 := Go.Lib.hid hx5
  have HR := Go.Lib.hid hR
  have HF := Go.Lib.hid hf
  have HN := Go.Lib.hid hn
  have HX := Go.Lib.hid hbx
  have HK := Go.Lib.hid hK
  clear hx5 hR hf hn hbx hK
  have hb0 : Below w.heap.size w ((((w.alloc (.cells #[.int .i64 (x 0), .int .i64 (x 1), .int .i64 (x 2), .int .i64 (x 3), .int .i64 (x 4), .int .i64 (x 5), .int .i64 (x 6), .int .i64 (x 7), .int .i64 (x 8), .int .i64 (x 9), .int .i64 (x 10), .int .i64 (x 11), .int .i64 (x 12), .int .i64 (R.clock : Int), vf, .int .i64 (R.tickets : Int), vn, vb, vw] 33)).alloc (.cells #[.int .i64 0, .int .i64 0, .int .i64 0, .int .i64 0, .int .i64 0, .int .i64 0, .int .i64 0, .int .i64 0, .int .i64 0, .int .i64 0, .int .i64 0, .int .i64 0, .int .i64 0, .int .i64 0, .slice none 0 0, .int .i64 0, .slice none 0 0, .slice none 0 0, .slice none 0 0] 33)).alloc (.cells #[.int .i64 0, .int .i64 0] 36)).alloc (.cells #[.int .i64 0, .int .i64 0] 36)) := (((((Below.refl _ _).alloc (Nat.le_refl _) _).alloc (by simp) _).alloc (by simp; omega) _).alloc (by simp; omega) _)
  have b0 : ((((w.alloc (.cells #[.int .i64 (x 0), .int .i64 (x 1), .int .i64 (x 2), .int .i64 (x 3), .int .i64 (x 4), .int .i64 (x 5), .int .i64 (x 6), .int .i64 (x 7), .int .i64 (x 8), .int .i64 (x 9), .int .i64 (x 10), .int .i64 (x 11), .int .i64 (x 12), .int .i64 (R.clock : Int), vf, .int .i64 (R.tickets : Int), vn, vb, vw] 33)).alloc (.cells #[.int .i64 0, .int .i64 0, .int .i64 0, .int .i64 0, .int .i64 0, .int .i64 0, .int .i64 0, .int .i64 0, .int .i64 0, .int .i64 0, .int .i64 0, .int .i64 0, .int .i64 0, .int .i64 0, .slice none 0 0, .int .i64 0, .slice none 0 0, .slice none 0 0, .slice none 0 0] 33)).alloc (.cells #[.int .i64 0, .int .i64 0] 36)).alloc (.cells #[.int .i64 0, .int .i64 0] 36)).heap[w.heap.size]? = some (.cells #[.int .i64 (x 0), .int .i64 (x 1), .int .i64 (x 2), .int .i64 (x 3), .int .i64 (x 4), .int .i64 (x 5), .int .i64 (x 6), .int .i64 (x 7), .int .i64 (x 8), .int .i64 (x 9), .int .i64 (x 10), .int .i64 (x 11), .int .i64 (x 12), .int .i64 (R.clock : Int), vf, .int .i64 (R.tickets : Int), vn, vb, vw] 33) := by
    rw [Below.heap_alloc _ _ _ (by first | (simp; done) | (simp; omega))]
    rw [Below.heap_alloc _ _ _ (by first | (simp; done) | (simp; omega))]
    rw [Below.heap_alloc _ _ _ (by first | (simp; done) | (simp; omega))]
    have h := heap_alloc_new w (.cells #[.int .i64 (x 0), .int .i64 (x 1), .int .i64 (x 2), .int .i64 (x 3), .int .i64 (x 4), .int .i64 (x 5), .int .i64 (x 6), .int .i64 (x 7), .int .i64 (x 8), .int .i64 (x 9), .int .i64 (x 10), .int .i64 (x 11), .int .i64 (x 12), .int .i64 (R.clock : Int), vf, .int .i64 (R.tickets : Int), vn, vb, vw] 33)
    exact h
  have b1 : ((((w.alloc (.cells #[.int .i64 (x 0), .int .i64 (x 1), .int .i64 (x 2), .int .i64 (x 3), .int .i64 (x 4), .int .i64 (x 5), .int .i64 (x 6), .int .i64 (x 7), .int .i64 (x 8), .int .i64 (x 9), .int .i64 (x 10), .int .i64 (x 11), .int .i64 (x 12), .int .i64 (R.clock : Int), vf, .int .i64 (R.tickets : Int), vn, vb, vw] 33)).alloc (.cells #[.int .i64 0, .int .i64 0, .int .i64 0, .int .i64 0, .int .i64 0, .int .i64 0, .int .i64 0, .int .i64 0, .int .i64 0, .int .i64 0, .int .i64 0, .int .i64 0, .int .i64 0, .int .i64 0, .slice none 0 0, .int .i64 0, .slice none 0 0, .slice none 0 0, .slice none 0 0] 33)).alloc (.cells #[.int .i64 0, .int .i64 0] 36)).alloc (.cells #[.int .i64 0, .int .i64 0] 36)).heap[w.heap.size + 1]? = some (.cells #[.int .i64 0, .int .i64 0, .int .i64 0, .int .i64 0, .int .i64 0, .int .i64 0, .int .i64 0, .int .i64 0, .int .i64 0, .int .i64 0, .int .i64 0, .int .i64 0, .int .i64 0, .int .i64 0, .slice none 0 0, .int .i64 0, .slice none 0 0, .slice none 0 0, .slice none 0 0] 33) := by
    rw [Below.heap_alloc _ _ _ (by first | (simp; done) | (simp; omega))]
    rw [Below.heap_alloc _ _ _ (by first | (simp; done) | (simp; omega))]
    have h := heap_alloc_new (w.alloc (.cells #[.int .i64 (x 0), .int .i64 (x 1), .int .i64 (x 2), .int .i64 (x 3), .int .i64 (x 4), .int .i64 (x 5), .int .i64 (x 6), .int .i64 (x 7), .int .i64 (x 8), .int .i64 (x 9), .int .i64 (x 10), .int .i64 (x 11), .int .i64 (x 12), .int .i64 (R.clock : Int), vf, .int .i64 (R.tickets : Int), vn, vb, vw] 33)) (.cells #[.int .i64 0, .int .i64 0, .int .i64 0, .int .i64 0, .int .i64 0, .int .i64 0, .int .i64 0, .int .i64 0, .int .i64 0, .int .i64 0, .int .i64 0, .int .i64 0, .int .i64 0, .int .i64 0, .slice none 0 0, .int .i64 0, .slice none 0 0, .slice none 0 0, .slice none 0 0] 33)
    rw [World.size_alloc] at h
    exact h
  have b2 : ((((w.alloc (.cells #[.int .i64 (x 0), .int .i64 (x 1), .int .i64 (x 2), .int .i64 (x 3), .int .i64 (x 4), .int .i64 (x 5), .int .i64 (x 6), .int .i64 (x 7), .int .i64 (x 8), .int .i64 (x 9), .int .i64 (x 10), .int .i64 (x 11), .int .i64 (x 12), .int .i64 (R.clock : Int), vf, .int .i64 (R.tickets : Int), vn, vb, vw] 33)).alloc (.cells #[.int .i64 0, .int .i64 0, .int .i64 0, .int .i64 0, .int .i64 0, .int .i64 0, .int .i64 0, .int .i64 0, .int .i64 0, .int .i64 0, .int .i64 0, .int .i64 0, .int .i64 0, .int .i64 0, .slice none 0 0, .int .i64 0, .slice none 0 0, .slice none 0 0, .slice none 0 0] 33)).alloc (.cells #[.int .i64 0, .int .i64 0] 36)).alloc (.cells #[.int .i64 0, .int .i64 0] 36)).heap[w.heap.size + 1 + 1]? = some (.cells #[.int .i64 0, .int .i64 0] 36) := by
    rw [Below.heap_alloc _ _ _ (by first | (simp; done) | (simp; omega))]
    have h := heap_alloc_new ((w.alloc (.cells #[.int .i64 (x 0), .int .i64 (x 1), .int .i64 (x 2), .int .i64 (x 3), .int .i64 (x 4), .int .i64 (x 5), .int .i64 (x 6), .int .i64 (x 7), .int .i64 (x 8), .int .i64 (x 9), .int .i64 (x 10), .int .i64 (x 11), .int .i64 (x 12), .int .i64 (R.clock : Int), vf, .int .i64 (R.tickets : Int), vn, vb, vw] 33)).alloc (.cells #[.int .i64 0, .int .i64 0, .int .i64 0, .int .i64 0, .int .i64 0, .int .i64 0, .int .i64 0, .int .i64 0, .int .i64 0, .int .i64 0, .int .i64 0, .int .i64 0, .int .i64 0, .int .i64 0, .slice none 0 0, .int .i64 0, .slice none 0 0, .slice none 0 0, .slice none 0 0] 33)) (.cells #[.int .i64 0, .int .i64 0] 36)
    rw [World.size_alloc, World.size_alloc] at h
    exact h
  have b3 : ((((w.alloc (.cells #[.int .i64 (x 0), .int .i64 (x 1), .int .i64 (x 2), .int .i64 (x 3), .int .i64 (x 4), .int .i64 (x 5), .int .i64 (x 6), .int .i64 (x 7), .int .i64 (x 8), .int .i64 (x 9), .int .i64 (x 10), .int .i64 (x 11), .int .i64 (x 12), .int .i64 (R.clock : Int), vf, .int .i64 (R.tickets : Int), vn, vb, vw] 33)).alloc (.cells #[.int .i64 0, .int .i64 0, .int .i64 0, .int .i64 0, .int .i64 0, .int .i64 0, .int .i64 0, .int .i64 0, .int .i64 0, .int .i64 0, .int .i64 0, .int .i64 0, .int .i64 0, .int .i64 0, .slice none 0 0, .int .i64 0, .slice none 0 0, .slice none 0 0, .slice none 0 0] 33)).alloc (.cells #[.int .i64 0, .int .i64 0] 36)).alloc (.cells #[.int .i64 0, .int .i64 0] 36)).heap[w.heap.size + 1 + 1 + 1]? = some (.cells #[.int .i64 0, .int .i64 0] 36) := by
    have h := heap_alloc_new (((w.alloc (.cells #[.int .i64 (x 0), .int .i64 (x 1), .int .i64 (x 2), .int .i64 (x 3), .int .i64 (x 4), .int .i64 (x 5), .int .i64 (x 6), .int .i64 (x 7), .int .i64 (x 8), .int .i64 (x 9), .int .i64 (x 10), .int .i64 (x 11), .int .i64 (x 12), .int .i64 (R.clock : Int), vf, .int .i64 (R.tickets : Int), vn, vb, vw] 33)).alloc (.cells #[.int .i64 0, .int .i64 0, .int .i64 0, .int .i64 0, .int .i64 0, .int .i64 0, .int .i64 0, .int .i64 0, .int .i64 0, .int .i64 0, .int .i64 0, .int .i64 0, .int .i64 0, .int .i64 0, .slice none 0 0, .int .i64 0, .slice none 0 0, .slice none 0 0, .slice none 0 0] 33)).alloc (.cells #[.int .i64 0, .int .i64 0] 36)) (.cells #[.int .i64 0, .int .i64 0] 36)
    rw [World.size_alloc, World.size_alloc, World.size_alloc] at h
    exact h
  have HB := Go.Lib.hid hb0
  have HB0 := Go.Lib.hid b0
  have HB1 := Go.Lib.hid b1
  have HB2 := Go.Lib.hid b2
  have HB3 := Go.Lib.hid b3
  clear hb0 b0 b1 b2 b3
  have e : startR slack R ticks shard user = ({ R with free := fs }, 0, 0, 5) := by unfold startR; rw [if_neg h1, if_neg h2, h3]; dsimp only; rw [if_pos h4]
  rw [e]
  clear e
  have q0 : decide (ticks < 0) = false := by simp; omega
  have q1 : decide (user < 0) = false := by simp; omega
  have hcl : (R.clock : Int) ≤ 1073741823 := by have := HR.out.cl; omega
  have hcl0 : (0 : Int) ≤ (R.clock : Int) := by omega
  have q2 : decide (1073741823 - (R.clock : Int) < ticks) = false := by simp; omega
  obtain ⟨pb, cb, hvbq, _⟩ := HX.out.outer.form
  rw [List.length_map] at hvbq
  have HSH : Hid (∀ W, Calls Tryz.prog 83 #[.agg #[.int .i64 (x 0), .int .i64 (x 1), .int .i64 (x 2), .int .i64 (x 3), .int .i64 (x 4), .int .i64 (x 5), .int .i64 (x 6), .int .i64 (x 7), .int .i64 (x 8), .int .i64 (x 9), .int .i64 (x 10), .int .i64 (x 11), .int .i64 (x 12), .int .i64 (R.clock : Int), vf, .int .i64 (R.tickets : Int), vn, vb, vw], .int .i64 shard] W fun e w' => e = .returned (.bool (decide (0 ≤ shard ∧ shard < (us.length : Int)))) ∧ Below W.heap.size W w') := Go.Lib.hid (fun W => by rw [hvbq]; exact ref16_Shard x (R.clock : Int) (R.tickets : Int) vf vn vw pb us.length cb shard W)
  have hsd : decide (0 ≤ shard ∧ shard < (us.length : Int)) = true := by have := HX.out.len; unfold shardR at h1; simp; omega
  rw [hsd] at HSH
  clear hvbq hsd
  have hyl : y < R.nodes.length := HR.out.fr y (by rw [h3]; exact List.mem_cons_self ..)
  obtain ⟨pf, cf, hvfq, hfc⟩ := HF.out.at'
  obtain ⟨gf, of, rfl, hfd⟩ := hfc 0 [.int .i64 (y : Int)] (by rw [h3]; rfl)
  have hy := hfd 0 _ rfl
  rw [Nat.zero_mul, Nat.add_zero] at hy
  rw [List.length_map, h3, List.length_cons] at hvfq
  obtain ⟨vt, hvt⟩ : ∃ vt : Value, vt = (.slice (if cf = 1 then some ⟨gf, of, none⟩ else some ⟨gf, of + 1, none⟩) fs.length (cf - 1)) := ⟨_, rfl⟩
  have HFT : Hid (KFree K w vt fs) := Go.Lib.hid (by rw [hvt]; have h := HF.out; rw [h3, hvfq] at h; have h := KRows.next h; rw [List.length_map] at h; exact h)
  have HVT := Go.Lib.hid hvt
  clear hvt
  obtain ⟨gn, on, cn, hvnq, hnc⟩ := NodesAt.at (HN.out.at') hyl
  obtain ⟨nd, hnd⟩ : ∃ nd, nd = R.nodes.getD y default := ⟨_, rfl⟩
  rw [← hnd] at hnc
  have HND := Go.Lib.hid hnd
  have HVF := Go.Lib.hid hvfq
  have HVN := Go.Lib.hid hvnq
  have HY := Go.Lib.hid hy
  have HNC := Go.Lib.hid hnc
  have q3 : (((fs.length : Int) + 1) == 0) = false := by simp; omega
  have hfl1 : (0 : Int) < (fs.length : Int) + 1 := by omega
  have hi1 : (0 : Int) ≤ (y : Int) := by omega
  have hi2 : (y : Int) < (R.nodes.length : Int) := by omega
  clear hvfq hfc hfd hnd hvnq hnc hy
  have hg4 : nd.gen = 4294967295 := by rw [HND.out]; exact h4
  have q4 : ((nd.gen : Int) == 4294967295) = true := by rw [hg4]; rfl
  clear hg4
  go_enter Tryz.func16, Tryz.ntmps16
  go_upto_region 2 with (fail)
  generalize ((((w.alloc (.cells #[.int .i64 (x 0), .int .i64 (x 1), .int .i64 (x 2), .int .i64 (x 3), .int .i64 (x 4), .int .i64 (x 5), .int .i64 (x 6), .int .i64 (x 7), .int .i64 (x 8), .int .i64 (x 9), .int .i64 (x 10), .int .i64 (x 11), .int .i64 (x 12), .int .i64 (R.clock : Int), vf, .int .i64 (R.tickets : Int), vn, vb, vw] 33)).alloc (.cells #[.int .i64 0, .int .i64 0, .int .i64 0, .int .i64 0, .int .i64 0, .int .i64 0, .int .i64 0, .int .i64 0, .int .i64 0, .int .i64 0, .int .i64 0, .int .i64 0, .int .i64 0, .int .i64 0, .slice none 0 0, .int .i64 0, .slice none 0 0, .slice none 0 0, .slice none 0 0] 33)).alloc (.cells #[.int .i64 0, .int .i64 0] 36)).alloc (.cells #[.int .i64 0, .int .i64 0] 36)) = W at *
  go_upto_region 4 with (first
    | (refine wpList_load_row_g (o := ⟨some 22, .load 33 _, _, _, _, _⟩) (by rfl) 33 (.tmp 4) rfl (w.heap.size) rfl 33 #[.int .i64 (x 0), .int .i64 (x 1), .int .i64 (x 2), .int .i64 (x 3), .int .i64 (x 4), .int .i64 (x 5), .int .i64 (x 6), .int .i64 (x 7), .int .i64 (x 8), .int .i64 (x 9), .int .i64 (x 10), .int .i64 (x 11), .int .i64 (x 12), .int .i64 (R.clock : Int), vf, .int .i64 (R.tickets : Int), vn, vb, vw] (0, 0) _ HB0.out Tryz.underlying33 rfl (by kernel_rfl) ?_)
    | (go_at_call 83; refine (HSH.out _).mono ?_; rintro e W1 ⟨rfl, hb1⟩; have HB0 := Go.Lib.hid (Below.row hb1 HB0.out); have HB1 := Go.Lib.hid (Below.row hb1 HB1.out); have HB2 := Go.Lib.hid (Below.row hb1 HB2.out); have HB3 := Go.Lib.hid (Below.row hb1 HB3.out); have HB := Go.Lib.hid (HB.out.trans (hb1.mono HB.out.size)); clear hb1)
    | fail)
  have hsz3 := heap_lt HB3.out
  have c13 : W1.cell? ⟨w.heap.size, 13, none⟩ = some (.int .i64 (R.clock : Int)) := cell_of_row _ _ _ _ _ _ HB0.out
  have c14 : W1.cell? ⟨w.heap.size, 14, none⟩ = some (.slice (some ⟨gf, of, none⟩) (fs.length + 1) cf) := (cell_of_row _ _ _ _ _ _ HB0.out).trans (by rw [HVF.out]; rfl)
  have c16 : W1.cell? ⟨w.heap.size, 16, none⟩ = some (.slice (some ⟨gn, on, none⟩) R.nodes.length cn) := (cell_of_row _ _ _ _ _ _ HB0.out).trans (by rw [HVN.out]; rfl)
  have cy : W1.cell? ⟨gf, of, none⟩ = some (.int .i64 (y : Int)) := below_cell HB.out HY.out
  have n0 : W1.cell? ⟨gn, on + y * 7, none⟩ = some (.int .i64 (nd.gen : Int)) := below_cell HB.out (HNC.out 0 (by decide))
  have n1 : W1.cell? ⟨gn, on + y * 7 + 1, none⟩ = some (.int .i64 (nd.time : Int)) := below_cell HB.out (HNC.out 1 (by decide))
  have n2 : W1.cell? ⟨gn, on + y * 7 + 2, none⟩ = some (.int .i64 (nd.status : Int)) := below_cell HB.out (HNC.out 2 (by decide))
  have n3 : W1.cell? ⟨gn, on + y * 7 + 3, none⟩ = some (.int .i64 (nd.user : Int)) := below_cell HB.out (HNC.out 3 (by decide))
  have n4 : W1.cell? ⟨gn, on + y * 7 + 4, none⟩ = some (.int .i64 (nd.hgen : Int)) := below_cell HB.out (HNC.out 4 (by decide))
  have n5 : W1.cell? ⟨gn, on + y * 7 + 5, none⟩ = some (.int .i64 (nd.hver : Int)) := below_cell HB.out (HNC.out 5 (by decide))
  have n6 : W1.cell? ⟨gn, on + y * 7 + 6, none⟩ = some (.int .i64 (nd.hshard : Int)) := below_cell HB.out (HNC.out 6 (by decide))
  go_upto_region 10 with (fail)
  have hbN : Below W1.heap.size W1 (W1.alloc (.cells #[.int .i64 (nd.gen : Int), .int .i64 (nd.time : Int), .int .i64 (nd.status : Int), .int .i64 (nd.user : Int), .int .i64 (nd.hgen : Int), .int .i64 (nd.hver : Int), .int .i64 (nd.hshard : Int)] 122)) := (Below.refl _ _).alloc (Nat.le_refl _) _
  have HB0 := Go.Lib.hid (Below.row hbN HB0.out)
  have HB1 := Go.Lib.hid (Below.row hbN HB1.out)
  have HB2 := Go.Lib.hid (Below.row hbN HB2.out)
  have HB3 := Go.Lib.hid (Below.row hbN HB3.out)
  have HB := Go.Lib.hid (HB.out.trans (hbN.mono HB.out.size))
  have b4 : (W1.alloc (.cells #[.int .i64 (nd.gen : Int), .int .i64 (nd.time : Int), .int .i64 (nd.status : Int), .int .i64 (nd.user : Int), .int .i64 (nd.hgen : Int), .int .i64 (nd.hver : Int), .int .i64 (nd.hshard : Int)] 122)).heap[W1.heap.size]? = some (.cells #[.int .i64 (nd.gen : Int), .int .i64 (nd.time : Int), .int .i64 (nd.status : Int), .int .i64 (nd.user : Int), .int .i64 (nd.hgen : Int), .int .i64 (nd.hver : Int), .int .i64 (nd.hshard : Int)] 122) := heap_alloc_new _ _
  clear hbN c13 c14 c16 cy n0 n1 n2 n3 n4 n5 n6
  generalize (W1.alloc (.cells #[.int .i64 (nd.gen : Int), .int .i64 (nd.time : Int), .int .i64 (nd.status : Int), .int .i64 (nd.user : Int), .int .i64 (nd.hgen : Int), .int .i64 (nd.hver : Int), .int .i64 (nd.hshard : Int)] 122)) = W2 at *
  generalize W1.heap.size = g4 at *
  have HB4 := Go.Lib.hid b4
  clear b4
  have d0 : W2.cell? ⟨g4, 0, none⟩ = some (.int .i64 (nd.gen : Int)) := cell_of_row _ _ _ _ _ _ HB4.out
  have c14 : W2.cell? ⟨w.heap.size, 14, none⟩ = some (.slice (some ⟨gf, of, none⟩) (fs.length + 1) cf) := (cell_of_row _ _ _ _ _ _ HB0.out).trans (by rw [HVF.out]; rfl)
  have f0 : W2.frozen? ⟨w.heap.size, 14, none⟩ = false := frozen_of_row _ _ _ _ _ HB0.out
  go_upto_region 12 with (fail)
  rw [← HVT.out]
  have b0 := heap_set_same (j := 14) (v := vt) HB0.out
  have b1 := (Go.Deep.blk_setCell_other W2 ⟨w.heap.size, 14, none⟩ vt (w.heap.size + 1) (by show w.heap.size + 1 ≠ w.heap.size; omega)).trans HB1.out
  have b2 := (Go.Deep.blk_setCell_other W2 ⟨w.heap.size, 14, none⟩ vt (w.heap.size + 1 + 1) (by show w.heap.size + 1 + 1 ≠ w.heap.size; omega)).trans HB2.out
  have b3 := (Go.Deep.blk_setCell_other W2 ⟨w.heap.size, 14, none⟩ vt (w.heap.size + 1 + 1 + 1) (by show w.heap.size + 1 + 1 + 1 ≠ w.heap.size; omega)).trans HB3.out
  have hbS : Below w.heap.size w (W2.setCell ⟨w.heap.size, 14, none⟩ vt) := HB.out.setCell (Nat.le_refl _) _
  clear HB0 HB1 HB2 HB3 HB4 HB d0 c14 f0
  generalize (W2.setCell ⟨w.heap.size, 14, none⟩ vt) = W3 at *
  have HB0 : Hid (W3.heap[w.heap.size]? = some (.cells #[.int .i64 (x 0), .int .i64 (x 1), .int .i64 (x 2), .int .i64 (x 3), .int .i64 (x 4), .int .i64 (x 5), .int .i64 (x 6), .int .i64 (x 7), .int .i64 (x 8), .int .i64 (x 9), .int .i64 (x 10), .int .i64 (x 11), .int .i64 (x 12), .int .i64 (R.clock : Int), vt, .int .i64 (R.tickets : Int), vn, vb, vw] 33)) := Go.Lib.hid b0
  have HB1 := Go.Lib.hid b1
  have HB2 := Go.Lib.hid b2
  have HB3 := Go.Lib.hid b3
  have HB := Go.Lib.hid hbS
  clear b0 b1 b2 b3 hbS
  have hvf := KRows.one HFT.out
  refine exit5 (b0 := w.heap.size) (b1 := w.heap.size + 1) (b2 := w.heap.size + 1 + 1) (b3 := w.heap.size + 1 + 1 + 1) (by kernel_rfl) (by kernel_rfl) (by kernel_rfl) (by kernel_rfl) ⟨by simp, by simp, by simp, by decide, by decide, by decide, by decide, by decide, by decide, by decide⟩ Tryz.underlying33 rfl (by kernel_rfl) Tryz.underlying36 rfl (by kernel_rfl) ⟨rfl, rfl, rfl, rfl⟩ (by refine ⟨?_, ?_, ?_, ?_, ?_⟩ <;> omega) HB0.out HB3.out HB1.out HB2.out rfl rfl (by simp [show ∀ k n, (Value.int k n).oneCell' = true from fun _ _ => rfl, show ∀ a n c, (Value.slice a n c).oneCell' = true from fun _ _ _ => rfl, hvf, hvn, hvb, hvw]) (by kernel_rfl) ?_
  have E1 : ((W3.drew.setRow (w.heap.size + 1) #[.int .i64 (x 0), .int .i64 (x 1), .int .i64 (x 2), .int .i64 (x 3), .int .i64 (x 4), .int .i64 (x 5), .int .i64 (x 6), .int .i64 (x 7), .int .i64 (x 8), .int .i64 (x 9), .int .i64 (x 10), .int .i64 (x 11), .int .i64 (x 12), .int .i64 (R.clock : Int), vt, .int .i64 (R.tickets : Int), vn, vb, vw]).setRow (w.heap.size + 1 + 1) #[.int .i64 0, .int .i64 0]).heap[w.heap.size + 1]? = some (.cells #[.int .i64 (x 0), .int .i64 (x 1), .int .i64 (x 2), .int .i64 (x 3), .int .i64 (x 4), .int .i64 (x 5), .int .i64 (x 6), .int .i64 (x 7), .int .i64 (x 8), .int .i64 (x 9), .int .i64 (x 10), .int .i64 (x 11), .int .i64 (x 12), .int .i64 (R.clock : Int), vt, .int .i64 (R.tickets : Int), vn, vb, vw] 33) := (setRow_other _ _ _ _ (by omega)).trans (setRow_heap W3.drew (w.heap.size + 1) #[.int .i64 0, .int .i64 0, .int .i64 0, .int .i64 0, .int .i64 0, .int .i64 0, .int .i64 0, .int .i64 0, .int .i64 0, .int .i64 0, .int .i64 0, .int .i64 0, .int .i64 0, .int .i64 0, .slice none 0 0, .int .i64 0, .slice none 0 0, .slice none 0 0, .slice none 0 0] #[.int .i64 (x 0), .int .i64 (x 1), .int .i64 (x 2), .int .i64 (x 3), .int .i64 (x 4), .int .i64 (x 5), .int .i64 (x 6), .int .i64 (x 7), .int .i64 (x 8), .int .i64 (x 9), .int .i64 (x 10), .int .i64 (x 11), .int .i64 (x 12), .int .i64 (R.clock : Int), vt, .int .i64 (R.tickets : Int), vn, vb, vw] 33 (0, 0) HB1.out)
  have E2 : ((W3.drew.setRow (w.heap.size + 1) #[.int .i64 (x 0), .int .i64 (x 1), .int .i64 (x 2), .int .i64 (x 3), .int .i64 (x 4), .int .i64 (x 5), .int .i64 (x 6), .int .i64 (x 7), .int .i64 (x 8), .int .i64 (x 9), .int .i64 (x 10), .int .i64 (x 11), .int .i64 (x 12), .int .i64 (R.clock : Int), vt, .int .i64 (R.tickets : Int), vn, vb, vw]).setRow (w.heap.size + 1 + 1) #[.int .i64 0, .int .i64 0]).heap[w.heap.size + 1 + 1]? = some (.cells #[.int .i64 0, .int .i64 0] 36) := setRow_heap (W3.drew.setRow (w.heap.size + 1) #[.int .i64 (x 0), .int .i64 (x 1), .int .i64 (x 2), .int .i64 (x 3), .int .i64 (x 4), .int .i64 (x 5), .int .i64 (x 6), .int .i64 (x 7), .int .i64 (x 8), .int .i64 (x 9), .int .i64 (x 10), .int .i64 (x 11), .int .i64 (x 12), .int .i64 (R.clock : Int), vt, .int .i64 (R.tickets : Int), vn, vb, vw]) (w.heap.size + 1 + 1) #[.int .i64 0, .int .i64 0] #[.int .i64 0, .int .i64 0] 36 (0, 0) ((setRow_other _ _ _ _ (by omega)).trans HB2.out)
  have HBE := Go.Lib.hid (below_setRow (below_setRow HB.out.drew (show w.heap.size ≤ w.heap.size + 1 by omega) #[.int .i64 (x 0), .int .i64 (x 1), .int .i64 (x 2), .int .i64 (x 3), .int .i64 (x 4), .int .i64 (x 5), .int .i64 (x 6), .int .i64 (x 7), .int .i64 (x 8), .int .i64 (x 9), .int .i64 (x 10), .int .i64 (x 11), .int .i64 (x 12), .int .i64 (R.clock : Int), vt, .int .i64 (R.tickets : Int), vn, vb, vw]) (show w.heap.size ≤ w.heap.size + 1 + 1 by omega) #[.int .i64 0, .int .i64 0])
  have HKE : Hid (∀ b, K b → ((W3.drew.setRow (w.heap.size + 1) #[.int .i64 (x 0), .int .i64 (x 1), .int .i64 (x 2), .int .i64 (x 3), .int .i64 (x 4), .int .i64 (x 5), .int .i64 (x 6), .int .i64 (x 7), .int .i64 (x 8), .int .i64 (x 9), .int .i64 (x 10), .int .i64 (x 11), .int .i64 (x 12), .int .i64 (R.clock : Int), vt, .int .i64 (R.tickets : Int), vn, vb, vw]).setRow (w.heap.size + 1 + 1) #[.int .i64 0, .int .i64 0]).heap[b]? = w.heap[b]?) := Go.Lib.hid (fun b hb => HBE.out.block b (HK.out b hb))
  generalize ((W3.drew.setRow (w.heap.size + 1) #[.int .i64 (x 0), .int .i64 (x 1), .int .i64 (x 2), .int .i64 (x 3), .int .i64 (x 4), .int .i64 (x 5), .int .i64 (x 6), .int .i64 (x 7), .int .i64 (x 8), .int .i64 (x 9), .int .i64 (x 10), .int .i64 (x 11), .int .i64 (x 12), .int .i64 (R.clock : Int), vt, .int .i64 (R.tickets : Int), vn, vb, vw]).setRow (w.heap.size + 1 + 1) #[.int .i64 0, .int .i64 0]) = We at *
  go_wp2_with fail
  exact bodyPost_ret (results_cct rfl _ _ _ rfl rfl rfl E1 E2 rfl Tryz.underlying33 (by kernel_rfl) rfl Tryz.underlying36 (by kernel_rfl)) rfl ⟨_, rfl, ⟨⟨_, _, _, _, rfl, (HFT.out.keep HKE.out).mono fun _ h => .inl h, (HN.out.keep HKE.out).mono fun _ h => .inl h, (HX.out.keep HKE.out).mono fun _ h => .inl h⟩, hvw⟩, HBE.out⟩
set_option maxHeartbeats 4000000 in
theorem ref16_Start_full (slack : Nat) (x : Nat → Int) (hx5 : x 5 = (slack : Int)) (R : ShopR) (hR : FitsR R) (vf vn vb vw : Value) (us : List Value) (K : Nat → Prop) (ticks shard user : Int) (w : World) (hf : KFree K w vf R.free) (hn : KNodes K w vn R.nodes) (hbx : KBoxes K w vb R.boxes us) (hK : ∀ b, K b → b < w.heap.size) (hvw : vw.oneCell' = true) (ht : -9223372036854775808 ≤ ticks ∧ ticks ≤ 9223372036854775807) (hu : -9223372036854775808 ≤ user ∧ user ≤ 9223372036854775807) (h1 : ¬ (ticks < 0 ∨ user < 0 ∨ ¬ shardR R shard)) (h2 : ¬ 1073741823 - (R.clock : Int) < ticks) (y : Nat) (fs : List Nat) (h3 : R.free = y :: fs) (h4 : ¬ (R.nodes.getD y default).gen = 4294967295) (h5 : R.tickets = 0) :
    Calls Tryz.prog 16 #[.agg #[.int .i64 (x 0), .int .i64 (x 1), .int .i64 (x 2), .int .i64 (x 3), .int .i64 (x 4), .int .i64 (x 5), .int .i64 (x 6), .int .i64 (x 7), .int .i64 (x 8), .int .i64 (x 9), .int .i64 (x 10), .int .i64 (x 11), .int .i64 (x 12), .int .i64 (R.clock : Int), vf, .int .i64 (R.tickets : Int), vn, vb, vw], .int .i64 ticks, .int .i64 shard, .int .i64 user] w fun e w' => StartEnd x vw K w (startR slack R ticks shard user) e w' := by
  have hvf := KRows.one hf
  have hvn := KRows.one hn
  have hvb := hbx.outer.one
  have HX5 := Go.Lib.hid hx5
  have HR := Go.Lib.hid hR
  have HF := Go.Lib.hid hf
  have HN := Go.Lib.hid hn
  have HX := Go.Lib.hid hbx
  have HK := Go.Lib.hid hK
  clear hx5 hR hf hn hbx hK
  have hb0 : Below w.heap.size w ((((w.alloc (.cells #[.int .i64 (x 0), .int .i64 (x 1), .int .i64 (x 2), .int .i64 (x 3), .int .i64 (x 4), .int .i64 (x 5), .int .i64 (x 6), .int .i64 (x 7), .int .i64 (x 8), .int .i64 (x 9), .int .i64 (x 10), .int .i64 (x 11), .int .i64 (x 12), .int .i64 (R.clock : Int), vf, .int .i64 (R.tickets : Int), vn, vb, vw] 33)).alloc (.cells #[.int .i64 0, .int .i64 0, .int .i64 0, .int .i64 0, .int .i64 0, .int .i64 0, .int .i64 0, .int .i64 0, .int .i64 0, .int .i64 0, .int .i64 0, .int .i64 0, .int .i64 0, .int .i64 0, .slice none 0 0, .int .i64 0, .slice none 0 0, .slice none 0 0, .slice none 0 0] 33)).alloc (.cells #[.int .i64 0, .int .i64 0] 36)).alloc (.cells #[.int .i64 0, .int .i64 0] 36)) := (((((Below.refl _ _).alloc (Nat.le_refl _) _).alloc (by simp) _).alloc (by simp; omega) _).alloc (by simp; omega) _)
  have b0 : ((((w.alloc (.cells #[.int .i64 (x 0), .int .i64 (x 1), .int .i64 (x 2), .int .i64 (x 3), .int .i64 (x 4), .int .i64 (x 5), .int .i64 (x 6), .int .i64 (x 7), .int .i64 (x 8), .int .i64 (x 9), .int .i64 (x 10), .int .i64 (x 11), .int .i64 (x 12), .int .i64 (R.clock : Int), vf, .int .i64 (R.tickets : Int), vn, vb, vw] 33)).alloc (.cells #[.int .i64 0, .int .i64 0, .int .i64 0, .int .i64 0, .int .i64 0, .int .i64 0, .int .i64 0, .int .i64 0, .int .i64 0, .int .i64 0, .int .i64 0, .int .i64 0, .int .i64 0, .int .i64 0, .slice none 0 0, .int .i64 0, .slice none 0 0, .slice none 0 0, .slice none 0 0] 33)).alloc (.cells #[.int .i64 0, .int .i64 0] 36)).alloc (.cells #[.int .i64 0, .int .i64 0] 36)).heap[w.heap.size]? = some (.cells #[.int .i64 (x 0), .int .i64 (x 1), .int .i64 (x 2), .int .i64 (x 3), .int .i64 (x 4), .int .i64 (x 5), .int .i64 (x 6), .int .i64 (x 7), .int .i64 (x 8), .int .i64 (x 9), .int .i64 (x 10), .int .i64 (x 11), .int .i64 (x 12), .int .i64 (R.clock : Int), vf, .int .i64 (R.tickets : Int), vn, vb, vw] 33) := by
    rw [Below.heap_alloc _ _ _ (by first | (simp; done) | (simp; omega))]
    rw [Below.heap_alloc _ _ _ (by first | (simp; done) | (simp; omega))]
    rw [Below.heap_alloc _ _ _ (by first | (simp; done) | (simp; omega))]
    have h := heap_alloc_new w (.cells #[.int .i64 (x 0), .int .i64 (x 1), .int .i64 (x 2), .int .i64 (x 3), .int .i64 (x 4), .int .i64 (x 5), .int .i64 (x 6), .int .i64 (x 7), .int .i64 (x 8), .int .i64 (x 9), .int .i64 (x 10), .int .i64 (x 11), .int .i64 (x 12), .int .i64 (R.clock : Int), vf, .int .i64 (R.tickets : Int), vn, vb, vw] 33)
    exact h
  have b1 : ((((w.alloc (.cells #[.int .i64 (x 0), .int .i64 (x 1), .int .i64 (x 2), .int .i64 (x 3), .int .i64 (x 4), .int .i64 (x 5), .int .i64 (x 6), .int .i64 (x 7), .int .i64 (x 8), .int .i64 (x 9), .int .i64 (x 10), .int .i64 (x 11), .int .i64 (x 12), .int .i64 (R.clock : Int), vf, .int .i64 (R.tickets : Int), vn, vb, vw] 33)).alloc (.cells #[.int .i64 0, .int .i64 0, .int .i64 0, .int .i64 0, .int .i64 0, .int .i64 0, .int .i64 0, .int .i64 0, .int .i64 0, .int .i64 0, .int .i64 0, .int .i64 0, .int .i64 0, .int .i64 0, .slice none 0 0, .int .i64 0, .slice none 0 0, .slice none 0 0, .slice none 0 0] 33)).alloc (.cells #[.int .i64 0, .int .i64 0] 36)).alloc (.cells #[.int .i64 0, .int .i64 0] 36)).heap[w.heap.size + 1]? = some (.cells #[.int .i64 0, .int .i64 0, .int .i64 0, .int .i64 0, .int .i64 0, .int .i64 0, .int .i64 0, .int .i64 0, .int .i64 0, .int .i64 0, .int .i64 0, .int .i64 0, .int .i64 0, .int .i64 0, .slice none 0 0, .int .i64 0, .slice none 0 0, .slice none 0 0, .slice none 0 0] 33) := by
    rw [Below.heap_alloc _ _ _ (by first | (simp; done) | (simp; omega))]
    rw [Below.heap_alloc _ _ _ (by first | (simp; done) | (simp; omega))]
    have h := heap_alloc_new (w.alloc (.cells #[.int .i64 (x 0), .int .i64 (x 1), .int .i64 (x 2), .int .i64 (x 3), .int .i64 (x 4), .int .i64 (x 5), .int .i64 (x 6), .int .i64 (x 7), .int .i64 (x 8), .int .i64 (x 9), .int .i64 (x 10), .int .i64 (x 11), .int .i64 (x 12), .int .i64 (R.clock : Int), vf, .int .i64 (R.tickets : Int), vn, vb, vw] 33)) (.cells #[.int .i64 0, .int .i64 0, .int .i64 0, .int .i64 0, .int .i64 0, .int .i64 0, .int .i64 0, .int .i64 0, .int .i64 0, .int .i64 0, .int .i64 0, .int .i64 0, .int .i64 0, .int .i64 0, .slice none 0 0, .int .i64 0, .slice none 0 0, .slice none 0 0, .slice none 0 0] 33)
    rw [World.size_alloc] at h
    exact h
  have b2 : ((((w.alloc (.cells #[.int .i64 (x 0), .int .i64 (x 1), .int .i64 (x 2), .int .i64 (x 3), .int .i64 (x 4), .int .i64 (x 5), .int .i64 (x 6), .int .i64 (x 7), .int .i64 (x 8), .int .i64 (x 9), .int .i64 (x 10), .int .i64 (x 11), .int .i64 (x 12), .int .i64 (R.clock : Int), vf, .int .i64 (R.tickets : Int), vn, vb, vw] 33)).alloc (.cells #[.int .i64 0, .int .i64 0, .int .i64 0, .int .i64 0, .int .i64 0, .int .i64 0, .int .i64 0, .int .i64 0, .int .i64 0, .int .i64 0, .int .i64 0, .int .i64 0, .int .i64 0, .int .i64 0, .slice none 0 0, .int .i64 0, .slice none 0 0, .slice none 0 0, .slice none 0 0] 33)).alloc (.cells #[.int .i64 0, .int .i64 0] 36)).alloc (.cells #[.int .i64 0, .int .i64 0] 36)).heap[w.heap.size + 1 + 1]? = some (.cells #[.int .i64 0, .int .i64 0] 36) := by
    rw [Below.heap_alloc _ _ _ (by first | (simp; done) | (simp; omega))]
    have h := heap_alloc_new ((w.alloc (.cells #[.int .i64 (x 0), .int .i64 (x 1), .int .i64 (x 2), .int .i64 (x 3), .int .i64 (x 4), .int .i64 (x 5), .int .i64 (x 6), .int .i64 (x 7), .int .i64 (x 8), .int .i64 (x 9), .int .i64 (x 10), .int .i64 (x 11), .int .i64 (x 12), .int .i64 (R.clock : Int), vf, .int .i64 (R.tickets : Int), vn, vb, vw] 33)).alloc (.cells #[.int .i64 0, .int .i64 0, .int .i64 0, .int .i64 0, .int .i64 0, .int .i64 0, .int .i64 0, .int .i64 0, .int .i64 0, .int .i64 0, .int .i64 0, .int .i64 0, .int .i64 0, .int .i64 0, .slice none 0 0, .int .i64 0, .slice none 0 0, .slice none 0 0, .slice none 0 0] 33)) (.cells #[.int .i64 0, .int .i64 0] 36)
    rw [World.size_alloc, World.size_alloc] at h
    exact h
  have b3 : ((((w.alloc (.cells #[.int .i64 (x 0), .int .i64 (x 1), .int .i64 (x 2), .int .i64 (x 3), .int .i64 (x 4), .int .i64 (x 5), .int .i64 (x 6), .int .i64 (x 7), .int .i64 (x 8), .int .i64 (x 9), .int .i64 (x 10), .int .i64 (x 11), .int .i64 (x 12), .int .i64 (R.clock : Int), vf, .int .i64 (R.tickets : Int), vn, vb, vw] 33)).alloc (.cells #[.int .i64 0, .int .i64 0, .int .i64 0, .int .i64 0, .int .i64 0, .int .i64 0, .int .i64 0, .int .i64 0, .int .i64 0, .int .i64 0, .int .i64 0, .int .i64 0, .int .i64 0, .int .i64 0, .slice none 0 0, .int .i64 0, .slice none 0 0, .slice none 0 0, .slice none 0 0] 33)).alloc (.cells #[.int .i64 0, .int .i64 0] 36)).alloc (.cells #[.int .i64 0, .int .i64 0] 36)).heap[w.heap.size + 1 + 1 + 1]? = some (.cells #[.int .i64 0, .int .i64 0] 36) := by
    have h := heap_alloc_new (((w.alloc (.cells #[.int .i64 (x 0), .int .i64 (x 1), .int .i64 (x 2), .int .i64 (x 3), .int .i64 (x 4), .int .i64 (x 5), .int .i64 (x 6), .int .i64 (x 7), .int .i64 (x 8), .int .i64 (x 9), .int .i64 (x 10), .int .i64 (x 11), .int .i64 (x 12), .int .i64 (R.clock : Int), vf, .int .i64 (R.tickets : Int), vn, vb, vw] 33)).alloc (.cells #[.int .i64 0, .int .i64 0, .int .i64 0, .int .i64 0, .int .i64 0, .int .i64 0, .int .i64 0, .int .i64 0, .int .i64 0, .int .i64 0, .int .i64 0, .int .i64 0, .int .i64 0, .int .i64 0, .slice none 0 0, .int .i64 0, .slice none 0 0, .slice none 0 0, .slice none 0 0] 33)).alloc (.cells #[.int .i64 0, .int .i64 0] 36)) (.cells #[.int .i64 0, .int .i64 0] 36)
    rw [World.size_alloc, World.size_alloc, World.size_alloc] at h
    exact h
  have HB := Go.Lib.hid hb0
  have HB0 := Go.Lib.hid b0
  have HB1 := Go.Lib.hid b1
  have HB2 := Go.Lib.hid b2
  have HB3 := Go.Lib.hid b3
  clear hb0 b0 b1 b2 b3
  have e : startR slack R ticks shard user = (R, 0, 0, 3) := by unfold startR; rw [if_neg h1, if_neg h2, h3]; dsimp only; rw [if_neg h4, if_pos h5]
  rw [e]
  clear e
  have q0 : decide (ticks < 0) = false := by simp; omega
  have q1 : decide (user < 0) = false := by simp; omega
  have hcl : (R.clock : Int) ≤ 1073741823 := by have := HR.out.cl; omega
  have hcl0 : (0 : Int) ≤ (R.clock : Int) := by omega
  have q2 : decide (1073741823 - (R.clock : Int) < ticks) = false := by simp; omega
  obtain ⟨pb, cb, hvbq, _⟩ := HX.out.outer.form
  rw [List.length_map] at hvbq
  have HSH : Hid (∀ W, Calls Tryz.prog 83 #[.agg #[.int .i64 (x 0), .int .i64 (x 1), .int .i64 (x 2), .int .i64 (x 3), .int .i64 (x 4), .int .i64 (x 5), .int .i64 (x 6), .int .i64 (x 7), .int .i64 (x 8), .int .i64 (x 9), .int .i64 (x 10), .int .i64 (x 11), .int .i64 (x 12), .int .i64 (R.clock : Int), vf, .int .i64 (R.tickets : Int), vn, vb, vw], .int .i64 shard] W fun e w' => e = .returned (.bool (decide (0 ≤ shard ∧ shard < (us.length : Int)))) ∧ Below W.heap.size W w') := Go.Lib.hid (fun W => by rw [hvbq]; exact ref16_Shard x (R.clock : Int) (R.tickets : Int) vf vn vw pb us.length cb shard W)
  have hsd : decide (0 ≤ shard ∧ shard < (us.length : Int)) = true := by have := HX.out.len; unfold shardR at h1; simp; omega
  rw [hsd] at HSH
  clear hvbq hsd
  have hyl : y < R.nodes.length := HR.out.fr y (by rw [h3]; exact List.mem_cons_self ..)
  obtain ⟨pf, cf, hvfq, hfc⟩ := HF.out.at'
  obtain ⟨gf, of, rfl, hfd⟩ := hfc 0 [.int .i64 (y : Int)] (by rw [h3]; rfl)
  have hy := hfd 0 _ rfl
  rw [Nat.zero_mul, Nat.add_zero] at hy
  rw [List.length_map, h3, List.length_cons] at hvfq
  obtain ⟨vt, hvt⟩ : ∃ vt : Value, vt = (.slice (if cf = 1 then some ⟨gf, of, none⟩ else some ⟨gf, of + 1, none⟩) fs.length (cf - 1)) := ⟨_, rfl⟩
  have HFT : Hid (KFree K w vt fs) := Go.Lib.hid (by rw [hvt]; have h := HF.out; rw [h3, hvfq] at h; have h := KRows.next h; rw [List.length_map] at h; exact h)
  have HVT := Go.Lib.hid hvt
  clear hvt
  obtain ⟨gn, on, cn, hvnq, hnc⟩ := NodesAt.at (HN.out.at') hyl
  obtain ⟨nd, hnd⟩ : ∃ nd, nd = R.nodes.getD y default := ⟨_, rfl⟩
  rw [← hnd] at hnc
  have HND := Go.Lib.hid hnd
  have HVF := Go.Lib.hid hvfq
  have HVN := Go.Lib.hid hvnq
  have HY := Go.Lib.hid hy
  have HNC := Go.Lib.hid hnc
  have q3 : (((fs.length : Int) + 1) == 0) = false := by simp; omega
  have hfl1 : (0 : Int) < (fs.length : Int) + 1 := by omega
  have hi1 : (0 : Int) ≤ (y : Int) := by omega
  have hi2 : (y : Int) < (R.nodes.length : Int) := by omega
  clear hvfq hfc hfd hnd hvnq hnc hy
  have hg4 : ¬ nd.gen = 4294967295 := by rw [HND.out]; exact h4
  have q4 : ((nd.gen : Int) == 4294967295) = false := by simp; omega
  clear hg4
  have q5 : ((R.tickets : Int) == 0) = true := by simp; omega
  clear h5
  go_enter Tryz.func16, Tryz.ntmps16
  go_upto_region 2 with (fail)
  generalize ((((w.alloc (.cells #[.int .i64 (x 0), .int .i64 (x 1), .int .i64 (x 2), .int .i64 (x 3), .int .i64 (x 4), .int .i64 (x 5), .int .i64 (x 6), .int .i64 (x 7), .int .i64 (x 8), .int .i64 (x 9), .int .i64 (x 10), .int .i64 (x 11), .int .i64 (x 12), .int .i64 (R.clock : Int), vf, .int .i64 (R.tickets : Int), vn, vb, vw] 33)).alloc (.cells #[.int .i64 0, .int .i64 0, .int .i64 0, .int .i64 0, .int .i64 0, .int .i64 0, .int .i64 0, .int .i64 0, .int .i64 0, .int .i64 0, .int .i64 0, .int .i64 0, .int .i64 0, .int .i64 0, .slice none 0 0, .int .i64 0, .slice none 0 0, .slice none 0 0, .slice none 0 0] 33)).alloc (.cells #[.int .i64 0, .int .i64 0] 36)).alloc (.cells #[.int .i64 0, .int .i64 0] 36)) = W at *
  go_upto_region 4 with (first
    | (refine wpList_load_row_g (o := ⟨some 22, .load 33 _, _, _, _, _⟩) (by rfl) 33 (.tmp 4) rfl (w.heap.size) rfl 33 #[.int .i64 (x 0), .int .i64 (x 1), .int .i64 (x 2), .int .i64 (x 3), .int .i64 (x 4), .int .i64 (x 5), .int .i64 (x 6), .int .i64 (x 7), .int .i64 (x 8), .int .i64 (x 9), .int .i64 (x 10), .int .i64 (x 11), .int .i64 (x 12), .int .i64 (R.clock : Int), vf, .int .i64 (R.tickets : Int), vn, vb, vw] (0, 0) _ HB0.out Tryz.underlying33 rfl (by kernel_rfl) ?_)
    | (go_at_call 83; refine (HSH.out _).mono ?_; rintro e W1 ⟨rfl, hb1⟩; have HB0 := Go.Lib.hid (Below.row hb1 HB0.out); have HB1 := Go.Lib.hid (Below.row hb1 HB1.out); have HB2 := Go.Lib.hid (Below.row hb1 HB2.out); have HB3 := Go.Lib.hid (Below.row hb1 HB3.out); have HB := Go.Lib.hid (HB.out.trans (hb1.mono HB.out.size)); clear hb1)
    | fail)
  have hsz3 := heap_lt HB3.out
  have c13 : W1.cell? ⟨w.heap.size, 13, none⟩ = some (.int .i64 (R.clock : Int)) := cell_of_row _ _ _ _ _ _ HB0.out
  have c14 : W1.cell? ⟨w.heap.size, 14, none⟩ = some (.slice (some ⟨gf, of, none⟩) (fs.length + 1) cf) := (cell_of_row _ _ _ _ _ _ HB0.out).trans (by rw [HVF.out]; rfl)
  have c16 : W1.cell? ⟨w.heap.size, 16, none⟩ = some (.slice (some ⟨gn, on, none⟩) R.nodes.length cn) := (cell_of_row _ _ _ _ _ _ HB0.out).trans (by rw [HVN.out]; rfl)
  have cy : W1.cell? ⟨gf, of, none⟩ = some (.int .i64 (y : Int)) := below_cell HB.out HY.out
  have n0 : W1.cell? ⟨gn, on + y * 7, none⟩ = some (.int .i64 (nd.gen : Int)) := below_cell HB.out (HNC.out 0 (by decide))
  have n1 : W1.cell? ⟨gn, on + y * 7 + 1, none⟩ = some (.int .i64 (nd.time : Int)) := below_cell HB.out (HNC.out 1 (by decide))
  have n2 : W1.cell? ⟨gn, on + y * 7 + 2, none⟩ = some (.int .i64 (nd.status : Int)) := below_cell HB.out (HNC.out 2 (by decide))
  have n3 : W1.cell? ⟨gn, on + y * 7 + 3, none⟩ = some (.int .i64 (nd.user : Int)) := below_cell HB.out (HNC.out 3 (by decide))
  have n4 : W1.cell? ⟨gn, on + y * 7 + 4, none⟩ = some (.int .i64 (nd.hgen : Int)) := below_cell HB.out (HNC.out 4 (by decide))
  have n5 : W1.cell? ⟨gn, on + y * 7 + 5, none⟩ = some (.int .i64 (nd.hver : Int)) := below_cell HB.out (HNC.out 5 (by decide))
  have n6 : W1.cell? ⟨gn, on + y * 7 + 6, none⟩ = some (.int .i64 (nd.hshard : Int)) := below_cell HB.out (HNC.out 6 (by decide))
  go_upto_region 10 with (fail)
  have hbN : Below W1.heap.size W1 (W1.alloc (.cells #[.int .i64 (nd.gen : Int), .int .i64 (nd.time : Int), .int .i64 (nd.status : Int), .int .i64 (nd.user : Int), .int .i64 (nd.hgen : Int), .int .i64 (nd.hver : Int), .int .i64 (nd.hshard : Int)] 122)) := (Below.refl _ _).alloc (Nat.le_refl _) _
  have HB0 := Go.Lib.hid (Below.row hbN HB0.out)
  have HB1 := Go.Lib.hid (Below.row hbN HB1.out)
  have HB2 := Go.Lib.hid (Below.row hbN HB2.out)
  have HB3 := Go.Lib.hid (Below.row hbN HB3.out)
  have HB := Go.Lib.hid (HB.out.trans (hbN.mono HB.out.size))
  have b4 : (W1.alloc (.cells #[.int .i64 (nd.gen : Int), .int .i64 (nd.time : Int), .int .i64 (nd.status : Int), .int .i64 (nd.user : Int), .int .i64 (nd.hgen : Int), .int .i64 (nd.hver : Int), .int .i64 (nd.hshard : Int)] 122)).heap[W1.heap.size]? = some (.cells #[.int .i64 (nd.gen : Int), .int .i64 (nd.time : Int), .int .i64 (nd.status : Int), .int .i64 (nd.user : Int), .int .i64 (nd.hgen : Int), .int .i64 (nd.hver : Int), .int .i64 (nd.hshard : Int)] 122) := heap_alloc_new _ _
  clear hbN c13 c14 c16 cy n0 n1 n2 n3 n4 n5 n6
  generalize (W1.alloc (.cells #[.int .i64 (nd.gen : Int), .int .i64 (nd.time : Int), .int .i64 (nd.status : Int), .int .i64 (nd.user : Int), .int .i64 (nd.hgen : Int), .int .i64 (nd.hver : Int), .int .i64 (nd.hshard : Int)] 122)) = W2 at *
  generalize W1.heap.size = g4 at *
  have HB4 := Go.Lib.hid b4
  clear b4
  have d0 : W2.cell? ⟨g4, 0, none⟩ = some (.int .i64 (nd.gen : Int)) := cell_of_row _ _ _ _ _ _ HB4.out
  have c15 : W2.cell? ⟨w.heap.size, 15, none⟩ = some (.int .i64 (R.tickets : Int)) := cell_of_row _ _ _ _ _ _ HB0.out
  go_upto_region 14 with (fail)
  clear d0 c15
  refine exit5 (b0 := w.heap.size) (b1 := w.heap.size + 1) (b2 := w.heap.size + 1 + 1) (b3 := w.heap.size + 1 + 1 + 1) (by kernel_rfl) (by kernel_rfl) (by kernel_rfl) (by kernel_rfl) ⟨by simp, by simp, by simp, by decide, by decide, by decide, by decide, by decide, by decide, by decide⟩ Tryz.underlying33 rfl (by kernel_rfl) Tryz.underlying36 rfl (by kernel_rfl) ⟨rfl, rfl, rfl, rfl⟩ (by refine ⟨?_, ?_, ?_, ?_, ?_⟩ <;> omega) HB0.out HB3.out HB1.out HB2.out rfl rfl (by simp [show ∀ k n, (Value.int k n).oneCell' = true from fun _ _ => rfl, show ∀ a n c, (Value.slice a n c).oneCell' = true from fun _ _ _ => rfl, hvf, hvn, hvb, hvw]) (by kernel_rfl) ?_
  have E1 : ((W2.drew.setRow (w.heap.size + 1) #[.int .i64 (x 0), .int .i64 (x 1), .int .i64 (x 2), .int .i64 (x 3), .int .i64 (x 4), .int .i64 (x 5), .int .i64 (x 6), .int .i64 (x 7), .int .i64 (x 8), .int .i64 (x 9), .int .i64 (x 10), .int .i64 (x 11), .int .i64 (x 12), .int .i64 (R.clock : Int), vf, .int .i64 (R.tickets : Int), vn, vb, vw]).setRow (w.heap.size + 1 + 1) #[.int .i64 0, .int .i64 0]).heap[w.heap.size + 1]? = some (.cells #[.int .i64 (x 0), .int .i64 (x 1), .int .i64 (x 2), .int .i64 (x 3), .int .i64 (x 4), .int .i64 (x 5), .int .i64 (x 6), .int .i64 (x 7), .int .i64 (x 8), .int .i64 (x 9), .int .i64 (x 10), .int .i64 (x 11), .int .i64 (x 12), .int .i64 (R.clock : Int), vf, .int .i64 (R.tickets : Int), vn, vb, vw] 33) := (setRow_other _ _ _ _ (by omega)).trans (setRow_heap W2.drew (w.heap.size + 1) #[.int .i64 0, .int .i64 0, .int .i64 0, .int .i64 0, .int .i64 0, .int .i64 0, .int .i64 0, .int .i64 0, .int .i64 0, .int .i64 0, .int .i64 0, .int .i64 0, .int .i64 0, .int .i64 0, .slice none 0 0, .int .i64 0, .slice none 0 0, .slice none 0 0, .slice none 0 0] #[.int .i64 (x 0), .int .i64 (x 1), .int .i64 (x 2), .int .i64 (x 3), .int .i64 (x 4), .int .i64 (x 5), .int .i64 (x 6), .int .i64 (x 7), .int .i64 (x 8), .int .i64 (x 9), .int .i64 (x 10), .int .i64 (x 11), .int .i64 (x 12), .int .i64 (R.clock : Int), vf, .int .i64 (R.tickets : Int), vn, vb, vw] 33 (0, 0) HB1.out)
  have E2 : ((W2.drew.setRow (w.heap.size + 1) #[.int .i64 (x 0), .int .i64 (x 1), .int .i64 (x 2), .int .i64 (x 3), .int .i64 (x 4), .int .i64 (x 5), .int .i64 (x 6), .int .i64 (x 7), .int .i64 (x 8), .int .i64 (x 9), .int .i64 (x 10), .int .i64 (x 11), .int .i64 (x 12), .int .i64 (R.clock : Int), vf, .int .i64 (R.tickets : Int), vn, vb, vw]).setRow (w.heap.size + 1 + 1) #[.int .i64 0, .int .i64 0]).heap[w.heap.size + 1 + 1]? = some (.cells #[.int .i64 0, .int .i64 0] 36) := setRow_heap (W2.drew.setRow (w.heap.size + 1) #[.int .i64 (x 0), .int .i64 (x 1), .int .i64 (x 2), .int .i64 (x 3), .int .i64 (x 4), .int .i64 (x 5), .int .i64 (x 6), .int .i64 (x 7), .int .i64 (x 8), .int .i64 (x 9), .int .i64 (x 10), .int .i64 (x 11), .int .i64 (x 12), .int .i64 (R.clock : Int), vf, .int .i64 (R.tickets : Int), vn, vb, vw]) (w.heap.size + 1 + 1) #[.int .i64 0, .int .i64 0] #[.int .i64 0, .int .i64 0] 36 (0, 0) ((setRow_other _ _ _ _ (by omega)).trans HB2.out)
  have HBE := Go.Lib.hid (below_setRow (below_setRow HB.out.drew (show w.heap.size ≤ w.heap.size + 1 by omega) #[.int .i64 (x 0), .int .i64 (x 1), .int .i64 (x 2), .int .i64 (x 3), .int .i64 (x 4), .int .i64 (x 5), .int .i64 (x 6), .int .i64 (x 7), .int .i64 (x 8), .int .i64 (x 9), .int .i64 (x 10), .int .i64 (x 11), .int .i64 (x 12), .int .i64 (R.clock : Int), vf, .int .i64 (R.tickets : Int), vn, vb, vw]) (show w.heap.size ≤ w.heap.size + 1 + 1 by omega) #[.int .i64 0, .int .i64 0])
  have HKE : Hid (∀ b, K b → ((W2.drew.setRow (w.heap.size + 1) #[.int .i64 (x 0), .int .i64 (x 1), .int .i64 (x 2), .int .i64 (x 3), .int .i64 (x 4), .int .i64 (x 5), .int .i64 (x 6), .int .i64 (x 7), .int .i64 (x 8), .int .i64 (x 9), .int .i64 (x 10), .int .i64 (x 11), .int .i64 (x 12), .int .i64 (R.clock : Int), vf, .int .i64 (R.tickets : Int), vn, vb, vw]).setRow (w.heap.size + 1 + 1) #[.int .i64 0, .int .i64 0]).heap[b]? = w.heap[b]?) := Go.Lib.hid (fun b hb => HBE.out.block b (HK.out b hb))
  generalize ((W2.drew.setRow (w.heap.size + 1) #[.int .i64 (x 0), .int .i64 (x 1), .int .i64 (x 2), .int .i64 (x 3), .int .i64 (x 4), .int .i64 (x 5), .int .i64 (x 6), .int .i64 (x 7), .int .i64 (x 8), .int .i64 (x 9), .int .i64 (x 10), .int .i64 (x 11), .int .i64 (x 12), .int .i64 (R.clock : Int), vf, .int .i64 (R.tickets : Int), vn, vb, vw]).setRow (w.heap.size + 1 + 1) #[.int .i64 0, .int .i64 0]) = We at *
  go_wp2_with fail
  exact bodyPost_ret (results_cct rfl _ _ _ rfl rfl rfl E1 E2 rfl Tryz.underlying33 (by kernel_rfl) rfl Tryz.underlying36 (by kernel_rfl)) rfl ⟨_, rfl, ⟨⟨_, _, _, _, rfl, (HF.out.keep HKE.out).mono fun _ h => .inl h, (HN.out.keep HKE.out).mono fun _ h => .inl h, (HX.out.keep HKE.out).mono fun _ h => .inl h⟩, hvw⟩, HBE.out⟩
end Go.Proofs.YtgemjjpmoejgdaaGreat
