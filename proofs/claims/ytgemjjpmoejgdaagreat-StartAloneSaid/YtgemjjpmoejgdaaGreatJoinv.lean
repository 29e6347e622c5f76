/- The document's Start: it takes effect. -/
import Derived.Test.YtgemjjpmoejgdaaGreatJoinu
namespace Go.Proofs.YtgemjjpmoejgdaaGreat
open Go.RowKit
set_option maxRecDepth 100000
set_option linter.unusedVariables false

def tab22 (v0 v1 v2 v3 v4 v5 v6 v7 v8 v9 v11 v12 v13 v14 v17 : Value) : List (Nat × Nat × Value) := [(0, 89, v0), (1, 90, v1), (2, 91, v2), (3, 92, v3), (4, 93, v4), (5, 94, v5), (6, 95, v6), (7, 96, v7), (8, 97, v8), (9, 98, v9), (11, 100, v11), (12, 101, v12), (13, 102, v13), (14, 103, v14), (17, 10, v17)]
theorem tab22_n (v0 v1 v2 v3 v4 v5 v6 v7 v8 v9 v11 v12 v13 v14 v17 : Value) : ((tab22 v0 v1 v2 v3 v4 v5 v6 v7 v8 v9 v11 v12 v13 v14 v17).map Prod.fst).Nodup := by
  show [0, 1, 2, 3, 4, 5, 6, 7, 8, 9, 11, 12, 13, 14, 17].Nodup
  decide

set_option maxHeartbeats 4000000 in
theorem ref16_Start_ok (slack : Nat) (x : Nat → Int) (hx5 : x 5 = (slack : Int)) (R : ShopR) (hR : FitsR R) (vf vn vb vw : Value) (us : List Value) (K : Nat → Prop) (ticks shard user : Int) (w : World) (hf : KFree K w vf R.free) (hn : KNodes K w vn R.nodes) (hbx : KBoxes K w vb R.boxes us) (hK : ∀ b, K b → b < w.heap.size) (hvw : vw.oneCell' = true) (ht : -9223372036854775808 ≤ ticks ∧ ticks ≤ 9223372036854775807) (hu : -9223372036854775808 ≤ user ∧ user ≤ 9223372036854775807) (h1 : ¬ (ticks < 0 ∨ user < 0 ∨ ¬ shardR R shard)) (h2 : ¬ 1073741823 - (R.clock : Int) < ticks) (y : Nat) (fs : List Nat) (h3 : R.free = y :: fs) (h4 : ¬ (R.nodes.getD y default).gen = 4294967295) (h5 : ¬ R.tickets = 0) :
    Calls Tryz.prog 16 #[.agg #[.int .i64 (x 0), .int .i64 (x 1), .int .i64 (x 2), .int .i64 (x 3), .int .i64 (x 4), .int .i64 (x 5), .int .i64 (x 6), .int .i64 (x 7), .int .i64 (x 8), .int .i64 (x 9), .int .i64 (x 10), .int .i64 (x 11), .int .i64 (x 12), .int .i64 (R.clock : Int), vf, .int .i64 (R.tickets : Int), vn, vb, vw], .int .i64 ticks, .int .i64 shard, .int .i64 user] w fun e w' => StartEnd x vw K w (startR slack R ticks shard user) e w' := by
  have hvf := KRows.one hf
  have hvn := KRows.one hn
  have hvb := hbx.outer.one
  have HX5 := Go.Lib.hid hx5
  have HR := Go.Lib.hid hR
  have HF := Go.Lib.hid hf
  have HN := Go.Lib.hid hn
  have HX := Go.Lib.hid hbx
  have HK := Go.Lib.hid hK
  clear hx5 hR hf hn hbx hK
  have hb0 : Below w.heap.size w ((((w.alloc (.cells #[.int .i64 (x 0), .int .i64 (x 1), .int .i64 (x 2), .int .i64 (x 3), .int .i64 (x 4), .int .i64 (x 5), .int .i64 (x 6), .int .i64 (x 7), .int .i64 (x 8), .int .i64 (x 9), .int .i64 (x 10), .int .i64 (x 11), .int .i64 (x 12), .int .i64 (R.clock : Int), vf, .int .i64 (R.tickets : Int), vn, vb, vw] 33)).alloc (.cells #[.int .i64 0, .int .i64 0, .int .i64 0, .int .i64 0, .int .i64 0, .int .i64 0, .int .i64 0, .int .i64 0, .int .i64 0, .int .i64 0, .int .i64 0, .int .i64 0, .int .i64 0, .int .i64 0, .slice none 0 0, .int .i64 0, .slice none 0 0, .slice none 0 0, .slice none 0 0] 33)).alloc (.cells #[.int .i64 0, .int .i64 0] 36)).alloc (.cells #[.int .i64 0, .int .i64 0] 36)) := (((((Below.refl _ _).alloc (Nat.le_refl _) _).alloc (by simp) _).alloc (by simp; omega) _).alloc (by simp; omega) _)
  have b0 : ((((w.alloc (.cells #[.int .i64 (x 0), .int .i64 (x 1), .int .i64 (x 2), .int .i64 (x 3), .int .i64 (x 4), .int .i64 (x 5), .int .i64 (x 6), .int .i64 (x 7), .int .i64 (x 8), .int .i64 (x 9), .int .i64 (x 10), .int .i64 (x 11), .int .i64 (x 12), .int .i64 (R.clock : Int), vf, .int .i64 (R.tickets : Int), vn, vb, vw] 33)).alloc (.cells #[.int .i64 0, .int .i64 0, .int .i64 0, .int .i64 0, .int .i64 0, .int .i64 0, .int .i64 0, .int .i64 0, .int .i64 0, .int .i64 0, .int .i64 0, .int .i64 0, .int .i64 0, .int .i64 0, .slice none 0 0, .int .i64 0, .slice none 0 0, .slice none 0 0, .slice none 0 0] 33)).alloc (.cells #[.int .i64 0, .int .i64 0] 36)).alloc (.cells #[.int .i64 0, .int .i64 0] 36)).heap[w.heap.size]? = some (.cells #[.int .i64 (x 0), .int .i64 (x 1), .int .i64 (x 2), .int .i64 (x 3), .int .i64 (x 4), .int .i64 (x 5), .int .i64 (x 6), .int .i64 (x 7), .int .i64 (x 8), .int .i64 (x 9), .int .i64 (x 10), .int .i64 (x 11), .int .i64 (x 12), .int .i64 (R.clock : Int), vf, .int .i64 (R.tickets : Int), vn, vb, vw] 33) := by
    rw [Below.heap_alloc _ _ _ (by first | (simp; done) | (simp; omega))]
    rw [Below.heap_alloc _ _ _ (by first | (simp; done) | (simp; omega))]
    rw [Below.heap_alloc _ _ _ (by first | (simp; done) | (simp; omega))]
    have h := heap_alloc_new w (.cells #[.int .i64 (x 0), .int .i64 (x 1), .int .i64 (x 2), .int .i64 (x 3), .int .i64 (x 4), .int .i64 (x 5), .int .i64 (x 6), .int .i64 (x 7), .int .i64 (x 8), .int .i64 (x 9), .int .i64 (x 10), .int .i64 (x 11), .int .i64 (x 12), .int .i64 (R.clock : Int), vf, .int .i64 (R.tickets : Int), vn, vb, vw] 33)
    exact h
  have b1 : ((((w.alloc (.cells #[.int .i64 (x 0), .int .i64 (x 1), .int .i64 (x 2), .int .i64 (x 3), .int .i64 (x 4), .int .i64 (x 5), .int .i64 (x 6), .int .i64 (x 7), .int .i64 (x 8), .int .i64 (x 9), .int .i64 (x 10), .int .i64 (x 11), .int .i64 (x 12), .int .i64 (R.clock : Int), vf, .int .i64 (R.tickets : Int), vn, vb, vw] 33)).alloc (.cells #[.int .i64 0, .int .i64 0, .int .i64 0, .int .i64 0, .int .i64 0, .int .i64 0, .int .i64 0, .int .i64 0, .int .i64 0, .int .i64 0, .int .i64 0, .int .i64 0, .int .i64 0, .int .i64 0, .slice none 0 0, .int .i64 0, .slice none 0 0, .slice none 0 0, .slice none 0 0] 33)).alloc (.cells #[.int .i64 0, .int .i64 0] 36)).alloc (.cells #[.int .i64 0, .int .i64 0] 36)).heap[w.heap.size + 1]? = some (.cells #[.int .i64 0, .int .i64 0, .int .i64 0, .int .i64 0, .int .i64 0, .int .i64 0, .int .i64 0, .int .i64 0, .int .i64 0, .int .i64 0, .int .i64 0, .int .i64 0, .int .i64 0, .int .i64 0, .slice none 0 0, .int .i64 0, .slice none 0 0, .slice none 0 0, .slice none 0 0] 33) := by
    rw [Below.heap_alloc _ _ _ (by first | (simp; done) | (simp; omega))]
    rw [Below.heap_alloc _ _ _ (by first | (simp; done) | (simp; omega))]
    have h := heap_alloc_new (w.alloc (.cells #[.int .i64 (x 0), .int .i64 (x 1), .int .i64 (x 2), .int .i64 (x 3), .int .i64 (x 4), .int .i64 (x 5), .int .i64 (x 6), .int .i64 (x 7), .int .i64 (x 8), .int .i64 (x 9), .int .i64 (x 10), .int .i64 (x 11), .int .i64 (x 12), .int .i64 (R.clock : Int), vf, .int .i64 (R.tickets : Int), vn, vb, vw] 33)) (.cells #[.int .i64 0, .int .i64 0, .int .i64 0, .int .i64 0, .int .i64 0, .int .i64 0, .int .i64 0, .int .i64 0, .int .i64 0, .int .i64 0, .int .i64 0, .int .i64 0, .int .i64 0, .int .i64 0, .slice none 0 0, .int .i64 0, .slice none 0 0, .slice none 0 0, .slice none 0 0] 33)
    rw [World.size_alloc] at h
    exact h
  have b2 : ((((w.alloc (.cells #[.int .i64 (x 0), .int .i64 (x 1), .int .i64 (x 2), .int .i64 (x 3), .int .i64 (x 4), .int .i64 (x 5), .int .i64 (x 6), .int .i64 (x 7), .int .i64 (x 8), .int .i64 (x 9), .int .i64 (x 10), .int .i64 (x 11), .int .i64 (x 12), .int .i64 (R.clock : Int), vf, .int .i64 (R.tickets : Int), vn, vb, vw] 33)).alloc (.cells #[.int .i64 0, .int .i64 0, .int .i64 0, .int .i64 0, .int .i64 0, .int .i64 0, .int .i64 0, .int .i64 0, .int .i64 0, .int .i64 0, .int .i64 0, .int .i64 0, .int .i64 0, .int .i64 0, .slice none 0 0, .int .i64 0, .slice none 0 0, .slice none 0 0, .slice none 0 0] 33)).alloc (.cells #[.int .i64 0, .int .i64 0] 36)).alloc (.cells #[.int .i64 0, .int .i64 0] 36)).heap[w.heap.size + 1 + 1]? = some (.cells #[.int .i64 0, .int .i64 0] 36) := by
    rw [Below.heap_alloc _ _ _ (by first | (simp; done) | (simp; omega))]
    have h := heap_alloc_new ((w.alloc (.cells #[.int .i64 (x 0), .int .i64 (x 1), .int .i64 (x 2), .int .i64 (x 3), .int .i64 (x 4), .int .i64 (x 5), .int .i64 (x 6), .int .i64 (x 7), .int .i64 (x 8), .int .i64 (x 9), .int .i64 (x 10), .int .i64 (x 11), .int .i64 (x 12), .int .i64 (R.clock : Int), vf, .int .i64 (R.tickets : Int), vn, vb, vw] 33)).alloc (.cells #[.int .i64 0, .int .i64 0, .int .i64 0, .int .i64 0, .int .i64 0, .int .i64 0, .int .i64 0, .int .i64 0, .int .i64 0, .int .i64 0, .int .i64 0, .int .i64 0, .int .i64 0, .int .i64 0, .slice none 0 0, .int .i64 0, .slice none 0 0, .slice none 0 0, .slice none 0 0] 33)) (.cells #[.int .i64 0, .int .i64 0] 36)
    rw [World.size_alloc, World.size_alloc] at h
    exact h
  have b3 : ((((w.alloc (.cells #[.int .i64 (x 0), .int .i64 (x 1), .int .i64 (x 2), .int .i64 (x 3), .int .i64 (x 4), .int .i64 (x 5), .int .i64 (x 6), .int .i64 (x 7), .int .i64 (x 8), .int .i64 (x 9), .int .i64 (x 10), .int .i64 (x 11), .int .i64 (x 12), .int .i64 (R.clock : Int), vf, .int .i64 (R.tickets : Int), vn, vb, vw] 33)).alloc (.cells #[.int .i64 0, .int .i64 0, .int .i64 0, .int .i64 0, .int .i64 0, .int .i64 0, .int .i64 0, .int .i64 0, .int .i64 0, .int .i64 0, .int .i64 0, .int .i64 0, .int .i64 0, .int .i64 0, .slice none 0 0, .int .i64 0, .slice none 0 0, .slice none 0 0, .slice none 0 0] 33)).alloc (.cells #[.int .i64 0, .int .i64 0] 36)).alloc (.cells #[.int .i64 0, .int .i64 0] 36)).heap[w.heap.size + 1 + 1 + 1]? = some (.cells #[.int .i64 0, .int .i64 0] 36) := by
    have h := heap_alloc_new (((w.alloc (.cells #[.int .i64 (x 0), .int .i64 (x 1), .int .i64 (x 2), .int .i64 (x 3), .int .i64 (x 4), .int .i64 (x 5), .int .i64 (x 6), .int .i64 (x 7), .int .i64 (x 8), .int .i64 (x 9), .int .i64 (x 10), .int .i64 (x 11), .int .i64 (x 12), .int .i64 (R.clock : Int), vf, .int .i64 (R.tickets : Int), vn, vb, vw] 33)).alloc (.cells #[.int .i64 0, .int .i64 0, .int .i64 0, .int .i64 0, .int .i64 0, .int .i64 0, .int .i64 0, .int .i64 0, .int .i64 0, .int .i64 0, .int .i64 0, .int .i64 0, .int .i64 0, .int .i64 0, .slice none 0 0, .int .i64 0, .slice none 0 0, .slice none 0 0, .slice none 0 0] 33)).alloc (.cells #[.int .i64 0, .int .i64 0] 36)) (.cells #[.int .i64 0, .int .i64 0] 36)
    rw [World.size_alloc, World.size_alloc, World.size_alloc] at h
    exact h
  have HB := Go.Lib.hid hb0
  have HB0 := Go.Lib.hid b0
  have HB1 := Go.Lib.hid b1
  have HB2 := Go.Lib.hid b2
  have HB3 := Go.Lib.hid b3
  clear hb0 b0 b1 b2 b3
  have e := startR_parts slack R ticks shard user h1 h2 h3 h4 h5
  rw [e]
  clear e
  have q0 : decide (ticks < 0) = false := by simp; omega
  have q1 : decide (user < 0) = false := by simp; omega
  have hcl : (R.clock : Int) ≤ 1073741823 := by have := HR.out.cl; omega
  have hcl0 : (0 : Int) ≤ (R.clock : Int) := by omega
  have q2 : decide (1073741823 - (R.clock : Int) < ticks) = false := by simp; omega
  obtain ⟨pb, cb, hvbq, _⟩ := HX.out.outer.form
  rw [List.length_map] at hvbq
  have HSH : Hid (∀ W, Calls Tryz.prog 83 #[.agg #[.int .i64 (x 0), .int .i64 (x 1), .int .i64 (x 2), .int .i64 (x 3), .int .i64 (x 4), .int .i64 (x 5), .int .i64 (x 6), .int .i64 (x 7), .int .i64 (x 8), .int .i64 (x 9), .int .i64 (x 10), .int .i64 (x 11), .int .i64 (x 12), .int .i64 (R.clock : Int), vf, .int .i64 (R.tickets : Int), vn, vb, vw], .int .i64 shard] W fun e w' => e = .returned (.bool (decide (0 ≤ shard ∧ shard < (us.length : Int)))) ∧ Below W.heap.size W w') := Go.Lib.hid (fun W => by rw [hvbq]; exact ref16_Shard x (R.clock : Int) (R.tickets : Int) vf vn vw pb us.length cb shard W)
  have hsd : decide (0 ≤ shard ∧ shard < (us.length : Int)) = true := by have := HX.out.len; unfold shardR at h1; simp; omega
  rw [hsd] at HSH
  clear hvbq hsd
  have hyl : y < R.nodes.length := HR.out.fr y (by rw [h3]; exact List.mem_cons_self ..)
  obtain ⟨pf, cf, hvfq, hfc⟩ := HF.out.at'
  obtain ⟨gf, of, rfl, hfd⟩ := hfc 0 [.int .i64 (y : Int)] (by rw [h3]; rfl)
  have hy := hfd 0 _ rfl
  rw [Nat.zero_mul, Nat.add_zero] at hy
  rw [List.length_map, h3, List.length_cons] at hvfq
  obtain ⟨vt, hvt⟩ : ∃ vt : Value, vt = (.slice (if cf = 1 then some ⟨gf, of, none⟩ else some ⟨gf, of + 1, none⟩) fs.length (cf - 1)) := ⟨_, rfl⟩
  have HFT : Hid (KFree K w vt fs) := Go.Lib.hid (by rw [hvt]; have h := HF.out; rw [h3, hvfq] at h; have h := KRows.next h; rw [List.length_map] at h; exact h)
  have HVT := Go.Lib.hid hvt
  clear hvt
  obtain ⟨gn, on, cn, hvnq, hnc⟩ := NodesAt.at (HN.out.at') hyl
  obtain ⟨nd, hnd⟩ : ∃ nd, nd = R.nodes.getD y default := ⟨_, rfl⟩
  rw [← hnd] at hnc
  have HND := Go.Lib.hid hnd
  have HVF := Go.Lib.hid hvfq
  have HVN := Go.Lib.hid hvnq
  have HY := Go.Lib.hid hy
  have HNC := Go.Lib.hid hnc
  have q3 : (((fs.length : Int) + 1) == 0) = false := by simp; omega
  have hfl1 : (0 : Int) < (fs.length : Int) + 1 := by omega
  have hi1 : (0 : Int) ≤ (y : Int) := by omega
  have hi2 : (y : Int) < (R.nodes.length : Int) := by omega
  clear hvfq hfc hfd hnd hvnq hnc hy
  have hg4 : ¬ nd.gen = 4294967295 := by rw [HND.out]; exact h4
  have q4 : ((nd.gen : Int) == 4294967295) = false := by simp; omega
  clear hg4
  have q5 : ((R.tickets : Int) == 0) = false := by simp; omega
  have hgn : nd.gen ≤ 4294967295 := by rw [HND.out, List.getD_eq_getElem?_getD, List.getElem?_eq_getElem hyl]; exact (HR.out.gn _ (List.getElem_mem hyl)).1
  have htk : R.tickets ≤ 100000 := HR.out.tk
  go_enter Tryz.func16, Tryz.ntmps16
  go_upto_region 2 with (fail)
  generalize ((((w.alloc (.cells #[.int .i64 (x 0), .int .i64 (x 1), .int .i64 (x 2), .int .i64 (x 3), .int .i64 (x 4), .int .i64 (x 5), .int .i64 (x 6), .int .i64 (x 7), .int .i64 (x 8), .int .i64 (x 9), .int .i64 (x 10), .int .i64 (x 11), .int .i64 (x 12), .int .i64 (R.clock : Int), vf, .int .i64 (R.tickets : Int), vn, vb, vw] 33)).alloc (.cells #[.int .i64 0, .int .i64 0, .int .i64 0, .int .i64 0, .int .i64 0, .int .i64 0, .int .i64 0, .int .i64 0, .int .i64 0, .int .i64 0, .int .i64 0, .int .i64 0, .int .i64 0, .int .i64 0, .slice none 0 0, .int .i64 0, .slice none 0 0, .slice none 0 0, .slice none 0 0] 33)).alloc (.cells #[.int .i64 0, .int .i64 0] 36)).alloc (.cells #[.int .i64 0, .int .i64 0] 36)) = W at *
  go_upto_region 4 with (first
    | (refine wpList_load_row_g (o := ⟨some 22, .load 33 _, _, _, _, _⟩) (by rfl) 33 (.tmp 4) rfl (w.heap.size) rfl 33 #[.int .i64 (x 0), .int .i64 (x 1), .int .i64 (x 2), .int .i64 (x 3), .int .i64 (x 4), .int .i64 (x 5), .int .i64 (x 6), .int .i64 (x 7), .int .i64 (x 8), .int .i64 (x 9), .int .i64 (x 10), .int .i64 (x 11), .int .i64 (x 12), .int .i64 (R.clock : Int), vf, .int .i64 (R.tickets : Int), vn, vb, vw] (0, 0) _ HB0.out Tryz.underlying33 rfl (by kernel_rfl) ?_)
    | (go_at_call 83; refine (HSH.out _).mono ?_; rintro e W1 ⟨rfl, hb1⟩; have HB0 := Go.Lib.hid (Below.row hb1 HB0.out); have HB1 := Go.Lib.hid (Below.row hb1 HB1.out); have HB2 := Go.Lib.hid (Below.row hb1 HB2.out); have HB3 := Go.Lib.hid (Below.row hb1 HB3.out); have HB := Go.Lib.hid (HB.out.trans (hb1.mono HB.out.size)); clear hb1)
    | fail)
  have hsz3 := heap_lt HB3.out
  have c13 : W1.cell? ⟨w.heap.size, 13, none⟩ = some (.int .i64 (R.clock : Int)) := cell_of_row _ _ _ _ _ _ HB0.out
  have c14 : W1.cell? ⟨w.heap.size, 14, none⟩ = some (.slice (some ⟨gf, of, none⟩) (fs.length + 1) cf) := (cell_of_row _ _ _ _ _ _ HB0.out).trans (by rw [HVF.out]; rfl)
  have c16 : W1.cell? ⟨w.heap.size, 16, none⟩ = some (.slice (some ⟨gn, on, none⟩) R.nodes.length cn) := (cell_of_row _ _ _ _ _ _ HB0.out).trans (by rw [HVN.out]; rfl)
  have cy : W1.cell? ⟨gf, of, none⟩ = some (.int .i64 (y : Int)) := below_cell HB.out HY.out
  have n0 : W1.cell? ⟨gn, on + y * 7, none⟩ = some (.int .i64 (nd.gen : Int)) := below_cell HB.out (HNC.out 0 (by decide))
  have n1 : W1.cell? ⟨gn, on + y * 7 + 1, none⟩ = some (.int .i64 (nd.time : Int)) := below_cell HB.out (HNC.out 1 (by decide))
  have n2 : W1.cell? ⟨gn, on + y * 7 + 2, none⟩ = some (.int .i64 (nd.status : Int)) := below_cell HB.out (HNC.out 2 (by decide))
  have n3 : W1.cell? ⟨gn, on + y * 7 + 3, none⟩ = some (.int .i64 (nd.user : Int)) := below_cell HB.out (HNC.out 3 (by decide))
  have n4 : W1.cell? ⟨gn, on + y * 7 + 4, none⟩ = some (.int .i64 (nd.hgen : Int)) := below_cell HB.out (HNC.out 4 (by decide))
  have n5 : W1.cell? ⟨gn, on + y * 7 + 5, none⟩ = some (.int .i64 (nd.hver : Int)) := below_cell HB.out (HNC.out 5 (by decide))
  have n6 : W1.cell? ⟨gn, on + y * 7 + 6, none⟩ = some (.int .i64 (nd.hshard : Int)) := below_cell HB.out (HNC.out 6 (by decide))
  go_upto_region 10 with (fail)
  have hbN : Below W1.heap.size W1 (W1.alloc (.cells #[.int .i64 (nd.gen : Int), .int .i64 (nd.time : Int), .int .i64 (nd.status : Int), .int .i64 (nd.user : Int), .int .i64 (nd.hgen : Int), .int .i64 (nd.hver : Int), .int .i64 (nd.hshard : Int)] 122)) := (Below.refl _ _).alloc (Nat.le_refl _) _
  have HB0 := Go.Lib.hid (Below.row hbN HB0.out)
  have HB1 := Go.Lib.hid (Below.row hbN HB1.out)
  have HB2 := Go.Lib.hid (Below.row hbN HB2.out)
  have HB3 := Go.Lib.hid (Below.row hbN HB3.out)
  have HB := Go.Lib.hid (HB.out.trans (hbN.mono HB.out.size))
  have b4 : (W1.alloc (.cells #[.int .i64 (nd.gen : Int), .int .i64 (nd.time : Int), .int .i64 (nd.status : Int), .int .i64 (nd.user : Int), .int .i64 (nd.hgen : Int), .int .i64 (nd.hver : Int), .int .i64 (nd.hshard : Int)] 122)).heap[W1.heap.size]? = some (.cells #[.int .i64 (nd.gen : Int), .int .i64 (nd.time : Int), .int .i64 (nd.status : Int), .int .i64 (nd.user : Int), .int .i64 (nd.hgen : Int), .int .i64 (nd.hver : Int), .int .i64 (nd.hshard : Int)] 122) := heap_alloc_new _ _
  clear hbN c13 c14 c16 cy n0 n1 n2 n3 n4 n5 n6
  generalize (W1.alloc (.cells #[.int .i64 (nd.gen : Int), .int .i64 (nd.time : Int), .int .i64 (nd.status : Int), .int .i64 (nd.user : Int), .int .i64 (nd.hgen : Int), .int .i64 (nd.hver : Int), .int .i64 (nd.hshard : Int)] 122)) = W2 at *
  generalize W1.heap.size = g4 at *
  have HB4 := Go.Lib.hid b4
  clear b4
  have hn4 : w.heap.size + 1 + 1 + 1 < g4 := by omega
  have d0 : W2.cell? ⟨g4, 0, none⟩ = some (.int .i64 (nd.gen : Int)) := cell_of_row _ _ _ _ _ _ HB4.out
  have c14 : W2.cell? ⟨w.heap.size, 14, none⟩ = some (.slice (some ⟨gf, of, none⟩) (fs.length + 1) cf) := (cell_of_row _ _ _ _ _ _ HB0.out).trans (by rw [HVF.out]; rfl)
  have f14 : W2.frozen? ⟨w.heap.size, 14, none⟩ = false := frozen_of_row _ _ _ _ _ HB0.out
  have c15 : W2.cell? ⟨w.heap.size, 15, none⟩ = some (.int .i64 (R.tickets : Int)) := cell_of_row _ _ _ _ _ _ HB0.out
  have f15 : W2.frozen? ⟨w.heap.size, 15, none⟩ = false := frozen_of_row _ _ _ _ _ HB0.out
  go_upto_region 17 with (fail)
  rw [← HVT.out]
  have b0 := (heap_set_same (j := 15) (v := .int .i64 ((R.tickets : Int) - 1)) (heap_set_same (j := 14) (v := vt) HB0.out))
  have b1 := ((Go.Deep.blk_setCell_other (W2.setCell ⟨w.heap.size, 14, none⟩ (vt)) ⟨w.heap.size, 15, none⟩ (.int .i64 ((R.tickets : Int) - 1)) (w.heap.size + 1) (by show w.heap.size + 1 ≠ w.heap.size; omega)).trans ((Go.Deep.blk_setCell_other (W2) ⟨w.heap.size, 14, none⟩ (vt) (w.heap.size + 1) (by show w.heap.size + 1 ≠ w.heap.size; omega)).trans HB1.out))
  have b2 := ((Go.Deep.blk_setCell_other (W2.setCell ⟨w.heap.size, 14, none⟩ (vt)) ⟨w.heap.size, 15, none⟩ (.int .i64 ((R.tickets : Int) - 1)) (w.heap.size + 1 + 1) (by show w.heap.size + 1 + 1 ≠ w.heap.size; omega)).trans ((Go.Deep.blk_setCell_other (W2) ⟨w.heap.size, 14, none⟩ (vt) (w.heap.size + 1 + 1) (by show w.heap.size + 1 + 1 ≠ w.heap.size; omega)).trans HB2.out))
  have b3 := ((Go.Deep.blk_setCell_other (W2.setCell ⟨w.heap.size, 14, none⟩ (vt)) ⟨w.heap.size, 15, none⟩ (.int .i64 ((R.tickets : Int) - 1)) (w.heap.size + 1 + 1 + 1) (by show w.heap.size + 1 + 1 + 1 ≠ w.heap.size; omega)).trans ((Go.Deep.blk_setCell_other (W2) ⟨w.heap.size, 14, none⟩ (vt) (w.heap.size + 1 + 1 + 1) (by show w.heap.size + 1 + 1 + 1 ≠ w.heap.size; omega)).trans HB3.out))
  have b4 := ((Go.Deep.blk_setCell_other (W2.setCell ⟨w.heap.size, 14, none⟩ (vt)) ⟨w.heap.size, 15, none⟩ (.int .i64 ((R.tickets : Int) - 1)) (g4) (by show g4 ≠ w.heap.size; omega)).trans ((Go.Deep.blk_setCell_other (W2) ⟨w.heap.size, 14, none⟩ (vt) (g4) (by show g4 ≠ w.heap.size; omega)).trans HB4.out))
  have hbS : Below w.heap.size w ((W2.setCell ⟨w.heap.size, 14, none⟩ (vt)).setCell ⟨w.heap.size, 15, none⟩ (.int .i64 ((R.tickets : Int) - 1))) := ((HB.out.setCell (by show w.heap.size ≤ w.heap.size; omega) _).setCell (by show w.heap.size ≤ w.heap.size; omega) _)
  clear HB0 HB1 HB2 HB3 HB4 HB d0 c14 c15 f14 f15
  generalize ((W2.setCell ⟨w.heap.size, 14, none⟩ (vt)).setCell ⟨w.heap.size, 15, none⟩ (.int .i64 ((R.tickets : Int) - 1))) = W3 at *
  have HB0 : Hid (W3.heap[w.heap.size]? = some (.cells #[.int .i64 (x 0), .int .i64 (x 1), .int .i64 (x 2), .int .i64 (x 3), .int .i64 (x 4), .int .i64 (x 5), .int .i64 (x 6), .int .i64 (x 7), .int .i64 (x 8), .int .i64 (x 9), .int .i64 (x 10), .int .i64 (x 11), .int .i64 (x 12), .int .i64 (R.clock : Int), vt, .int .i64 ((R.tickets : Int) - 1), vn, vb, vw] 33)) := Go.Lib.hid b0
  have HB1 : Hid (W3.heap[w.heap.size + 1]? = some (.cells #[.int .i64 0, .int .i64 0, .int .i64 0, .int .i64 0, .int .i64 0, .int .i64 0, .int .i64 0, .int .i64 0, .int .i64 0, .int .i64 0, .int .i64 0, .int .i64 0, .int .i64 0, .int .i64 0, .slice none 0 0, .int .i64 0, .slice none 0 0, .slice none 0 0, .slice none 0 0] 33)) := Go.Lib.hid b1
  have HB2 : Hid (W3.heap[w.heap.size + 1 + 1]? = some (.cells #[.int .i64 0, .int .i64 0] 36)) := Go.Lib.hid b2
  have HB3 : Hid (W3.heap[w.heap.size + 1 + 1 + 1]? = some (.cells #[.int .i64 0, .int .i64 0] 36)) := Go.Lib.hid b3
  have HB4 : Hid (W3.heap[g4]? = some (.cells #[.int .i64 (nd.gen : Int), .int .i64 (nd.time : Int), .int .i64 (nd.status : Int), .int .i64 (nd.user : Int), .int .i64 (nd.hgen : Int), .int .i64 (nd.hver : Int), .int .i64 (nd.hshard : Int)] 122)) := Go.Lib.hid b4
  have HB := Go.Lib.hid hbS
  clear b0 b1 b2 b3 b4 hbS
  have d0 : W3.cell? ⟨g4, 0, none⟩ = some (.int .i64 (nd.gen : Int)) := cell_of_row _ _ _ _ _ _ HB4.out
  have d1 : W3.cell? ⟨g4, 1, none⟩ = some (.int .i64 (nd.time : Int)) := cell_of_row _ _ _ _ _ _ HB4.out
  have d2 : W3.cell? ⟨g4, 2, none⟩ = some (.int .i64 (nd.status : Int)) := cell_of_row _ _ _ _ _ _ HB4.out
  have d3 : W3.cell? ⟨g4, 3, none⟩ = some (.int .i64 (nd.user : Int)) := cell_of_row _ _ _ _ _ _ HB4.out
  have fd0 : W3.frozen? ⟨g4, 0, none⟩ = false := frozen_of_row _ _ _ _ _ HB4.out
  have fd1 : W3.frozen? ⟨g4, 1, none⟩ = false := frozen_of_row _ _ _ _ _ HB4.out
  have fd2 : W3.frozen? ⟨g4, 2, none⟩ = false := frozen_of_row _ _ _ _ _ HB4.out
  have fd3 : W3.frozen? ⟨g4, 3, none⟩ = false := frozen_of_row _ _ _ _ _ HB4.out
  have c13 : W3.cell? ⟨w.heap.size, 13, none⟩ = some (.int .i64 (R.clock : Int)) := cell_of_row _ _ _ _ _ _ HB0.out
  have ht2 : (R.clock : Int) + ticks ≤ 1073741823 := by omega
  have ht1 : 0 ≤ (R.clock : Int) + ticks := by omega
  go_upto_region 21 with (fail)
  have b4 := (heap_set_same (j := 3) (v := .int .i64 user) (heap_set_same (j := 2) (v := .int .i64 1) (heap_set_same (j := 1) (v := .int .i64 ((R.clock : Int) + ticks)) (heap_set_same (j := 0) (v := .int .i64 ((nd.gen : Int) + 1)) HB4.out))))
  have b0 := ((Go.Deep.blk_setCell_other (((W3.setCell ⟨g4, 0, none⟩ (.int .i64 ((nd.gen : Int) + 1))).setCell ⟨g4, 1, none⟩ (.int .i64 ((R.clock : Int) + ticks))).setCell ⟨g4, 2, none⟩ (.int .i64 1)) ⟨g4, 3, none⟩ (.int .i64 user) (w.heap.size) (by show w.heap.size ≠ g4; omega)).trans ((Go.Deep.blk_setCell_other ((W3.setCell ⟨g4, 0, none⟩ (.int .i64 ((nd.gen : Int) + 1))).setCell ⟨g4, 1, none⟩ (.int .i64 ((R.clock : Int) + ticks))) ⟨g4, 2, none⟩ (.int .i64 1) (w.heap.size) (by show w.heap.size ≠ g4; omega)).trans ((Go.Deep.blk_setCell_other (W3.setCell ⟨g4, 0, none⟩ (.int .i64 ((nd.gen : Int) + 1))) ⟨g4, 1, none⟩ (.int .i64 ((R.clock : Int) + ticks)) (w.heap.size) (by show w.heap.size ≠ g4; omega)).trans ((Go.Deep.blk_setCell_other (W3) ⟨g4, 0, none⟩ (.int .i64 ((nd.gen : Int) + 1)) (w.heap.size) (by show w.heap.size ≠ g4; omega)).trans HB0.out))))
  have b1 := ((Go.Deep.blk_setCell_other (((W3.setCell ⟨g4, 0, none⟩ (.int .i64 ((nd.gen : Int) + 1))).setCell ⟨g4, 1, none⟩ (.int .i64 ((R.clock : Int) + ticks))).setCell ⟨g4, 2, none⟩ (.int .i64 1)) ⟨g4, 3, none⟩ (.int .i64 user) (w.heap.size + 1) (by show w.heap.size + 1 ≠ g4; omega)).trans ((Go.Deep.blk_setCell_other ((W3.setCell ⟨g4, 0, none⟩ (.int .i64 ((nd.gen : Int) + 1))).setCell ⟨g4, 1, none⟩ (.int .i64 ((R.clock : Int) + ticks))) ⟨g4, 2, none⟩ (.int .i64 1) (w.heap.size + 1) (by show w.heap.size + 1 ≠ g4; omega)).trans ((Go.Deep.blk_setCell_other (W3.setCell ⟨g4, 0, none⟩ (.int .i64 ((nd.gen : Int) + 1))) ⟨g4, 1, none⟩ (.int .i64 ((R.clock : Int) + ticks)) (w.heap.size + 1) (by show w.heap.size + 1 ≠ g4; omega)).trans ((Go.Deep.blk_setCell_other (W3) ⟨g4, 0, none⟩ (.int .i64 ((nd.gen : Int) + 1)) (w.heap.size + 1) (by show w.heap.size + 1 ≠ g4; omega)).trans HB1.out))))
  have b2 := ((Go.Deep.blk_setCell_other (((W3.setCell ⟨g4, 0, none⟩ (.int .i64 ((nd.gen : Int) + 1))).setCell ⟨g4, 1, none⟩ (.int .i64 ((R.clock : Int) + ticks))).setCell ⟨g4, 2, none⟩ (.int .i64 1)) ⟨g4, 3, none⟩ (.int .i64 user) (w.heap.size + 1 + 1) (by show w.heap.size + 1 + 1 ≠ g4; omega)).trans ((Go.Deep.blk_setCell_other ((W3.setCell ⟨g4, 0, none⟩ (.int .i64 ((nd.gen : Int) + 1))).setCell ⟨g4, 1, none⟩ (.int .i64 ((R.clock : Int) + ticks))) ⟨g4, 2, none⟩ (.int .i64 1) (w.heap.size + 1 + 1) (by show w.heap.size + 1 + 1 ≠ g4; omega)).trans ((Go.Deep.blk_setCell_other (W3.setCell ⟨g4, 0, none⟩ (.int .i64 ((nd.gen : Int) + 1))) ⟨g4, 1, none⟩ (.int .i64 ((R.clock : Int) + ticks)) (w.heap.size + 1 + 1) (by show w.heap.size + 1 + 1 ≠ g4; omega)).trans ((Go.Deep.blk_setCell_other (W3) ⟨g4, 0, none⟩ (.int .i64 ((nd.gen : Int) + 1)) (w.heap.size + 1 + 1) (by show w.heap.size + 1 + 1 ≠ g4; omega)).trans HB2.out))))
  have b3 := ((Go.Deep.blk_setCell_other (((W3.setCell ⟨g4, 0, none⟩ (.int .i64 ((nd.gen : Int) + 1))).setCell ⟨g4, 1, none⟩ (.int .i64 ((R.clock : Int) + ticks))).setCell ⟨g4, 2, none⟩ (.int .i64 1)) ⟨g4, 3, none⟩ (.int .i64 user) (w.heap.size + 1 + 1 + 1) (by show w.heap.size + 1 + 1 + 1 ≠ g4; omega)).trans ((Go.Deep.blk_setCell_other ((W3.setCell ⟨g4, 0, none⟩ (.int .i64 ((nd.gen : Int) + 1))).setCell ⟨g4, 1, none⟩ (.int .i64 ((R.clock : Int) + ticks))) ⟨g4, 2, none⟩ (.int .i64 1) (w.heap.size + 1 + 1 + 1) (by show w.heap.size + 1 + 1 + 1 ≠ g4; omega)).trans ((Go.Deep.blk_setCell_other (W3.setCell ⟨g4, 0, none⟩ (.int .i64 ((nd.gen : Int) + 1))) ⟨g4, 1, none⟩ (.int .i64 ((R.clock : Int) + ticks)) (w.heap.size + 1 + 1 + 1) (by show w.heap.size + 1 + 1 + 1 ≠ g4; omega)).trans ((Go.Deep.blk_setCell_other (W3) ⟨g4, 0, none⟩ (.int .i64 ((nd.gen : Int) + 1)) (w.heap.size + 1 + 1 + 1) (by show w.heap.size + 1 + 1 + 1 ≠ g4; omega)).trans HB3.out))))
  have hbS : Below w.heap.size w ((((W3.setCell ⟨g4, 0, none⟩ (.int .i64 ((nd.gen : Int) + 1))).setCell ⟨g4, 1, none⟩ (.int .i64 ((R.clock : Int) + ticks))).setCell ⟨g4, 2, none⟩ (.int .i64 1)).setCell ⟨g4, 3, none⟩ (.int .i64 user)) := ((((HB.out.setCell (by show w.heap.size ≤ g4; omega) _).setCell (by show w.heap.size ≤ g4; omega) _).setCell (by show w.heap.size ≤ g4; omega) _).setCell (by show w.heap.size ≤ g4; omega) _)
  clear HB0 HB1 HB2 HB3 HB4 HB c13 d0 d1 d2 d3 fd0 fd1 fd2 fd3
  generalize ((((W3.setCell ⟨g4, 0, none⟩ (.int .i64 ((nd.gen : Int) + 1))).setCell ⟨g4, 1, none⟩ (.int .i64 ((R.clock : Int) + ticks))).setCell ⟨g4, 2, none⟩ (.int .i64 1)).setCell ⟨g4, 3, none⟩ (.int .i64 user)) = W4 at *
  have HB0 : Hid (W4.heap[w.heap.size]? = some (.cells #[.int .i64 (x 0), .int .i64 (x 1), .int .i64 (x 2), .int .i64 (x 3), .int .i64 (x 4), .int .i64 (x 5), .int .i64 (x 6), .int .i64 (x 7), .int .i64 (x 8), .int .i64 (x 9), .int .i64 (x 10), .int .i64 (x 11), .int .i64 (x 12), .int .i64 (R.clock : Int), vt, .int .i64 ((R.tickets : Int) - 1), vn, vb, vw] 33)) := Go.Lib.hid b0
  have HB1 : Hid (W4.heap[w.heap.size + 1]? = some (.cells #[.int .i64 0, .int .i64 0, .int .i64 0, .int .i64 0, .int .i64 0, .int .i64 0, .int .i64 0, .int .i64 0, .int .i64 0, .int .i64 0, .int .i64 0, .int .i64 0, .int .i64 0, .int .i64 0, .slice none 0 0, .int .i64 0, .slice none 0 0, .slice none 0 0, .slice none 0 0] 33)) := Go.Lib.hid b1
  have HB2 : Hid (W4.heap[w.heap.size + 1 + 1]? = some (.cells #[.int .i64 0, .int .i64 0] 36)) := Go.Lib.hid b2
  have HB3 : Hid (W4.heap[w.heap.size + 1 + 1 + 1]? = some (.cells #[.int .i64 0, .int .i64 0] 36)) := Go.Lib.hid b3
  have HB4 : Hid (W4.heap[g4]? = some (.cells #[.int .i64 ((nd.gen : Int) + 1), .int .i64 ((R.clock : Int) + ticks), .int .i64 1, .int .i64 user, .int .i64 (nd.hgen : Int), .int .i64 (nd.hver : Int), .int .i64 (nd.hshard : Int)] 122)) := Go.Lib.hid b4
  have HB := Go.Lib.hid hbS
  clear b0 b1 b2 b3 b4 hbS
  have HWN : Hid (∀ W, NodesAt W vn R.nodes → Calls Tryz.prog 84 #[.agg #[.int .i64 (x 0), .int .i64 (x 1), .int .i64 (x 2), .int .i64 (x 3), .int .i64 (x 4), .int .i64 (x 5), .int .i64 (x 6), .int .i64 (x 7), .int .i64 (x 8), .int .i64 (x 9), .int .i64 (x 10), .int .i64 (x 11), .int .i64 (x 12), .int .i64 (R.clock : Int), vt, .int .i64 ((R.tickets : Int) - 1), vn, vb, vw], .int .i64 (y : Int), .agg #[.int .i64 ((nd.gen : Int) + 1), .int .i64 ((R.clock : Int) + ticks), .int .i64 1, .int .i64 user, .int .i64 (nd.hgen : Int), .int .i64 (nd.hver : Int), .int .i64 (nd.hshard : Int)]] W fun e w' => ∃ g1 c1, e = .returned (.agg #[.int .i64 (x 0), .int .i64 (x 1), .int .i64 (x 2), .int .i64 (x 3), .int .i64 (x 4), .int .i64 (x 5), .int .i64 (x 6), .int .i64 (x 7), .int .i64 (x 8), .int .i64 (x 9), .int .i64 (x 10), .int .i64 (x 11), .int .i64 (x 12), .int .i64 (R.clock : Int), vt, .int .i64 ((R.tickets : Int) - 1), .slice (some ⟨g1, 0, none⟩) R.nodes.length c1, vb, vw]) ∧ W.heap.size ≤ g1 ∧ R.nodes.length ≤ c1 ∧ NodesAt w' (.slice (some ⟨g1, 0, none⟩) R.nodes.length c1) (R.nodes.set y { nd with gen := nd.gen + 1, time := R.clock + ticks.toNat, status := 1, user := user.toNat }) ∧ Below W.heap.size W w') := Go.Lib.hid (fun W hW => by
    have h := ref16_WithNode x (R.clock : Int) ((R.tickets : Int) - 1) vt vn vb vw R.nodes y { nd with gen := nd.gen + 1, time := R.clock + ticks.toNat, status := 1, user := user.toNat } W hW hyl HR.out.nl (KRows.one HFT.out) hvb hvw
    have e1 : ((nd.gen + 1 : Nat) : Int) = (nd.gen : Int) + 1 := by omega
    have e2 : ((R.clock + ticks.toNat : Nat) : Int) = (R.clock : Int) + ticks := by omega
    have e3 : ((user.toNat : Nat) : Int) = user := by omega
    dsimp only at h
    rw [e1, e2, e3] at h
    exact h)
  have HNA := Go.Lib.hid (RowsAt.below HN.out.at' HB.out)
  go_upto_region 22 with (first
    | (refine wpList_load_row (o := ⟨some 85, .load 33 _, _, _, _, _⟩) rfl 33 (.tmp 4) rfl (w.heap.size) rfl 33 #[.int .i64 (x 0), .int .i64 (x 1), .int .i64 (x 2), .int .i64 (x 3), .int .i64 (x 4), .int .i64 (x 5), .int .i64 (x 6), .int .i64 (x 7), .int .i64 (x 8), .int .i64 (x 9), .int .i64 (x 10), .int .i64 (x 11), .int .i64 (x 12), .int .i64 (R.clock : Int), vt, .int .i64 ((R.tickets : Int) - 1), vn, vb, vw] (0, 0) _ HB0.out Tryz.underlying33 rfl (by kernel_rfl) ?_)
    | (refine wpList_load_row (o := ⟨some 87, .load 122 _, _, _, _, _⟩) rfl 122 (.tmp 13) rfl g4 rfl 122 #[.int .i64 ((nd.gen : Int) + 1), .int .i64 ((R.clock : Int) + ticks), .int .i64 1, .int .i64 user, .int .i64 (nd.hgen : Int), .int .i64 (nd.hver : Int), .int .i64 (nd.hshard : Int)] (0, 0) _ HB4.out Tryz.underlying122 rfl (by kernel_rfl) ?_)
    | (go_at_call 84; refine (HWN.out _ HNA.out).mono ?_; rintro e W5 ⟨g1, c1, rfl, hg1, hcp1, hn5, hb5⟩; have hg4l := heap_lt HB4.out; have HB0 := Go.Lib.hid (Below.row hb5 HB0.out); have HB1 := Go.Lib.hid (Below.row hb5 HB1.out); have HB2 := Go.Lib.hid (Below.row hb5 HB2.out); have HB3 := Go.Lib.hid (Below.row hb5 HB3.out); have HB4 := Go.Lib.hid (Below.row hb5 HB4.out); have HB := Go.Lib.hid (HB.out.trans (hb5.mono HB.out.size)); have HN5 := Go.Lib.hid hn5; have hgn1 : g4 < g1 := (by omega); have hgw : W4.heap.size ≤ g1 := hg1; clear hb5 hn5)
    | (refine wpList_store_rowTo (o := ⟨none, .store 33 _ _, _, _, _, _⟩) rfl 33 (.tmp 4) (.tmp 88) rfl rfl (w.heap.size) #[.int .i64 (x 0), .int .i64 (x 1), .int .i64 (x 2), .int .i64 (x 3), .int .i64 (x 4), .int .i64 (x 5), .int .i64 (x 6), .int .i64 (x 7), .int .i64 (x 8), .int .i64 (x 9), .int .i64 (x 10), .int .i64 (x 11), .int .i64 (x 12), .int .i64 (R.clock : Int), vt, .int .i64 ((R.tickets : Int) - 1), .slice (some ⟨g1, 0, none⟩) R.nodes.length c1, vb, vw] rfl rfl 33 #[.int .i64 (x 0), .int .i64 (x 1), .int .i64 (x 2), .int .i64 (x 3), .int .i64 (x 4), .int .i64 (x 5), .int .i64 (x 6), .int .i64 (x 7), .int .i64 (x 8), .int .i64 (x 9), .int .i64 (x 10), .int .i64 (x 11), .int .i64 (x 12), .int .i64 (R.clock : Int), vt, .int .i64 ((R.tickets : Int) - 1), vn, vb, vw] HB0.out (by kernel_rfl) rfl (by have hvf := KRows.one HFT.out; exact (by simp [show ∀ k n, (Value.int k n).oneCell' = true from fun _ _ => rfl, show ∀ a n c, (Value.slice a n c).oneCell' = true from fun _ _ _ => rfl, hvf, hvn, hvb, hvw])) ?_; refine Hid.out ?_)
    | fail)
  have b0 := setRow_heap W5 (w.heap.size) #[.int .i64 (x 0), .int .i64 (x 1), .int .i64 (x 2), .int .i64 (x 3), .int .i64 (x 4), .int .i64 (x 5), .int .i64 (x 6), .int .i64 (x 7), .int .i64 (x 8), .int .i64 (x 9), .int .i64 (x 10), .int .i64 (x 11), .int .i64 (x 12), .int .i64 (R.clock : Int), vt, .int .i64 ((R.tickets : Int) - 1), vn, vb, vw] #[.int .i64 (x 0), .int .i64 (x 1), .int .i64 (x 2), .int .i64 (x 3), .int .i64 (x 4), .int .i64 (x 5), .int .i64 (x 6), .int .i64 (x 7), .int .i64 (x 8), .int .i64 (x 9), .int .i64 (x 10), .int .i64 (x 11), .int .i64 (x 12), .int .i64 (R.clock : Int), vt, .int .i64 ((R.tickets : Int) - 1), .slice (some ⟨g1, 0, none⟩) R.nodes.length c1, vb, vw] 33 (0, 0) HB0.out
  have b1 := (setRow_other W5 (w.heap.size) (w.heap.size + 1) #[.int .i64 (x 0), .int .i64 (x 1), .int .i64 (x 2), .int .i64 (x 3), .int .i64 (x 4), .int .i64 (x 5), .int .i64 (x 6), .int .i64 (x 7), .int .i64 (x 8), .int .i64 (x 9), .int .i64 (x 10), .int .i64 (x 11), .int .i64 (x 12), .int .i64 (R.clock : Int), vt, .int .i64 ((R.tickets : Int) - 1), .slice (some ⟨g1, 0, none⟩) R.nodes.length c1, vb, vw] (by omega)).trans HB1.out
  have b2 := (setRow_other W5 (w.heap.size) (w.heap.size + 1 + 1) #[.int .i64 (x 0), .int .i64 (x 1), .int .i64 (x 2), .int .i64 (x 3), .int .i64 (x 4), .int .i64 (x 5), .int .i64 (x 6), .int .i64 (x 7), .int .i64 (x 8), .int .i64 (x 9), .int .i64 (x 10), .int .i64 (x 11), .int .i64 (x 12), .int .i64 (R.clock : Int), vt, .int .i64 ((R.tickets : Int) - 1), .slice (some ⟨g1, 0, none⟩) R.nodes.length c1, vb, vw] (by omega)).trans HB2.out
  have b3 := (setRow_other W5 (w.heap.size) (w.heap.size + 1 + 1 + 1) #[.int .i64 (x 0), .int .i64 (x 1), .int .i64 (x 2), .int .i64 (x 3), .int .i64 (x 4), .int .i64 (x 5), .int .i64 (x 6), .int .i64 (x 7), .int .i64 (x 8), .int .i64 (x 9), .int .i64 (x 10), .int .i64 (x 11), .int .i64 (x 12), .int .i64 (R.clock : Int), vt, .int .i64 ((R.tickets : Int) - 1), .slice (some ⟨g1, 0, none⟩) R.nodes.length c1, vb, vw] (by omega)).trans HB3.out
  have b4 := (setRow_other W5 (w.heap.size) (g4) #[.int .i64 (x 0), .int .i64 (x 1), .int .i64 (x 2), .int .i64 (x 3), .int .i64 (x 4), .int .i64 (x 5), .int .i64 (x 6), .int .i64 (x 7), .int .i64 (x 8), .int .i64 (x 9), .int .i64 (x 10), .int .i64 (x 11), .int .i64 (x 12), .int .i64 (R.clock : Int), vt, .int .i64 ((R.tickets : Int) - 1), .slice (some ⟨g1, 0, none⟩) R.nodes.length c1, vb, vw] (by omega)).trans HB4.out
  have hbS := below_setRow HB.out (Nat.le_refl w.heap.size) #[.int .i64 (x 0), .int .i64 (x 1), .int .i64 (x 2), .int .i64 (x 3), .int .i64 (x 4), .int .i64 (x 5), .int .i64 (x 6), .int .i64 (x 7), .int .i64 (x 8), .int .i64 (x 9), .int .i64 (x 10), .int .i64 (x 11), .int .i64 (x 12), .int .i64 (R.clock : Int), vt, .int .i64 ((R.tickets : Int) - 1), .slice (some ⟨g1, 0, none⟩) R.nodes.length c1, vb, vw]
  have hn6 : KNodes (fun b => W4.heap.size ≤ b) (W5.setRow (w.heap.size) #[.int .i64 (x 0), .int .i64 (x 1), .int .i64 (x 2), .int .i64 (x 3), .int .i64 (x 4), .int .i64 (x 5), .int .i64 (x 6), .int .i64 (x 7), .int .i64 (x 8), .int .i64 (x 9), .int .i64 (x 10), .int .i64 (x 11), .int .i64 (x 12), .int .i64 (R.clock : Int), vt, .int .i64 ((R.tickets : Int) - 1), .slice (some ⟨g1, 0, none⟩) R.nodes.length c1, vb, vw]) (.slice (some ⟨g1, 0, none⟩) R.nodes.length c1) (R.nodes.set y { nd with gen := nd.gen + 1, time := R.clock + ticks.toNat, status := 1, user := user.toNat }) := by
    refine KRows.keep (w := W5) ⟨HN5.out, fun a n c e _ => (by cases e; exact hgw), fun n c e => (by cases e), fun p n c e => (by cases e; exact hcp1)⟩ fun b hb => setRow_other _ _ _ _ (by omega)
  clear HB0 HB1 HB2 HB3 HB4 HB HN5
  unfold Hid
  generalize (W5.setRow (w.heap.size) #[.int .i64 (x 0), .int .i64 (x 1), .int .i64 (x 2), .int .i64 (x 3), .int .i64 (x 4), .int .i64 (x 5), .int .i64 (x 6), .int .i64 (x 7), .int .i64 (x 8), .int .i64 (x 9), .int .i64 (x 10), .int .i64 (x 11), .int .i64 (x 12), .int .i64 (R.clock : Int), vt, .int .i64 ((R.tickets : Int) - 1), .slice (some ⟨g1, 0, none⟩) R.nodes.length c1, vb, vw]) = W6 at *
  have HB0 : Hid (W6.heap[w.heap.size]? = some (.cells #[.int .i64 (x 0), .int .i64 (x 1), .int .i64 (x 2), .int .i64 (x 3), .int .i64 (x 4), .int .i64 (x 5), .int .i64 (x 6), .int .i64 (x 7), .int .i64 (x 8), .int .i64 (x 9), .int .i64 (x 10), .int .i64 (x 11), .int .i64 (x 12), .int .i64 (R.clock : Int), vt, .int .i64 ((R.tickets : Int) - 1), .slice (some ⟨g1, 0, none⟩) R.nodes.length c1, vb, vw] 33)) := Go.Lib.hid b0
  have HB1 : Hid (W6.heap[w.heap.size + 1]? = some (.cells #[.int .i64 0, .int .i64 0, .int .i64 0, .int .i64 0, .int .i64 0, .int .i64 0, .int .i64 0, .int .i64 0, .int .i64 0, .int .i64 0, .int .i64 0, .int .i64 0, .int .i64 0, .int .i64 0, .slice none 0 0, .int .i64 0, .slice none 0 0, .slice none 0 0, .slice none 0 0] 33)) := Go.Lib.hid b1
  have HB2 : Hid (W6.heap[w.heap.size + 1 + 1]? = some (.cells #[.int .i64 0, .int .i64 0] 36)) := Go.Lib.hid b2
  have HB3 : Hid (W6.heap[w.heap.size + 1 + 1 + 1]? = some (.cells #[.int .i64 0, .int .i64 0] 36)) := Go.Lib.hid b3
  have HB4 : Hid (W6.heap[g4]? = some (.cells #[.int .i64 ((nd.gen : Int) + 1), .int .i64 ((R.clock : Int) + ticks), .int .i64 1, .int .i64 user, .int .i64 (nd.hgen : Int), .int .i64 (nd.hver : Int), .int .i64 (nd.hshard : Int)] 122)) := Go.Lib.hid b4
  have HB := Go.Lib.hid hbS
  clear b0 b1 b2 b3 b4 hbS
  have HN6 := Go.Lib.hid hn6
  clear hn6
  have hs6 := heap_lt HB4.out
  go_upto_region 22 with (fail)
  have hsl : shard.toNat < R.boxes.length := by have := h1; unfold shardR at this; omega
  have hse : ((shard.toNat : Nat) : Int) = shard := by have := h1; unfold shardR at this; omega
  have HLY : Hid (∀ W, NodesAt W (.slice (some ⟨g1, 0, none⟩) R.nodes.length c1) (R.nodes.set y { nd with gen := nd.gen + 1, time := R.clock + ticks.toNat, status := 1, user := user.toNat }) → KBoxes K W vb R.boxes us → (∀ b, K b → b < W.heap.size) → Calls Tryz.prog 85 #[.agg #[.int .i64 (x 0), .int .i64 (x 1), .int .i64 (x 2), .int .i64 (x 3), .int .i64 (x 4), .int .i64 (x 5), .int .i64 (x 6), .int .i64 (x 7), .int .i64 (x 8), .int .i64 (x 9), .int .i64 (x 10), .int .i64 (x 11), .int .i64 (x 12), .int .i64 (R.clock : Int), vt, .int .i64 ((R.tickets : Int) - 1), .slice (some ⟨g1, 0, none⟩) R.nodes.length c1, vb, vw], .int .i64 shard, .agg #[.int .i64 (y : Int), .int .i64 ((nd.gen : Int) + 1), .int .i64 0, .int .i64 (upI ((R.clock : Int) + ticks) (x 5))]] W fun e w' => ∃ vb' us', e = .returned (.agg #[.int .i64 (x 0), .int .i64 (x 1), .int .i64 (x 2), .int .i64 (x 3), .int .i64 (x 4), .int .i64 (x 5), .int .i64 (x 6), .int .i64 (x 7), .int .i64 (x 8), .int .i64 (x 9), .int .i64 (x 10), .int .i64 (x 11), .int .i64 (x 12), .int .i64 (R.clock : Int), vt, .int .i64 ((R.tickets - 1 + ((R.boxes.getD shard.toNat []).takeWhile (deadR (R.nodes.set y { nd with gen := nd.gen + 1, time := R.clock + ticks.toNat, status := 1, user := user.toNat }))).length : Nat) : Int), .slice (some ⟨g1, 0, none⟩) R.nodes.length c1, vb', vw]) ∧ KBoxes (fun b => K b ∨ W.heap.size ≤ b) w' vb' (R.boxes.set shard.toNat (⟨y, nd.gen + 1, 0, dueR slack (R.clock + ticks.toNat)⟩ :: (R.boxes.getD shard.toNat []).dropWhile (deadR (R.nodes.set y { nd with gen := nd.gen + 1, time := R.clock + ticks.toNat, status := 1, user := user.toNat })))) us' ∧ Below W.heap.size W w') := Go.Lib.hid (fun W hW hB hk => by
    have h := ref16_Lay x (R.clock : Int) (R.tickets - 1) vt (.slice (some ⟨g1, 0, none⟩) R.nodes.length c1) vb vw (R.nodes.set y { nd with gen := nd.gen + 1, time := R.clock + ticks.toNat, status := 1, user := user.toNat }) R.boxes us shard.toNat ⟨y, nd.gen + 1, 0, dueR slack (R.clock + ticks.toNat)⟩ K W hW hB hk hsl HR.out.bl (fun b hb u hu => by rw [List.length_set]; exact HR.out.nd b hb u hu) HR.out.bb (by omega) (KRows.one HFT.out) rfl hvw
    have e1 : ((nd.gen + 1 : Nat) : Int) = (nd.gen : Int) + 1 := by omega
    have e2 : ((R.clock + ticks.toNat : Nat) : Int) = (R.clock : Int) + ticks := by omega
    have e3 : ((R.tickets - 1 : Nat) : Int) = (R.tickets : Int) - 1 := by omega
    dsimp only at h
    rw [hse, dueR_int, e1, e2, e3, ← HX5.out] at h
    exact h)
  have HK1 : Hid (∀ b, (K b ∨ W6.heap.size ≤ b) → b ≠ w.heap.size + 1) := Go.Lib.hid (fun b hb => hb.elim (fun h => by have := HK.out b h; omega) fun h => by omega)
  have HK2 : Hid (∀ b, (K b ∨ W6.heap.size ≤ b) → b ≠ w.heap.size + 1 + 1) := Go.Lib.hid (fun b hb => hb.elim (fun h => by have := HK.out b h; omega) fun h => by omega)
  refine wp_region_frG [10, 89, 90, 91, 92, 93, 94, 95, 96, 97, 98, 99, 100, 101, 102, 103] (tab22 (.agg #[.int .i64 (x 0), .int .i64 (x 1), .int .i64 (x 2), .int .i64 (x 3), .int .i64 (x 4), .int .i64 (x 5), .int .i64 (x 6), .int .i64 (x 7), .int .i64 (x 8), .int .i64 (x 9), .int .i64 (x 10), .int .i64 (x 11), .int .i64 (x 12), .int .i64 (R.clock : Int), vt, .int .i64 ((R.tickets : Int) - 1), .slice (some ⟨g1, 0, none⟩) R.nodes.length c1, vb, vw]) (.int .i64 shard) (.int .i64 (y : Int)) (.pointer (some ⟨g4, 0, none⟩)) (.int .i64 ((nd.gen : Int) + 1)) (.agg #[.int .i64 (x 0), .int .i64 (x 1), .int .i64 (x 2), .int .i64 (x 3), .int .i64 (x 4), .int .i64 (x 5), .int .i64 (x 6), .int .i64 (x 7), .int .i64 (x 8), .int .i64 (x 9), .int .i64 (x 10), .int .i64 (x 11), .int .i64 (x 12), .int .i64 (R.clock : Int), vt, .int .i64 ((R.tickets : Int) - 1), .slice (some ⟨g1, 0, none⟩) R.nodes.length c1, vb, vw]) (.pointer (some ⟨g4, 1, none⟩)) (.int .i64 ((R.clock : Int) + ticks)) (.int .i64 (upI ((R.clock : Int) + ticks) (x 5))) (.agg #[.int .i64 (y : Int), .int .i64 ((nd.gen : Int) + 1), .int .i64 0, .int .i64 (upI ((R.clock : Int) + ticks) (x 5))]) (.int .i64 (y : Int)) (.pointer (some ⟨g4, 0, none⟩)) (.int .i64 ((nd.gen : Int) + 1)) (.agg #[.int .i64 (y : Int), .int .i64 ((nd.gen : Int) + 1)]) (.int .i64 0)) (LayJ 10 15 16 99 W6 (w.heap.size + 1) (w.heap.size + 1 + 1) #[.int .i64 0, .int .i64 0, .int .i64 0, .int .i64 0, .int .i64 0, .int .i64 0, .int .i64 0, .int .i64 0, .int .i64 0, .int .i64 0, .int .i64 0, .int .i64 0, .int .i64 0, .int .i64 0, .slice none 0 0, .int .i64 0, .slice none 0 0, .slice none 0 0, .slice none 0 0] #[.int .i64 0, .int .i64 0] #[.int .i64 (y : Int), .int .i64 ((nd.gen : Int) + 1)] 33 36 (fun vb => #[.int .i64 (x 0), .int .i64 (x 1), .int .i64 (x 2), .int .i64 (x 3), .int .i64 (x 4), .int .i64 (x 5), .int .i64 (x 6), .int .i64 (x 7), .int .i64 (x 8), .int .i64 (x 9), .int .i64 (x 10), .int .i64 (x 11), .int .i64 (x 12), .int .i64 (R.clock : Int), vt, .int .i64 ((R.tickets - 1 + ((R.boxes.getD shard.toNat []).takeWhile (deadR (R.nodes.set y { nd with gen := nd.gen + 1, time := R.clock + ticks.toNat, status := 1, user := user.toNat }))).length : Nat) : Int), .slice (some ⟨g1, 0, none⟩) R.nodes.length c1, vb, vw]) (fun b => K b ∨ W6.heap.size ≤ b) (R.boxes.set shard.toNat (⟨y, nd.gen + 1, 0, dueR slack (R.clock + ticks.toNat)⟩ :: (R.boxes.getD shard.toNat []).dropWhile (deadR (R.nodes.set y { nd with gen := nd.gen + 1, time := R.clock + ticks.toNat, status := 1, user := user.toNat }))))) (by kernel_rfl) (by kernel_rfl) (by kernel_rfl) ?_ ?_ ?_
  · exact LayJ.start (i0 := 10) (i1 := 15) (i2 := 16) HB1.out HB2.out 18 (by decide)
  · refine ⟨?_, ?_, ?_, ?_, ?_, ?_, ?_, ?_, ?_, ?_, ?_, ?_, ?_, ?_, ?_, ?_, ?_, ?_, trivial⟩
    · intro listed a' w' hf hv hj hun hdep K' hK'
      have hsz : a'.tmps.size = 104 := hf.size
      exact st_load_row rfl (w.heap.size) ((hf.rest 4 (by decide)).trans rfl) 33 #[.int .i64 (x 0), .int .i64 (x 1), .int .i64 (x 2), .int .i64 (x 3), .int .i64 (x 4), .int .i64 (x 5), .int .i64 (x 6), .int .i64 (x 7), .int .i64 (x 8), .int .i64 (x 9), .int .i64 (x 10), .int .i64 (x 11), .int .i64 (x 12), .int .i64 (R.clock : Int), vt, .int .i64 ((R.tickets : Int) - 1), .slice (some ⟨g1, 0, none⟩) R.nodes.length c1, vb, vw] (0, 0) _ ((hj.oth (w.heap.size) (by omega) (by omega) (by omega)).trans HB0.out) Tryz.underlying33 rfl (by kernel_rfl) (hK' _ _ (hf.put (by decide)) (hv.setAt 0 rfl (tab22_n _ _ _ _ _ _ _ _ _ _ _ _ _ _ _) (by kernel_rfl) (by rw [hsz]; decide)) (hj.quiet (by decide) (slot_put_other (by decide)) (Below.refl _ _)))
    · intro listed a' w' hf hv hj hun hdep K' hK'
      have hsz : a'.tmps.size = 104 := hf.size
      exact st_move _ rfl ((hf.rest 2 (by decide)).trans rfl) (hK' _ _ (hf.put (by decide)) (hv.setAt 1 rfl (tab22_n _ _ _ _ _ _ _ _ _ _ _ _ _ _ _) (by kernel_rfl) (by rw [hsz]; decide)) (hj.quiet (by decide) (slot_put_other (by decide)) (Below.refl _ _)))
    · intro listed a' w' hf hv hj hun hdep K' hK'
      have hsz : a'.tmps.size = 104 := hf.size
      exact st_move _ rfl ((hf.rest 12 (by decide)).trans rfl) (hK' _ _ (hf.put (by decide)) (hv.setAt 2 rfl (tab22_n _ _ _ _ _ _ _ _ _ _ _ _ _ _ _) (by kernel_rfl) (by rw [hsz]; decide)) (hj.quiet (by decide) (slot_put_other (by decide)) (Below.refl _ _)))
    · intro listed a' w' hf hv hj hun hdep K' hK'
      have hsz : a'.tmps.size = 104 := hf.size
      have e13 : slotOf a' 13 = .pointer (some ⟨g4, 0, none⟩) := (hf.rest 13 (by decide)).trans rfl
      refine st_gen rfl ?_
      unfold Oper.wp execOp
      dsimp only
      rw [slot_eval, e13]
      go_simp
      exact hK' _ _ (hf.put (by decide)) (hv.setAt 3 rfl (tab22_n _ _ _ _ _ _ _ _ _ _ _ _ _ _ _) (by kernel_rfl) (by rw [hsz]; decide)) (hj.quiet (by decide) (slot_put_other (by decide)) (Below.refl _ _))
    · intro listed a' w' hf hv hj hun hdep K' hK'
      have hsz : a'.tmps.size = 104 := hf.size
      have e92 := hv.get 3 rfl (hdep 3 (by kernel_rfl))
      have q : w'.cell? ⟨g4, 0, none⟩ = some (.int .i64 ((nd.gen : Int) + 1)) := cell_of_row _ _ _ _ _ _ ((hj.oth g4 (by omega) (by omega) (by omega)).trans HB4.out)
      refine st_gen rfl ?_
      unfold Oper.wp execOp
      dsimp only
      rw [slot_eval, e92]
      go_simp
      exact hK' _ _ (hf.put (by decide)) (hv.setAt 4 rfl (tab22_n _ _ _ _ _ _ _ _ _ _ _ _ _ _ _) (by kernel_rfl) (by rw [hsz]; decide)) (hj.quiet (by decide) (slot_put_other (by decide)) (Below.refl _ _))
    · intro listed a' w' hf hv hj hun hdep K' hK'
      have hsz : a'.tmps.size = 104 := hf.size
      exact st_load_row rfl (w.heap.size) ((hf.rest 4 (by decide)).trans rfl) 33 #[.int .i64 (x 0), .int .i64 (x 1), .int .i64 (x 2), .int .i64 (x 3), .int .i64 (x 4), .int .i64 (x 5), .int .i64 (x 6), .int .i64 (x 7), .int .i64 (x 8), .int .i64 (x 9), .int .i64 (x 10), .int .i64 (x 11), .int .i64 (x 12), .int .i64 (R.clock : Int), vt, .int .i64 ((R.tickets : Int) - 1), .slice (some ⟨g1, 0, none⟩) R.nodes.length c1, vb, vw] (0, 0) _ ((hj.oth (w.heap.size) (by omega) (by omega) (by omega)).trans HB0.out) Tryz.underlying33 rfl (by kernel_rfl) (hK' _ _ (hf.put (by decide)) (hv.setAt 5 rfl (tab22_n _ _ _ _ _ _ _ _ _ _ _ _ _ _ _) (by kernel_rfl) (by rw [hsz]; decide)) (hj.quiet (by decide) (slot_put_other (by decide)) (Below.refl _ _)))
    · intro listed a' w' hf hv hj hun hdep K' hK'
      have hsz : a'.tmps.size = 104 := hf.size
      have e13 : slotOf a' 13 = .pointer (some ⟨g4, 0, none⟩) := (hf.rest 13 (by decide)).trans rfl
      refine st_gen rfl ?_
      unfold Oper.wp execOp
      dsimp only
      rw [slot_eval, e13]
      go_simp
      exact hK' _ _ (hf.put (by decide)) (hv.setAt 6 rfl (tab22_n _ _ _ _ _ _ _ _ _ _ _ _ _ _ _) (by kernel_rfl) (by rw [hsz]; decide)) (hj.quiet (by decide) (slot_put_other (by decide)) (Below.refl _ _))
    · intro listed a' w' hf hv hj hun hdep K' hK'
      have hsz : a'.tmps.size = 104 := hf.size
      have e95 := hv.get 6 rfl (hdep 6 (by kernel_rfl))
      have q : w'.cell? ⟨g4, 1, none⟩ = some (.int .i64 ((R.clock : Int) + ticks)) := cell_of_row _ _ _ _ _ _ ((hj.oth g4 (by omega) (by omega) (by omega)).trans HB4.out)
      refine st_gen rfl ?_
      unfold Oper.wp execOp
      dsimp only
      rw [slot_eval, e95]
      go_simp
      exact hK' _ _ (hf.put (by decide)) (hv.setAt 7 rfl (tab22_n _ _ _ _ _ _ _ _ _ _ _ _ _ _ _) (by kernel_rfl) (by rw [hsz]; decide)) (hj.quiet (by decide) (slot_put_other (by decide)) (Below.refl _ _))
    · intro listed a' w' hf hv hj hun hdep K' hK'
      have hsz : a'.tmps.size = 104 := hf.size
      have e94 := hv.get 5 rfl (hdep 5 (by kernel_rfl))
      have e96 := hv.get 7 rfl (hdep 7 (by kernel_rfl))
      refine st_call #[.agg #[.int .i64 (x 0), .int .i64 (x 1), .int .i64 (x 2), .int .i64 (x 3), .int .i64 (x 4), .int .i64 (x 5), .int .i64 (x 6), .int .i64 (x 7), .int .i64 (x 8), .int .i64 (x 9), .int .i64 (x 10), .int .i64 (x 11), .int .i64 (x 12), .int .i64 (R.clock : Int), vt, .int .i64 ((R.tickets : Int) - 1), .slice (some ⟨g1, 0, none⟩) R.nodes.length c1, vb, vw], .int .i64 ((R.clock : Int) + ticks)] rfl (enters_of Tryz.func86 (by kernel_rfl) rfl) (by simp [slot_eval, e94, e96]) ?_
      refine (ref16_Due x (R.clock : Int) ((R.tickets : Int) - 1) vt (.slice (some ⟨g1, 0, none⟩) R.nodes.length c1) vb vw ((R.clock : Int) + ticks) w').mono ?_
      rintro e w2 ⟨rfl, hb⟩
      exact ⟨_, rfl, hK' _ _ (hf.put (by decide)) (hv.setAt 8 rfl (tab22_n _ _ _ _ _ _ _ _ _ _ _ _ _ _ _) (by kernel_rfl) (by rw [hsz]; decide)) (hj.quiet (by decide) (slot_put_other (by decide)) hb)⟩
    · intro listed a' w' hf hv hj hun hdep K' hK'
      have hsz : a'.tmps.size = 104 := hf.size
      have e91 := hv.get 2 rfl (hdep 2 (by kernel_rfl))
      have e93 := hv.get 4 rfl (hdep 4 (by kernel_rfl))
      have e97 := hv.get 8 rfl (hdep 8 (by kernel_rfl))
      refine st_gen rfl ?_
      unfold Oper.wp execOp
      dsimp only
      simp only [List.map_toArray, List.map_cons, List.map_nil, slot_eval, e91, e93, e97]
      go_simp
      exact hK' _ _ (hf.put (by decide)) (hv.setAt 9 rfl (tab22_n _ _ _ _ _ _ _ _ _ _ _ _ _ _ _) (by kernel_rfl) (by rw [hsz]; decide)) (hj.quiet (by decide) (slot_put_other (by decide)) (Below.refl _ _))
    · intro listed a' w' hf hv hj hun hdep K' hK'
      have hsz : a'.tmps.size = 104 := hf.size
      have e89 := hv.get 0 rfl (hdep 0 (by kernel_rfl))
      have e90 := hv.get 1 rfl (hdep 1 (by kernel_rfl))
      have e98 := hv.get 9 rfl (hdep 9 (by kernel_rfl))
      refine st_call #[.agg #[.int .i64 (x 0), .int .i64 (x 1), .int .i64 (x 2), .int .i64 (x 3), .int .i64 (x 4), .int .i64 (x 5), .int .i64 (x 6), .int .i64 (x 7), .int .i64 (x 8), .int .i64 (x 9), .int .i64 (x 10), .int .i64 (x 11), .int .i64 (x 12), .int .i64 (R.clock : Int), vt, .int .i64 ((R.tickets : Int) - 1), .slice (some ⟨g1, 0, none⟩) R.nodes.length c1, vb, vw], .int .i64 shard, .agg #[.int .i64 (y : Int), .int .i64 ((nd.gen : Int) + 1), .int .i64 0, .int .i64 (upI ((R.clock : Int) + ticks) (x 5))]] rfl (enters_of Tryz.func85 (by kernel_rfl) rfl) (by simp [slot_eval, e89, e90, e98]) ?_
      have hkb : ∀ b, K b → w'.heap[b]? = w.heap[b]? := fun b hb => by have := HK.out b hb; exact (hj.oth b (by omega) (by omega) (by omega)).trans (HB.out.block b (HK.out b hb))
      have hnk : NodesAt w' (.slice (some ⟨g1, 0, none⟩) R.nodes.length c1) (R.nodes.set y { nd with gen := nd.gen + 1, time := R.clock + ticks.toNat, status := 1, user := user.toNat }) := ((KNodes.keep6 HN6.out (fun b hb hlt => hj.oth b hlt (by omega) (by omega))).at')
      refine (HLY.out w' hnk (HX.out.keep hkb) (fun b hb => by have := HK.out b hb; have := HB.out.size; have := hj.size; omega)).mono ?_
      rintro e w2 ⟨vb', us', rfl, hx2, hb⟩
      exact ⟨_, rfl, hK' _ _ (hf.put (by decide)) (hv.other (by kernel_rfl)) (hj.lay (by decide) hun (slot_put_same (by rw [hsz]; decide)) (hx2.mono fun b h => h.elim .inl fun h => .inr (Nat.le_trans hj.size h)) hb)⟩
    · intro listed a' w' hf hv hj hun hdep K' hK'
      have hsz : a'.tmps.size = 104 := hf.size
      exact st_move _ rfl ((hf.rest 12 (by decide)).trans rfl) (hK' _ _ (hf.put (by decide)) (hv.setAt 10 rfl (tab22_n _ _ _ _ _ _ _ _ _ _ _ _ _ _ _) (by kernel_rfl) (by rw [hsz]; decide)) (hj.quiet (by decide) (slot_put_other (by decide)) (Below.refl _ _)))
    · intro listed a' w' hf hv hj hun hdep K' hK'
      have hsz : a'.tmps.size = 104 := hf.size
      have e13 : slotOf a' 13 = .pointer (some ⟨g4, 0, none⟩) := (hf.rest 13 (by decide)).trans rfl
      refine st_gen rfl ?_
      unfold Oper.wp execOp
      dsimp only
      rw [slot_eval, e13]
      go_simp
      exact hK' _ _ (hf.put (by decide)) (hv.setAt 11 rfl (tab22_n _ _ _ _ _ _ _ _ _ _ _ _ _ _ _) (by kernel_rfl) (by rw [hsz]; decide)) (hj.quiet (by decide) (slot_put_other (by decide)) (Below.refl _ _))
    · intro listed a' w' hf hv hj hun hdep K' hK'
      have hsz : a'.tmps.size = 104 := hf.size
      have e101 := hv.get 11 rfl (hdep 12 (by kernel_rfl))
      have q : w'.cell? ⟨g4, 0, none⟩ = some (.int .i64 ((nd.gen : Int) + 1)) := cell_of_row _ _ _ _ _ _ ((hj.oth g4 (by omega) (by omega) (by omega)).trans HB4.out)
      refine st_gen rfl ?_
      unfold Oper.wp execOp
      dsimp only
      rw [slot_eval, e101]
      go_simp
      exact hK' _ _ (hf.put (by decide)) (hv.setAt 12 rfl (tab22_n _ _ _ _ _ _ _ _ _ _ _ _ _ _ _) (by kernel_rfl) (by rw [hsz]; decide)) (hj.quiet (by decide) (slot_put_other (by decide)) (Below.refl _ _))
    · intro listed a' w' hf hv hj hun hdep K' hK'
      have hsz : a'.tmps.size = 104 := hf.size
      have e100 := hv.get 10 rfl (hdep 11 (by kernel_rfl))
      have e102 := hv.get 12 rfl (hdep 13 (by kernel_rfl))
      refine st_gen rfl ?_
      unfold Oper.wp execOp
      dsimp only
      simp only [List.map_toArray, List.map_cons, List.map_nil, slot_eval, e100, e102]
      go_simp
      exact hK' _ _ (hf.put (by decide)) (hv.setAt 13 rfl (tab22_n _ _ _ _ _ _ _ _ _ _ _ _ _ _ _) (by kernel_rfl) (by rw [hsz]; decide)) (hj.quiet (by decide) (slot_put_other (by decide)) (Below.refl _ _))
    · intro listed a' w' hf hv hj hun hdep K' hK'
      have hsz : a'.tmps.size = 104 := hf.size
      obtain ⟨vb', e99, hb1, hnx⟩ := hj.st1 (by refine ⟨by decide, by decide, ?_⟩; omega) (hdep 10 (by kernel_rfl)) hun HK1.out
      have hvb' : vb'.oneCell' = true := hj.one (hdep 10 (by kernel_rfl)) e99 (by intro u q; injection q with q; simpa using q)
      exact st_store_row rfl (w.heap.size + 1) #[.int .i64 (x 0), .int .i64 (x 1), .int .i64 (x 2), .int .i64 (x 3), .int .i64 (x 4), .int .i64 (x 5), .int .i64 (x 6), .int .i64 (x 7), .int .i64 (x 8), .int .i64 (x 9), .int .i64 (x 10), .int .i64 (x 11), .int .i64 (x 12), .int .i64 (R.clock : Int), vt, .int .i64 ((R.tickets - 1 + ((R.boxes.getD shard.toNat []).takeWhile (deadR (R.nodes.set y { nd with gen := nd.gen + 1, time := R.clock + ticks.toNat, status := 1, user := user.toNat }))).length : Nat) : Int), .slice (some ⟨g1, 0, none⟩) R.nodes.length c1, vb', vw] ((hf.rest 8 (by decide)).trans rfl) e99 33 #[.int .i64 0, .int .i64 0, .int .i64 0, .int .i64 0, .int .i64 0, .int .i64 0, .int .i64 0, .int .i64 0, .int .i64 0, .int .i64 0, .int .i64 0, .int .i64 0, .int .i64 0, .int .i64 0, .slice none 0 0, .int .i64 0, .slice none 0 0, .slice none 0 0, .slice none 0 0] hb1 (by kernel_rfl) rfl (by have hvb := hvb'; have hvf := KRows.one HFT.out; exact (by simp [show ∀ k n, (Value.int k n).oneCell' = true from fun _ _ => rfl, show ∀ a n c, (Value.slice a n c).oneCell' = true from fun _ _ _ => rfl, hvf, hvn, hvb, hvw])) (hK' _ _ hf (hv.skip (by kernel_rfl)) hnx)
    · intro listed a' w' hf hv hj hun hdep K' hK'
      have hsz : a'.tmps.size = 104 := hf.size
      have e103 := hv.get 13 rfl (hdep 14 (by kernel_rfl))
      obtain ⟨hb2, hnx⟩ := hj.st2 (by refine ⟨by decide, by decide, ?_⟩; omega) hun HK2.out
      exact st_store_row rfl (w.heap.size + 1 + 1) #[.int .i64 (y : Int), .int .i64 ((nd.gen : Int) + 1)] ((hf.rest 9 (by decide)).trans rfl) e103 36 #[.int .i64 0, .int .i64 0] hb2 (by kernel_rfl) rfl (by kernel_rfl) (hK' _ _ hf (hv.skip (by kernel_rfl)) hnx)
    · intro listed a' w' hf hv hj hun hdep K' hK'
      have hsz : a'.tmps.size = 104 := hf.size
      exact st_assign _ rfl rfl (hK' _ _ (hf.put (by decide)) (hv.setAt 14 rfl (tab22_n _ _ _ _ _ _ _ _ _ _ _ _ _ _ _) (by kernel_rfl) (by rw [hsz]; decide)) (hj.quiet (by decide) (slot_put_other (by decide)) (Below.refl _ _)))
  · intro listed a' w' hf hv hj hall
    obtain ⟨vb', us', e1, e2, e3⟩ := hj.ex
    obtain ⟨e99, hx2⟩ := e1 (hall 10 (by decide))
    rw [hall 15 (by decide), if_pos rfl] at e2
    rw [hall 16 (by decide), if_pos rfl] at e3
    have h8 : a'.tmps.getD 8 undef = .pointer (some ⟨w.heap.size + 1, 0, none⟩) := (hf.rest 8 (by decide)).trans rfl
    have h9 : a'.tmps.getD 9 undef = .pointer (some ⟨w.heap.size + 1 + 1, 0, none⟩) := (hf.rest 9 (by decide)).trans rfl
    have h10 : a'.tmps.getD 10 undef = .int .i64 0 := hv.get 14 rfl (hall 17 (by decide))
    have hdf : a'.defers = [] := hf.defers.trans rfl
    have H8 := Go.Lib.hid h8
    have H9 := Go.Lib.hid h9
    have H10 := Go.Lib.hid h10
    have HDF := Go.Lib.hid hdf
    clear h8 h9 h10 hdf
    have hbE : Below w.heap.size w w' := ⟨hj.os.trans HB.out.os, hj.tape.trans HB.out.tape, hj.output.trans HB.out.output, Nat.le_trans HB.out.size hj.size, fun k hk => (hj.oth k (by have := HB.out.size; omega) (by omega) (by omega)).trans (HB.out.block k hk)⟩
    have HBE := Go.Lib.hid hbE
    have HF9 : Hid (KFree (fun b => K b ∨ w.heap.size ≤ b) w' vt fs) := Go.Lib.hid (KRows.mono (KRows.keep HFT.out fun b hb => hbE.block b (HK.out b hb)) fun _ h => .inl h)
    have HN9 : Hid (KNodes (fun b => K b ∨ w.heap.size ≤ b) w' (.slice (some ⟨g1, 0, none⟩) R.nodes.length c1) (R.nodes.set y { nd with gen := nd.gen + 1, time := R.clock + ticks.toNat, status := 1, user := user.toNat })) := Go.Lib.hid (KRows.mono (KNodes.keep6 HN6.out (fun b hb hlt => hj.oth b hlt (by omega) (by omega))) fun b h => .inr (by omega))
    have HX9 : Hid (KBoxes (fun b => K b ∨ w.heap.size ≤ b) w' vb' (R.boxes.set shard.toNat (⟨y, nd.gen + 1, 0, dueR slack (R.clock + ticks.toNat)⟩ :: (R.boxes.getD shard.toNat []).dropWhile (deadR (R.nodes.set y { nd with gen := nd.gen + 1, time := R.clock + ticks.toNat, status := 1, user := user.toNat })))) us') := Go.Lib.hid (KBoxes.mono hx2 fun b h => h.elim .inl fun h => .inr (by omega))
    have E1 := Go.Lib.hid e2
    have E2 := Go.Lib.hid e3
    clear hbE hx2 e1 e2 e3 hf hv hj hall e99
    go_wp2_with fail
    refine bodyPost_ret (results_cct rfl _ _ _ H8.out H9.out H10.out E1.out E2.out rfl Tryz.underlying33 (by kernel_rfl) rfl Tryz.underlying36 (by kernel_rfl)) HDF.out ?_
    have hq := HND.out
    clear HND
    subst hq
    refine ⟨_, ?_, ⟨⟨vt, _, vb', us', rfl, HF9.out, HN9.out, HX9.out⟩, hvw⟩, HBE.out⟩
    have e9 : (((R.nodes.getD y default).gen + 1 : Nat) : Int) = ((R.nodes.getD y default).gen : Int) + 1 := by omega
    rw [← e9]
    rfl
end Go.Proofs.YtgemjjpmoejgdaaGreat
