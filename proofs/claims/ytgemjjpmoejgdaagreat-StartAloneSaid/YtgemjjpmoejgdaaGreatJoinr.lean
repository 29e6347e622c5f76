/- The document's shop: knellref16.Lay. -/
import Derived.Test.YtgemjjpmoejgdaaGreatJoinq
import Derived.Deep.CutBlock
import Derived.Deep.RegionHeldLaw
namespace Go.Proofs.YtgemjjpmoejgdaaGreat
open Go.RowKit
set_option maxRecDepth 100000
set_option linter.unusedVariables false

theorem heap_lt {w : World} {b : Nat} {o : Obj} (h : w.heap[b]? = some o) : b < w.heap.size := (Array.getElem?_eq_some_iff.1 h).1
theorem Below.row {w w' : World} {b : Nat} {o : Obj} (hb : Below w.heap.size w w') (h : w.heap[b]? = some o) : w'.heap[b]? = some o := (hb.block b (heap_lt h)).trans h
/-- What is dropped from a box: the dead ones ahead. -/
theorem drop_dead {α : Type} (p : α → Bool) : ∀ (k : Nat) (bs l : List α), bs = bs.take k ++ l → k ≤ bs.length → (∀ u ∈ bs.take k, p u = true) → (∀ u, l.head? = some u → p u = false) → bs.dropWhile p = l ∧ (bs.takeWhile p).length = k
  | 0, bs, l, h, _, _, hl => by
    rw [List.take_zero, List.nil_append] at h
    subst h
    cases bs with
    | nil => exact ⟨rfl, rfl⟩
    | cons u us =>
      have hu := hl u rfl
      rw [List.dropWhile_cons, List.takeWhile_cons, hu]
      exact ⟨rfl, rfl⟩
  | k + 1, [], l, _, hk, _, _ => by simp at hk
  | k + 1, u :: us, l, h, hk, hd, hl => by
    have hu : p u = true := hd u (by rw [List.take_succ_cons]; exact List.mem_cons_self ..)
    rw [List.take_succ_cons, List.cons_append] at h
    injection h with _ h
    obtain ⟨h1, h2⟩ := drop_dead p k us l h (by simpa using hk) (fun v hv => hd v (by rw [List.take_succ_cons]; exact List.mem_cons_of_mem _ hv)) hl
    rw [List.dropWhile_cons, List.takeWhile_cons, hu, if_pos rfl, if_pos rfl, List.length_cons, h2]
    exact ⟨h1, rfl⟩
def lenOf : Value → Nat
  | .slice _ n _ => n
  | _ => 0
set_option maxHeartbeats 4000000 in
theorem ref16_Lay (x : Nat → Int) (cl : Int) (tk : Nat) (vf vn vb vw : Value) (N : List NodeR) (B : List (List TickR)) (us : List Value) (s : Nat) (t : TickR) (K : Nat → Prop) (w : World) (hn : NodesAt w vn N) (hbx : KBoxes K w vb B us) (hK : ∀ b, K b → b < w.heap.size) (hs : s < B.length) (hl : B.length ≤ 1000) (hnd : ∀ b ∈ B, ∀ u ∈ b, u.node < N.length) (hbl : ∀ b ∈ B, b.length ≤ 1000) (htk : tk ≤ 1000000) (hvf : vf.oneCell' = true) (hvn : vn.oneCell' = true) (hvw : vw.oneCell' = true) :
    Calls Tryz.prog 85 #[.agg #[.int .i64 (x 0), .int .i64 (x 1), .int .i64 (x 2), .int .i64 (x 3), .int .i64 (x 4), .int .i64 (x 5), .int .i64 (x 6), .int .i64 (x 7), .int .i64 (x 8), .int .i64 (x 9), .int .i64 (x 10), .int .i64 (x 11), .int .i64 (x 12), .int .i64 cl, vf, .int .i64 (tk : Int), vn, vb, vw], .int .i64 (s : Int), .agg #[.int .i64 (t.node : Int), .int .i64 (t.gen : Int), .int .i64 (t.ver : Int), .int .i64 (t.due : Int)]] w fun e w' => ∃ vb' us', e = .returned (.agg #[.int .i64 (x 0), .int .i64 (x 1), .int .i64 (x 2), .int .i64 (x 3), .int .i64 (x 4), .int .i64 (x 5), .int .i64 (x 6), .int .i64 (x 7), .int .i64 (x 8), .int .i64 (x 9), .int .i64 (x 10), .int .i64 (x 11), .int .i64 (x 12), .int .i64 cl, vf, .int .i64 ((tk + ((B.getD s []).takeWhile (deadR N)).length : Nat) : Int), vn, vb', vw]) ∧ KBoxes (fun b => K b ∨ w.heap.size ≤ b) w' vb' (B.set s (t :: (B.getD s []).dropWhile (deadR N))) us' ∧ Below w.heap.size w w' := by
  have hvb := hbx.outer.one
  have HBX := Go.Lib.hid hbx
  obtain ⟨hul, hrowI, hbs⟩ := hbx
  have hrow := hrowI.at'
  have hsu : s < us.length := by omega
  obtain ⟨pb, cb, rfl, hrw⟩ := id hrow
  have hlm : (us.map fun u => [u]).length = us.length := List.length_map ..
  obtain ⟨gb, ob, rfl, hcell⟩ := hrw s [us[s]] (by rw [List.getElem?_map, List.getElem?_eq_getElem hsu]; rfl)
  rw [hlm] at hrow hvb HBX ⊢
  have HN0 := Go.Lib.hid hn
  have hb0 : Below w.heap.size w (((w.alloc (.cells #[.int .i64 (x 0), .int .i64 (x 1), .int .i64 (x 2), .int .i64 (x 3), .int .i64 (x 4), .int .i64 (x 5), .int .i64 (x 6), .int .i64 (x 7), .int .i64 (x 8), .int .i64 (x 9), .int .i64 (x 10), .int .i64 (x 11), .int .i64 (x 12), .int .i64 cl, vf, .int .i64 (tk : Int), vn, .slice (some ⟨gb, ob, none⟩) us.length cb, vw] 33)).alloc (.cells #[.int .i64 (t.node : Int), .int .i64 (t.gen : Int), .int .i64 (t.ver : Int), .int .i64 (t.due : Int)] 140)).alloc (.cells #[.int .i64 0, .int .i64 0, .int .i64 0, .int .i64 0, .int .i64 0, .int .i64 0, .int .i64 0, .int .i64 0, .int .i64 0, .int .i64 0, .int .i64 0, .int .i64 0, .int .i64 0, .int .i64 0, .slice none 0 0, .int .i64 0, .slice none 0 0, .slice none 0 0, .slice none 0 0] 33)) := ((((Below.refl _ _).alloc (Nat.le_refl _) _).alloc (by simp) _).alloc (by simp; omega) _)
  have b3 : (((w.alloc (.cells #[.int .i64 (x 0), .int .i64 (x 1), .int .i64 (x 2), .int .i64 (x 3), .int .i64 (x 4), .int .i64 (x 5), .int .i64 (x 6), .int .i64 (x 7), .int .i64 (x 8), .int .i64 (x 9), .int .i64 (x 10), .int .i64 (x 11), .int .i64 (x 12), .int .i64 cl, vf, .int .i64 (tk : Int), vn, .slice (some ⟨gb, ob, none⟩) us.length cb, vw] 33)).alloc (.cells #[.int .i64 (t.node : Int), .int .i64 (t.gen : Int), .int .i64 (t.ver : Int), .int .i64 (t.due : Int)] 140)).alloc (.cells #[.int .i64 0, .int .i64 0, .int .i64 0, .int .i64 0, .int .i64 0, .int .i64 0, .int .i64 0, .int .i64 0, .int .i64 0, .int .i64 0, .int .i64 0, .int .i64 0, .int .i64 0, .int .i64 0, .slice none 0 0, .int .i64 0, .slice none 0 0, .slice none 0 0, .slice none 0 0] 33)).heap[w.heap.size]? = some (.cells #[.int .i64 (x 0), .int .i64 (x 1), .int .i64 (x 2), .int .i64 (x 3), .int .i64 (x 4), .int .i64 (x 5), .int .i64 (x 6), .int .i64 (x 7), .int .i64 (x 8), .int .i64 (x 9), .int .i64 (x 10), .int .i64 (x 11), .int .i64 (x 12), .int .i64 cl, vf, .int .i64 (tk : Int), vn, .slice (some ⟨gb, ob, none⟩) us.length cb, vw] 33) := by
    rw [Below.heap_alloc _ _ _ (by simp; omega), Below.heap_alloc _ _ _ (by simp)]
    exact heap_alloc_new w _
  have b5 : (((w.alloc (.cells #[.int .i64 (x 0), .int .i64 (x 1), .int .i64 (x 2), .int .i64 (x 3), .int .i64 (x 4), .int .i64 (x 5), .int .i64 (x 6), .int .i64 (x 7), .int .i64 (x 8), .int .i64 (x 9), .int .i64 (x 10), .int .i64 (x 11), .int .i64 (x 12), .int .i64 cl, vf, .int .i64 (tk : Int), vn, .slice (some ⟨gb, ob, none⟩) us.length cb, vw] 33)).alloc (.cells #[.int .i64 (t.node : Int), .int .i64 (t.gen : Int), .int .i64 (t.ver : Int), .int .i64 (t.due : Int)] 140)).alloc (.cells #[.int .i64 0, .int .i64 0, .int .i64 0, .int .i64 0, .int .i64 0, .int .i64 0, .int .i64 0, .int .i64 0, .int .i64 0, .int .i64 0, .int .i64 0, .int .i64 0, .int .i64 0, .int .i64 0, .slice none 0 0, .int .i64 0, .slice none 0 0, .slice none 0 0, .slice none 0 0] 33)).heap[w.heap.size + 1]? = some (.cells #[.int .i64 (t.node : Int), .int .i64 (t.gen : Int), .int .i64 (t.ver : Int), .int .i64 (t.due : Int)] 140) := by
    rw [Below.heap_alloc _ _ _ (by simp)]
    have h := heap_alloc_new (w.alloc (.cells #[.int .i64 (x 0), .int .i64 (x 1), .int .i64 (x 2), .int .i64 (x 3), .int .i64 (x 4), .int .i64 (x 5), .int .i64 (x 6), .int .i64 (x 7), .int .i64 (x 8), .int .i64 (x 9), .int .i64 (x 10), .int .i64 (x 11), .int .i64 (x 12), .int .i64 cl, vf, .int .i64 (tk : Int), vn, .slice (some ⟨gb, ob, none⟩) us.length cb, vw] 33)) (.cells #[.int .i64 (t.node : Int), .int .i64 (t.gen : Int), .int .i64 (t.ver : Int), .int .i64 (t.due : Int)] 140)
    rw [World.size_alloc] at h
    exact h
  have b6 : (((w.alloc (.cells #[.int .i64 (x 0), .int .i64 (x 1), .int .i64 (x 2), .int .i64 (x 3), .int .i64 (x 4), .int .i64 (x 5), .int .i64 (x 6), .int .i64 (x 7), .int .i64 (x 8), .int .i64 (x 9), .int .i64 (x 10), .int .i64 (x 11), .int .i64 (x 12), .int .i64 cl, vf, .int .i64 (tk : Int), vn, .slice (some ⟨gb, ob, none⟩) us.length cb, vw] 33)).alloc (.cells #[.int .i64 (t.node : Int), .int .i64 (t.gen : Int), .int .i64 (t.ver : Int), .int .i64 (t.due : Int)] 140)).alloc (.cells #[.int .i64 0, .int .i64 0, .int .i64 0, .int .i64 0, .int .i64 0, .int .i64 0, .int .i64 0, .int .i64 0, .int .i64 0, .int .i64 0, .int .i64 0, .int .i64 0, .int .i64 0, .int .i64 0, .slice none 0 0, .int .i64 0, .slice none 0 0, .slice none 0 0, .slice none 0 0] 33)).heap[w.heap.size + 1 + 1]? = some (.cells #[.int .i64 0, .int .i64 0, .int .i64 0, .int .i64 0, .int .i64 0, .int .i64 0, .int .i64 0, .int .i64 0, .int .i64 0, .int .i64 0, .int .i64 0, .int .i64 0, .int .i64 0, .int .i64 0, .slice none 0 0, .int .i64 0, .slice none 0 0, .slice none 0 0, .slice none 0 0] 33) := by
    have h := heap_alloc_new ((w.alloc (.cells #[.int .i64 (x 0), .int .i64 (x 1), .int .i64 (x 2), .int .i64 (x 3), .int .i64 (x 4), .int .i64 (x 5), .int .i64 (x 6), .int .i64 (x 7), .int .i64 (x 8), .int .i64 (x 9), .int .i64 (x 10), .int .i64 (x 11), .int .i64 (x 12), .int .i64 cl, vf, .int .i64 (tk : Int), vn, .slice (some ⟨gb, ob, none⟩) us.length cb, vw] 33)).alloc (.cells #[.int .i64 (t.node : Int), .int .i64 (t.gen : Int), .int .i64 (t.ver : Int), .int .i64 (t.due : Int)] 140)) (.cells #[.int .i64 0, .int .i64 0, .int .i64 0, .int .i64 0, .int .i64 0, .int .i64 0, .int .i64 0, .int .i64 0, .int .i64 0, .int .i64 0, .int .i64 0, .int .i64 0, .int .i64 0, .int .i64 0, .slice none 0 0, .int .i64 0, .slice none 0 0, .slice none 0 0, .slice none 0 0] 33)
    rw [World.size_alloc, World.size_alloc] at h
    exact h
  have HB := Go.Lib.hid hb0
  have HN := Go.Lib.hid (hn.below hb0)
  have hu := below_cell hb0 (hcell 0 us[s] rfl)
  have hts := (hbs s us[s] (B[s]) (List.getElem?_eq_getElem hsu) (List.getElem?_eq_getElem hs)).keep fun b hb => hb0.block b (hK b hb)
  generalize us[s] = ul at *
  obtain ⟨pl, c0, rfl, hlr⟩ := id hts.at'
  have hu' : World.cell? (((w.alloc (.cells #[.int .i64 (x 0), .int .i64 (x 1), .int .i64 (x 2), .int .i64 (x 3), .int .i64 (x 4), .int .i64 (x 5), .int .i64 (x 6), .int .i64 (x 7), .int .i64 (x 8), .int .i64 (x 9), .int .i64 (x 10), .int .i64 (x 11), .int .i64 (x 12), .int .i64 cl, vf, .int .i64 (tk : Int), vn, .slice (some ⟨gb, ob, none⟩) us.length cb, vw] 33)).alloc (.cells #[.int .i64 (t.node : Int), .int .i64 (t.gen : Int), .int .i64 (t.ver : Int), .int .i64 (t.due : Int)] 140)).alloc (.cells #[.int .i64 0, .int .i64 0, .int .i64 0, .int .i64 0, .int .i64 0, .int .i64 0, .int .i64 0, .int .i64 0, .int .i64 0, .int .i64 0, .int .i64 0, .int .i64 0, .int .i64 0, .int .i64 0, .slice none 0 0, .int .i64 0, .slice none 0 0, .slice none 0 0, .slice none 0 0] 33)) ⟨gb, ob + s, none⟩ = some (.slice pl (B[s].map TickR.cells).length c0) := by rw [Nat.mul_one, Nat.add_zero] at hu; exact hu
  rw [List.length_map] at hu'
  have q17 : World.cell? (((w.alloc (.cells #[.int .i64 (x 0), .int .i64 (x 1), .int .i64 (x 2), .int .i64 (x 3), .int .i64 (x 4), .int .i64 (x 5), .int .i64 (x 6), .int .i64 (x 7), .int .i64 (x 8), .int .i64 (x 9), .int .i64 (x 10), .int .i64 (x 11), .int .i64 (x 12), .int .i64 cl, vf, .int .i64 (tk : Int), vn, .slice (some ⟨gb, ob, none⟩) us.length cb, vw] 33)).alloc (.cells #[.int .i64 (t.node : Int), .int .i64 (t.gen : Int), .int .i64 (t.ver : Int), .int .i64 (t.due : Int)] 140)).alloc (.cells #[.int .i64 0, .int .i64 0, .int .i64 0, .int .i64 0, .int .i64 0, .int .i64 0, .int .i64 0, .int .i64 0, .int .i64 0, .int .i64 0, .int .i64 0, .int .i64 0, .int .i64 0, .int .i64 0, .slice none 0 0, .int .i64 0, .slice none 0 0, .slice none 0 0, .slice none 0 0] 33)) ⟨w.heap.size, 17, none⟩ = some (.slice (some ⟨gb, ob, none⟩) us.length cb) := cell_of_row _ _ _ _ _ _ b3
  have hi1 : (0 : Int) ≤ (s : Int) := by omega
  have hi2 : (s : Int) < (us.length : Int) := by omega
  have HTS := Go.Lib.hid hts
  rw [List.length_map] at HTS
  clear hu hts hn hb0 hcell hrow hlr hrw hrowI
  have HUL := Go.Lib.hid hul; have HBS := Go.Lib.hid hbs
  clear hul hlm hsu hbs
  go_enter Tryz.func85, Tryz.ntmps85
  go_upto_block 0 with (fail)
  clear hu' q17 hi1 hi2
  have hB3 := Go.Lib.hid b3; have hB5 := Go.Lib.hid b5; have hB6 := Go.Lib.hid b6
  clear b3 b5 b6
  generalize (((w.alloc (.cells #[.int .i64 (x 0), .int .i64 (x 1), .int .i64 (x 2), .int .i64 (x 3), .int .i64 (x 4), .int .i64 (x 5), .int .i64 (x 6), .int .i64 (x 7), .int .i64 (x 8), .int .i64 (x 9), .int .i64 (x 10), .int .i64 (x 11), .int .i64 (x 12), .int .i64 cl, vf, .int .i64 (tk : Int), vn, .slice (some ⟨gb, ob, none⟩) us.length cb, vw] 33)).alloc (.cells #[.int .i64 (t.node : Int), .int .i64 (t.gen : Int), .int .i64 (t.ver : Int), .int .i64 (t.due : Int)] 140)).alloc (.cells #[.int .i64 0, .int .i64 0, .int .i64 0, .int .i64 0, .int .i64 0, .int .i64 0, .int .i64 0, .int .i64 0, .int .i64 0, .int .i64 0, .int .i64 0, .int .i64 0, .int .i64 0, .int .i64 0, .slice none 0 0, .int .i64 0, .slice none 0 0, .slice none 0 0, .slice none 0 0] 33)) = W0 at *
  obtain ⟨bs, hbsq⟩ : ∃ bs, bs = B[s] := ⟨_, rfl⟩
  rw [← hbsq] at HTS ⊢
  have HBQ := Go.Lib.hid hbsq
  have hnd' : ∀ u ∈ bs, u.node < N.length := fun u hu => hnd _ (by rw [hbsq]; exact List.getElem_mem hs) u hu
  have hbl' : bs.length ≤ 1000 := by rw [hbsq]; exact hbl _ (List.getElem_mem hs)
  have HND := Go.Lib.hid hnd'
  clear hbsq hnd hbl hnd'
  go_cut [7] from 8 to 29 (fun v7 wx => ∃ (k : Nat) (l : List TickR), bs = bs.take k ++ l ∧ k ≤ bs.length ∧ (∀ u ∈ bs.take k, deadR N u = true) ∧ (∀ u, l.head? = some u → deadR N u = false) ∧ KTicks K wx v7 l ∧ wx.heap[w.heap.size]? = some (.cells #[.int .i64 (x 0), .int .i64 (x 1), .int .i64 (x 2), .int .i64 (x 3), .int .i64 (x 4), .int .i64 (x 5), .int .i64 (x 6), .int .i64 (x 7), .int .i64 (x 8), .int .i64 (x 9), .int .i64 (x 10), .int .i64 (x 11), .int .i64 (x 12), .int .i64 cl, vf, .int .i64 ((tk + k : Nat) : Int), vn, .slice (some ⟨gb, ob, none⟩) us.length cb, vw] 33) ∧ wx.heap[w.heap.size + 1]? = some (.cells #[.int .i64 (t.node : Int), .int .i64 (t.gen : Int), .int .i64 (t.ver : Int), .int .i64 (t.due : Int)] 140) ∧ wx.heap[w.heap.size + 1 + 1]? = some (.cells #[.int .i64 0, .int .i64 0, .int .i64 0, .int .i64 0, .int .i64 0, .int .i64 0, .int .i64 0, .int .i64 0, .int .i64 0, .int .i64 0, .int .i64 0, .int .i64 0, .int .i64 0, .int .i64 0, .slice none 0 0, .int .i64 0, .slice none 0 0, .slice none 0 0, .slice none 0 0] 33) ∧ Below w.heap.size w wx)
  case first =>
    go_wp2
    go_loopw [7] (fun v7 wr => ∃ (k : Nat) (l : List TickR), bs = bs.take k ++ l ∧ k ≤ bs.length ∧ (∀ u ∈ bs.take k, deadR N u = true) ∧ KTicks K wr v7 l ∧ wr.heap[w.heap.size]? = some (.cells #[.int .i64 (x 0), .int .i64 (x 1), .int .i64 (x 2), .int .i64 (x 3), .int .i64 (x 4), .int .i64 (x 5), .int .i64 (x 6), .int .i64 (x 7), .int .i64 (x 8), .int .i64 (x 9), .int .i64 (x 10), .int .i64 (x 11), .int .i64 (x 12), .int .i64 cl, vf, .int .i64 ((tk + k : Nat) : Int), vn, .slice (some ⟨gb, ob, none⟩) us.length cb, vw] 33) ∧ wr.heap[w.heap.size + 1]? = some (.cells #[.int .i64 (t.node : Int), .int .i64 (t.gen : Int), .int .i64 (t.ver : Int), .int .i64 (t.due : Int)] 140) ∧ wr.heap[w.heap.size + 1 + 1]? = some (.cells #[.int .i64 0, .int .i64 0, .int .i64 0, .int .i64 0, .int .i64 0, .int .i64 0, .int .i64 0, .int .i64 0, .int .i64 0, .int .i64 0, .int .i64 0, .int .i64 0, .int .i64 0, .int .i64 0, .slice none 0 0, .int .i64 0, .slice none 0 0, .slice none 0 0, .slice none 0 0] 33) ∧ Below w.heap.size w wr) (fun v7 _ => lenOf v7)
    case atStart => exact ⟨0, bs, rfl, Nat.zero_le _, fun u hu => (by cases hu), HTS.out, hB3.out, hB5.out, hB6.out, HB.out⟩
    case round =>
      obtain ⟨k, l, hsp, hk, hdead, htk2, hw3, hw5, hw6, hbw⟩ := hrel
      have HW5 := Go.Lib.hid hw5; have HW6 := Go.Lib.hid hw6; have HBW := Go.Lib.hid hbw; have HT2 := Go.Lib.hid htk2; have HSP := Go.Lib.hid hsp; have HDE := Go.Lib.hid hdead
      clear hw5 hw6 hbw hsp hdead hB3 hB5 hB6 HB HTS
      obtain ⟨p7, c7, rfl, hl7⟩ := id htk2.at'
      clear htk2
      rw [List.length_map]
      cases l with
      | nil =>
        clear hl7
        have HW3 := Go.Lib.hid hw3
        clear hw3
        go_wp2
        go_region
        all_goals go_wp2
        all_goals go_meet
        all_goals exact ⟨k, [], HSP.out, hk, HDE.out, fun u hu => (by cases hu), HT2.out.keep (fun _ _ => rfl), HW3.out, HW5.out, HW6.out, HBW.out.drew⟩
      | cons u l' =>
        obtain ⟨g7, o7, rfl, hc7⟩ := hl7 0 u.cells rfl
        have un : u.node < N.length := HND.out u (by rw [HSP.out]; exact List.mem_append.2 (.inr (List.mem_cons_self ..)))
        have z0 : wr.cell? ⟨g7, o7, none⟩ = some (.int .i64 (u.node : Int)) := hc7 0 _ rfl
        have z1 : wr.cell? ⟨g7, o7 + 1, none⟩ = some (.int .i64 (u.gen : Int)) := hc7 1 _ rfl
        have z2 : wr.cell? ⟨g7, o7 + 2, none⟩ = some (.int .i64 (u.ver : Int)) := hc7 2 _ rfl
        have z3 : wr.cell? ⟨g7, o7 + 3, none⟩ = some (.int .i64 (u.due : Int)) := hc7 3 _ rfl
        have z0' : ∀ d os, (Sort.grow (redrawn wr d) os).cell? ⟨g7, o7, none⟩ = some (.int .i64 (u.node : Int)) := fun d os => cell_regrown z0 d os
        have z1' : ∀ d os, (Sort.grow (redrawn wr d) os).cell? ⟨g7, o7 + 1, none⟩ = some (.int .i64 (u.gen : Int)) := fun d os => cell_regrown z1 d os
        have z2' : ∀ d os, (Sort.grow (redrawn wr d) os).cell? ⟨g7, o7 + 2, none⟩ = some (.int .i64 (u.ver : Int)) := fun d os => cell_regrown z2 d os
        have z3' : ∀ d os, (Sort.grow (redrawn wr d) os).cell? ⟨g7, o7 + 3, none⟩ = some (.int .i64 (u.due : Int)) := fun d os => cell_regrown z3 d os
        have HAL := Go.Lib.hid (fun W (hW : Below wr.heap.size wr W) => ref16_Alive x cl ((tk + k : Nat) : Int) vf vn (.slice (some ⟨gb, ob, none⟩) us.length cb) vw N u W ((HN0.out.below HBW.out).below hW) un)
        have hl1 : (0 : Int) < ((u :: l').length : Int) := by rw [List.length_cons]; omega
        clear hl7 hc7 un
        have HW3 := Go.Lib.hid hw3
        clear hw3
        cases hd : deadR N u with
        | true =>
          rw [hd] at HAL
          have hw15 : IntKind.i64.wrap (((tk + k : Nat) : Int) + 1) = ((tk + (k + 1) : Nat) : Int) := by rw [IntWalk.i64_in _ (by omega)]; omega
          go_wp2
          refine wp_region_quiet_below (by kernel_rfl) (by kernel_rfl) ?_
          repeat (first
            | (go_big_quiet_want; refine quiet_load_row 33 (.tmp 3) rfl w.heap.size rfl 33 #[.int .i64 (x 0), .int .i64 (x 1), .int .i64 (x 2), .int .i64 (x 3), .int .i64 (x 4), .int .i64 (x 5), .int .i64 (x 6), .int .i64 (x 7), .int .i64 (x 8), .int .i64 (x 9), .int .i64 (x 10), .int .i64 (x 11), .int .i64 (x 12), .int .i64 cl, vf, .int .i64 ((tk + k : Nat) : Int), vn, .slice (some ⟨gb, ob, none⟩) us.length cb, vw] (0, 0) _ (fun W hW => by obtain ⟨p, rfl⟩ := hW; exact Below.row (below_regrown wr p.d p.os) HW3.out) Tryz.underlying33 rfl (by kernel_rfl) ?_; go_big_quiet_on; simp only [Act.put, List.setIfInBounds_toArray, List.set_cons_succ, List.set_cons_zero])
            | go_big_quiet_step (first | (go_at_call 180; rename_i p; exact Calls.regrown_of (HAL.out _ (below_regrown wr p.d p.os)))))
          refine wpQuiet_nil ?_
          intro w2 hw'
          obtain ⟨p, rfl⟩ := hw'
          have hb2 := below_regrown wr p.d p.os
          clear z0' z1' z2' z3' z0 z1 z2 z3
          generalize Sort.grow (redrawn wr p.d) p.os = w2 at *
          have B3 := Below.row hb2 HW3.out
          have e15 := cell_of_row w2 w.heap.size 15 _ _ _ B3
          replace e15 : w2.cell? ⟨w.heap.size, 15, none⟩ = some (.int .i64 ((tk + k : Nat) : Int)) := e15
          have f15 : w2.frozen? ⟨w.heap.size, 15, none⟩ = false := frozen_of_row _ _ _ _ _ B3
          all_goals go_wp2
          all_goals (
            have hs2 := next_dead HSP.out hk HDE.out hd
            have hkk : ∀ b, K b → (w2.setCell ⟨w.heap.size, 15, none⟩ (.int .i64 ((tk : Int) + (k : Int) + 1))).heap[b]? = wr.heap[b]? := fun b hb => (Go.Deep.blk_setCell_other _ _ _ _ (by have := hK b hb; show b ≠ w.heap.size; omega)).trans (hb2.block b (Nat.lt_of_lt_of_le (hK b hb) HBW.out.size))
            have ht3 := KTicks.next (HT2.out.keep hkk)
            have B5 := Below.row hb2 HW5.out
            have B6 := Below.row hb2 HW6.out
            have ek : ((tk + (k + 1) : Nat) : Int) = (tk : Int) + (k : Int) + 1 := by omega
            refine ⟨⟨k + 1, l', hs2.1, hs2.2.1, hs2.2.2, ht3, ?_, (Go.Deep.blk_setCell_other _ _ _ _ (by show w.heap.size + 1 ≠ w.heap.size; omega)).trans B5, (Go.Deep.blk_setCell_other _ _ _ _ (by show w.heap.size + 1 + 1 ≠ w.heap.size; omega)).trans B6, (HBW.out.trans (hb2.mono HBW.out.size)).setCell (Nat.le_refl _) _⟩, ?_⟩
            · rw [ek]
              exact heap_set_same B3
            · show l'.length < (u :: l').length
              simp)
        | false =>
          rw [hd] at HAL
          go_wp2
          refine wp_region_quiet_below (by kernel_rfl) (by kernel_rfl) ?_
          repeat (first
            | (go_big_quiet_want; refine quiet_load_row 33 (.tmp 3) rfl w.heap.size rfl 33 #[.int .i64 (x 0), .int .i64 (x 1), .int .i64 (x 2), .int .i64 (x 3), .int .i64 (x 4), .int .i64 (x 5), .int .i64 (x 6), .int .i64 (x 7), .int .i64 (x 8), .int .i64 (x 9), .int .i64 (x 10), .int .i64 (x 11), .int .i64 (x 12), .int .i64 cl, vf, .int .i64 ((tk + k : Nat) : Int), vn, .slice (some ⟨gb, ob, none⟩) us.length cb, vw] (0, 0) _ (fun W hW => by obtain ⟨p, rfl⟩ := hW; exact Below.row (below_regrown wr p.d p.os) HW3.out) Tryz.underlying33 rfl (by kernel_rfl) ?_; go_big_quiet_on; simp only [Act.put, List.setIfInBounds_toArray, List.set_cons_succ, List.set_cons_zero])
            | go_big_quiet_step (first | (go_at_call 180; rename_i p; exact Calls.regrown_of (HAL.out _ (below_regrown wr p.d p.os)))))
          refine wpQuiet_nil ?_
          intro w2 hw'
          obtain ⟨p, rfl⟩ := hw'
          have hb2 := below_regrown wr p.d p.os
          clear z0' z1' z2' z3' z0 z1 z2 z3
          generalize Sort.grow (redrawn wr p.d) p.os = w2 at *
          all_goals go_wp2
          all_goals go_meet
          all_goals exact ⟨k, u :: l', HSP.out, hk, HDE.out, fun v hv => (by cases hv; exact hd), (by have h := HT2.out.keep (fun b hb => hb2.block b (Nat.lt_of_lt_of_le (hK b hb) HBW.out.size)); rw [List.length_map] at h; exact h), Below.row hb2 HW3.out, Below.row hb2 HW5.out, Below.row hb2 HW6.out, HBW.out.trans (hb2.mono HBW.out.size)⟩
  case rest =>
    obtain ⟨k, l, hsp, hk, hdd, hal, htk2, hw3, hw5, hw6, hbw⟩ := hcut
    have hfin := drop_dead (deadR N) k bs l hsp hk hdd hal
    have hbq : bs = B.getD s [] := by rw [HBQ.out]; simp [hs]
    rw [hbq] at hfin
    have HFIN := Go.Lib.hid hfin
    have hll : l.length ≤ 1000 := by have := congrArg List.length hsp; rw [List.length_append] at this; omega
    have HLL := Go.Lib.hid hll; have HSB := Go.Lib.hid hs; have HLB := Go.Lib.hid hl
    clear hfin hbq hsp hdd hal HBQ HND hB3 hB5 hB6 HB HTS HBS HN HN0 hll htk
    obtain ⟨p7, c7, rfl, hp7⟩ := id htk2.form
    rw [List.length_map] at htk2
    rw [List.length_map]
    have HTI := Go.Lib.hid htk2
    have HBI := Go.Lib.hid (HBX.out.keep fun b hb => hbw.block b (hK b hb))
    have HBW := Go.Lib.hid hbw
    have hinfo : (Tryz.prog.info? 151).map (fun i => (i.zero, i.size, i.bytes)) = some (some (.slice none 0 0), 1, 24) := by kernel_rfl
    have hund : Tryz.prog.underlying 31 = some (.slice 151) := by kernel_rfl
    obtain ⟨i0, hi0, hz0, hz1, hz2⟩ := info_parts hinfo
    have hsz0 := hbw.size
    have hsz3 := heap_lt hw6
    have hown0 : World.ownsRow (wc.alloc (.cells #[] 151)) wc.heap.size 151 1 (.slice (some ⟨wc.heap.size, 0, none⟩) 0 0) 0 [] :=
      ⟨rfl, .inr ⟨wc.heap.size, 0, #[], rfl, Nat.le_refl _, heap_alloc_new _ _, by decide, by decide, rfl, rfl⟩⟩
    have hbA : Below wc.heap.size wc (wc.alloc (.cells #[] 151)) := (Below.refl _ _).alloc (Nat.le_refl _) _
    have q17 : (wc.alloc (.cells #[] 151)).cell? ⟨w.heap.size, 17, none⟩ = some (.slice (some ⟨gb, ob, none⟩) us.length cb) := below_cell hbA (cell_of_row _ _ _ _ _ _ hw3)
    have HBV : Hid (KRows K (wc.alloc (.cells #[] 151)) 1 (.slice (some ⟨gb, ob, none⟩) us.length cb) (us.map fun u => [u])) := Go.Lib.hid (HBI.out.outer.keep fun b hb => hbA.block b (Nat.lt_of_lt_of_le (hK b hb) HBW.out.size))
    have HU1 : Hid (∀ r ∈ (us.map fun u => [u]), ∀ u ∈ r, u.oneCell' = true) := Go.Lib.hid (fun r hr u hu => by
      obtain ⟨u', hu', rfl⟩ := List.mem_map.1 hr
      rw [List.mem_singleton.1 hu]
      obtain ⟨i, hi, rfl⟩ := List.mem_iff_getElem.1 hu'
      have hib : i < B.length := by rw [← HUL.out]; exact hi
      exact (HBI.out.box i us[i] B[i] (List.getElem?_eq_getElem hi) (List.getElem?_eq_getElem hib)).one)
    have HR1 : Hid (∀ r ∈ (us.map fun u => [u]), r.length = 1) := Go.Lib.hid (fun r hr => by obtain ⟨u', hu', rfl⟩ := List.mem_map.1 hr; rfl)
    have HFL : Hid ((us.map fun u => [u]).flatten = us) := Go.Lib.hid (flat_ones us)
    have HOWN := Go.Lib.hid hown0
    have HBA := Go.Lib.hid hbA
    have HK := Go.Lib.hid hK
    clear hown0 hbA htk2 hbw hK
    go_upto_region 6 with (first
      | (at_builtin; (refine wpList_append_rows rfl _ _ 31 rfl wc.heap.size 151 i0 _ 1 24 hund hi0 hz0 hz1 hz2 rfl (by decide) _ 0 [] rfl HOWN.out (.slice (some ⟨gb, ob, none⟩) us.length cb) K (us.map fun u => [u]) rfl HBV.out HR1.out HU1.out (by have := HUL.out; have := HLB.out; rw [List.length_map]; unfold maxLen; omega) (by have := HUL.out; have := HLB.out; rw [List.length_map]; omega) (by simp) ?_; intro v1 w1 hown1 hgrow1; replace hgrow1 : World.grownBy (wc.alloc (.cells #[] 151)) w1 (some wc.heap.size) := hgrow1; rw [Nat.zero_add, List.nil_append, HFL.out, List.length_map] at hown1; obtain ⟨g1, c1, cur1, rfl, hg1, hcur1, hc1, hcs1, htk1⟩ := own_pos hown1 (by have := HUL.out; have := HSB.out; omega); have hm1 := own_cap hown1; have hb1 : Below wc.heap.size wc w1 := HBA.out.trans ⟨hgrow1.os, hgrow1.tape, hgrow1.output, hgrow1.size, fun k hk => hgrow1.block k (by simp; omega) (by intro e; cases e; omega)⟩; have B3 := Below.row hb1 hw3; have B5 := Below.row hb1 hw5; have B6 := Below.row hb1 hw6; have f3 : w1.frozen? ⟨w.heap.size, 17, none⟩ = false := frozen_of_row _ _ _ _ _ B3; have e17 := cell_of_row w1 w.heap.size 17 _ _ _ B3; replace e17 : w1.cell? ⟨w.heap.size, 17, none⟩ = some (.slice (some ⟨gb, ob, none⟩) us.length cb) := e17; clear q17))
      | fail)
    have ng : g1 ≠ w.heap.size ∧ g1 ≠ w.heap.size + 1 ∧ g1 ≠ w.heap.size + 1 + 1 := by omega
    have B3' := heap_set_same (j := 17) (v := .slice (some ⟨g1, 0, none⟩) us.length c1) B3
    have B5' := (Go.Deep.blk_setCell_other w1 ⟨w.heap.size, 17, none⟩ (.slice (some ⟨g1, 0, none⟩) us.length c1) (w.heap.size + 1) (by show w.heap.size + 1 ≠ w.heap.size; omega)).trans B5
    have B6' := (Go.Deep.blk_setCell_other w1 ⟨w.heap.size, 17, none⟩ (.slice (some ⟨g1, 0, none⟩) us.length c1) (w.heap.size + 1 + 1) (by show w.heap.size + 1 + 1 ≠ w.heap.size; omega)).trans B6
    have hcur' := (Go.Deep.blk_setCell_other w1 ⟨w.heap.size, 17, none⟩ (.slice (some ⟨g1, 0, none⟩) us.length c1) g1 ng.1).trans hcur1
    have hk2 : ∀ b, K b → (w1.setCell ⟨w.heap.size, 17, none⟩ (.slice (some ⟨g1, 0, none⟩) us.length c1)).heap[b]? = wc.heap[b]? := fun b hb => (Go.Deep.blk_setCell_other _ _ _ _ (by have := HK.out b hb; show b ≠ w.heap.size; omega)).trans (hb1.block b (Nat.lt_of_lt_of_le (HK.out b hb) HBW.out.size))
    have HT2 := Go.Lib.hid (HTI.out.keep hk2)
    have HBI2 := Go.Lib.hid (HBI.out.keep hk2)
    have HBW2 := Go.Lib.hid (show Below w.heap.size w (w1.setCell ⟨w.heap.size, 17, none⟩ (.slice (some ⟨g1, 0, none⟩) us.length c1)) from (HBW.out.trans (hb1.mono HBW.out.size)).setCell (Nat.le_refl _) _)
    clear B3 B5 B6 hcur1 hown1 hb1 f3 e17 hk2 HTI HBI HBW HOWN HBA HBV HBX hw3 hw5 hw6 hgrow1
    generalize (w1.setCell ⟨w.heap.size, 17, none⟩ (.slice (some ⟨g1, 0, none⟩) us.length c1)) = W2 at *
    have q17 : W2.cell? ⟨w.heap.size, 17, none⟩ = some (.slice (some ⟨g1, 0, none⟩) us.length c1) := cell_of_row _ _ _ _ _ _ B3'
    have q5_0 : W2.cell? ⟨w.heap.size + 1, 0, none⟩ = some (.int .i64 (t.node : Int)) := cell_of_row _ _ _ _ _ _ B5'
    have q5_1 : W2.cell? ⟨w.heap.size + 1, 1, none⟩ = some (.int .i64 (t.gen : Int)) := cell_of_row _ _ _ _ _ _ B5'
    have q5_2 : W2.cell? ⟨w.heap.size + 1, 2, none⟩ = some (.int .i64 (t.ver : Int)) := cell_of_row _ _ _ _ _ _ B5'
    have q5_3 : W2.cell? ⟨w.heap.size + 1, 3, none⟩ = some (.int .i64 (t.due : Int)) := cell_of_row _ _ _ _ _ _ B5'
    have hg1l := heap_lt hcur'
    have hw2l := heap_lt B6'
    have hinf2 : (Tryz.prog.info? 140).map (fun i => (i.zero, i.size, i.bytes)) = some (some (.agg #[.int .i64 0, .int .i64 0, .int .i64 0, .int .i64 0]), 4, 32) := by kernel_rfl
    have hund2 : Tryz.prog.underlying 151 = some (.slice 140) := by kernel_rfl
    obtain ⟨i1, hi1', hz10, hz11, hz12⟩ := info_parts hinf2
    have hbA2 : Below W2.heap.size W2 (W2.drew.alloc (.cells #[.int .i64 (t.node : Int), .int .i64 (t.gen : Int), .int .i64 (t.ver : Int), .int .i64 (t.due : Int)] 140)) := (Below.refl _ _).drew.alloc (Nat.le_refl _) _
    have hoA : World.ownsRow (W2.drew.alloc (.cells #[.int .i64 (t.node : Int), .int .i64 (t.gen : Int), .int .i64 (t.ver : Int), .int .i64 (t.due : Int)] 140)) W2.heap.size 140 4 (.slice (some ⟨W2.heap.size, 0, none⟩) 1 1) 1 [.int .i64 (t.node : Int), .int .i64 (t.gen : Int), .int .i64 (t.ver : Int), .int .i64 (t.due : Int)] := World.ownsRow_lit W2.drew #[.int .i64 (t.node : Int), .int .i64 (t.gen : Int), .int .i64 (t.ver : Int), .int .i64 (t.due : Int)] 1 (Nat.le_refl _) (by decide) rfl
    have HBA2 := Go.Lib.hid hbA2
    have HOA := Go.Lib.hid hoA
    have HTA : Hid (KTicks K (W2.drew.alloc (.cells #[.int .i64 (t.node : Int), .int .i64 (t.gen : Int), .int .i64 (t.ver : Int), .int .i64 (t.due : Int)] 140)) (.slice p7 l.length c7) l) := Go.Lib.hid (HT2.out.keep fun b hb => hbA2.block b (Nat.lt_of_lt_of_le (HK.out b hb) HBW2.out.size))
    have HL4 : Hid (∀ r ∈ l.map TickR.cells, r.length = 4) := Go.Lib.hid (fun r hr => by obtain ⟨n, _, rfl⟩ := List.mem_map.1 hr; rfl)
    have HO4 : Hid (∀ r ∈ l.map TickR.cells, ∀ u ∈ r, u.oneCell' = true) := Go.Lib.hid (fun r hr u hu => by
      obtain ⟨n, _, rfl⟩ := List.mem_map.1 hr
      unfold TickR.cells at hu
      simp at hu
      rcases hu with rfl | rfl | rfl | rfl <;> rfl)
    obtain ⟨u0, hu0⟩ := own_cell2 hcur' (j := s) (by have := HUL.out; have := HSB.out; rw [hcs1]; omega)
    have fu0 : W2.frozen? ⟨g1, s, none⟩ = false := frozen_of_row _ _ _ _ _ hcur'
    have hi1 : (0 : Int) ≤ (s : Int) := by omega
    have hi2 : (s : Int) < (us.length : Int) := by have := HUL.out; have := HSB.out; omega
    have HCUR := Go.Lib.hid hcur'
    have HB3 := Go.Lib.hid B3'; have HB6 := Go.Lib.hid B6'
    clear hbA2 hoA hcur' B3' B5' B6'
    go_wp2
    go_region_held_law (fun W' => W'.cell? ⟨w.heap.size, 17, none⟩ = some (.slice (some ⟨g1, 0, none⟩) us.length c1) ∧ W'.cell? ⟨w.heap.size + 1, 0, none⟩ = some (.int .i64 (t.node : Int)) ∧ W'.cell? ⟨w.heap.size + 1, 1, none⟩ = some (.int .i64 (t.gen : Int)) ∧ W'.cell? ⟨w.heap.size + 1, 2, none⟩ = some (.int .i64 (t.ver : Int)) ∧ W'.cell? ⟨w.heap.size + 1, 3, none⟩ = some (.int .i64 (t.due : Int)))
      (first | exact ⟨k17, k0, k1, k2, k3⟩ | exact ⟨cell_set_other k17 (by show w.heap.size ≠ g1; omega), cell_set_other k0 (by show w.heap.size + 1 ≠ g1; omega), cell_set_other k1 (by show w.heap.size + 1 ≠ g1; omega), cell_set_other k2 (by show w.heap.size + 1 ≠ g1; omega), cell_set_other k3 (by show w.heap.size + 1 ≠ g1; omega)⟩ | exact ⟨q17, q5_0, q5_1, q5_2, q5_3⟩ | exact ⟨below_cell HBA2.out q17, below_cell HBA2.out q5_0, below_cell HBA2.out q5_1, below_cell HBA2.out q5_2, below_cell HBA2.out q5_3⟩)
      (first
        | (refine step_append_rows (by rfl) _ _ 151 (by rfl) W2.heap.size 140 i1 _ 4 32 hund2 hi1' hz10 hz11 hz12 rfl (by decide) (.slice (some ⟨W2.heap.size, 0, none⟩) 1 1) 1 [.int .i64 (t.node : Int), .int .i64 (t.gen : Int), .int .i64 (t.ver : Int), .int .i64 (t.due : Int)] (by rfl) HOA.out (.slice p7 l.length c7) K (l.map TickR.cells) (by rfl) HTA.out HL4.out HO4.out (by have := HLL.out; rw [List.length_map]; unfold maxLen; omega) (by have := HLL.out; rw [List.length_map]; omega) (by simp) ?_; intro v4 w4 hown4 hgrow4; replace hgrow4 : World.grownBy (W2.drew.alloc (.cells #[.int .i64 (t.node : Int), .int .i64 (t.gen : Int), .int .i64 (t.ver : Int), .int .i64 (t.due : Int)] 140)) w4 (some W2.heap.size) := hgrow4; have hb4 : Below W2.heap.size W2 w4 := HBA2.out.trans ⟨hgrow4.os, hgrow4.tape, hgrow4.output, hgrow4.size, fun k hk => hgrow4.block k (by simp; omega) (by intro e; cases e; omega)⟩; have k17 := below_cell hb4 q17; have k0 := below_cell hb4 q5_0; have k1 := below_cell hb4 q5_1; have k2 := below_cell hb4 q5_2; have k3 := below_cell hb4 q5_3; have ku0 := below_cell hb4 hu0; have kfu : w4.frozen? ⟨g1, s, none⟩ = false := (hb4.frozen hg1l).trans fu0; obtain ⟨g4, c4, cur4, rfl, hg4, hcur4, hc4, hcs4, htk4⟩ := own_pos hown4 (by omega)))
    have hg4n : g4 ≠ g1 ∧ w.heap.size ≤ wc.heap.size ∧ wc.heap.size ≤ g1 ∧ g1 < W2.heap.size ∧ W2.heap.size ≤ g4 := by have := HBW2.out.size; omega
    have B3 := (Go.Deep.blk_setCell_other w4 ⟨g1, s, none⟩ (.slice (some ⟨g4, 0, none⟩) (1 + l.length) c4) w.heap.size (by show w.heap.size ≠ g1; omega)).trans (Below.row hb4 HB3.out)
    have B6 := (Go.Deep.blk_setCell_other w4 ⟨g1, s, none⟩ (.slice (some ⟨g4, 0, none⟩) (1 + l.length) c4) (w.heap.size + 1 + 1) (by show w.heap.size + 1 + 1 ≠ g1; omega)).trans (Below.row hb4 HB6.out)
    have hcur5 := heap_set_same (j := s) (v := .slice (some ⟨g4, 0, none⟩) (1 + l.length) c4) (Below.row hb4 HCUR.out)
    have hout : KRows (fun b => K b ∨ wc.heap.size ≤ b) (w4.setCell ⟨g1, s, none⟩ (.slice (some ⟨g4, 0, none⟩) (1 + l.length) c4)) 1 (.slice (some ⟨g1, 0, none⟩) us.length c1) ((us.set s (.slice (some ⟨g4, 0, none⟩) (1 + l.length) c4)).map fun u => [u]) :=
      ones_set HCUR.out rfl hc1 hcs1 htk1 hcur5 hm1 (.inr hg4n.2.2.1)
    have hnew : KTicks (fun b => K b ∨ wc.heap.size ≤ b) (w4.setCell ⟨g1, s, none⟩ (.slice (some ⟨g4, 0, none⟩) (1 + l.length) c4)) (.slice (some ⟨g4, 0, none⟩) (1 + l.length) c4) (t :: l) := by
      have h0 : w4.ownsRow W2.heap.size 140 4 (.slice (some ⟨g4, 0, none⟩) (1 + l.length) c4) ((t :: l).map TickR.cells).length ((t :: l).map TickR.cells).flatten := by
        rw [List.length_map, List.length_cons, Nat.add_comm l.length 1, List.map_cons, List.flatten_cons]
        rw [List.length_map] at hown4
        exact hown4
      have h1 := KRows.own (K := fun b => W2.heap.size ≤ b) h0 (fun r hr => by obtain ⟨n, _, rfl⟩ := List.mem_map.1 hr; rfl) (fun b hb => hb)
      exact (h1.keep fun b hb => Go.Deep.blk_setCell_other _ _ _ _ (by show b ≠ g1; omega)).mono fun b hb => .inr (by omega)
    have HBX5 := Go.Lib.hid (KBoxes.put (s := s) (b := t :: l) HBI2.out (fun b hb => (Go.Deep.blk_setCell_other _ _ _ _ (by have := HK.out b hb; show b ≠ g1; omega)).trans (hb4.block b (Nat.lt_of_lt_of_le (HK.out b hb) HBW2.out.size))) (fun b hb => .inl hb) hout hnew)
    have HB5 := Go.Lib.hid (show Below w.heap.size w (w4.setCell ⟨g1, s, none⟩ (.slice (some ⟨g4, 0, none⟩) (1 + l.length) c4)) from (HBW2.out.trans (hb4.mono HBW2.out.size)).setCell (by show w.heap.size ≤ g1; omega) _)
    clear hout hnew hcur5 hcur4 hown4 hgrow4 hb4 k17 k0 k1 k2 k3 ku0 kfu q17 q5_0 q5_1 q5_2 q5_3 hu0 fu0 HB3 HB6 HCUR HBI2 HBW2 HOA HTA HBA2 HT2
    generalize hW5 : (w4.setCell ⟨g1, s, none⟩ (.slice (some ⟨g4, 0, none⟩) (1 + l.length) c4)) = W5 at *
    clear hW5
    rw [Int.natCast_add] at B3
    replace B3 : W5.heap[w.heap.size]? = some (.cells #[.int .i64 (x 0), .int .i64 (x 1), .int .i64 (x 2), .int .i64 (x 3), .int .i64 (x 4), .int .i64 (x 5), .int .i64 (x 6), .int .i64 (x 7), .int .i64 (x 8), .int .i64 (x 9), .int .i64 (x 10), .int .i64 (x 11), .int .i64 (x 12), .int .i64 cl, vf, .int .i64 ((tk : Int) + (k : Int)), vn, .slice (some ⟨g1, 0, none⟩) us.length c1, vw] 33) := B3
    go_wp2_with (first
      | (refine wpList_load_row (o := ⟨some 43, .load 33 _, _, _, _, _⟩) rfl 33 (.tmp 3) rfl w.heap.size rfl 33 #[.int .i64 (x 0), .int .i64 (x 1), .int .i64 (x 2), .int .i64 (x 3), .int .i64 (x 4), .int .i64 (x 5), .int .i64 (x 6), .int .i64 (x 7), .int .i64 (x 8), .int .i64 (x 9), .int .i64 (x 10), .int .i64 (x 11), .int .i64 (x 12), .int .i64 cl, vf, .int .i64 ((tk : Int) + (k : Int)), vn, .slice (some ⟨g1, 0, none⟩) us.length c1, vw] (0, 0) _ B3 Tryz.underlying33 rfl (by kernel_rfl) ?_)
      | (refine wpList_store_rowTo (o := ⟨none, .store 33 _ _, _, _, _, _⟩) rfl 33 (.tmp 6) (.tmp 43) rfl rfl (w.heap.size + 1 + 1) #[.int .i64 (x 0), .int .i64 (x 1), .int .i64 (x 2), .int .i64 (x 3), .int .i64 (x 4), .int .i64 (x 5), .int .i64 (x 6), .int .i64 (x 7), .int .i64 (x 8), .int .i64 (x 9), .int .i64 (x 10), .int .i64 (x 11), .int .i64 (x 12), .int .i64 cl, vf, .int .i64 ((tk : Int) + (k : Int)), vn, .slice (some ⟨g1, 0, none⟩) us.length c1, vw] rfl rfl 33 #[.int .i64 0, .int .i64 0, .int .i64 0, .int .i64 0, .int .i64 0, .int .i64 0, .int .i64 0, .int .i64 0, .int .i64 0, .int .i64 0, .int .i64 0, .int .i64 0, .int .i64 0, .int .i64 0, .slice none 0 0, .int .i64 0, .slice none 0 0, .slice none 0 0, .slice none 0 0] B6 (by kernel_rfl) rfl (by simp [show ∀ k n, (Value.int k n).oneCell' = true from fun _ _ => rfl, show ∀ a n c, (Value.slice a n c).oneCell' = true from fun _ _ _ => rfl, hvf, hvn, hvw]) ?_; refine Hid.out ?_))
    have B7 := setRow_heap W5 (w.heap.size + 1 + 1) #[.int .i64 0, .int .i64 0, .int .i64 0, .int .i64 0, .int .i64 0, .int .i64 0, .int .i64 0, .int .i64 0, .int .i64 0, .int .i64 0, .int .i64 0, .int .i64 0, .int .i64 0, .int .i64 0, .slice none 0 0, .int .i64 0, .slice none 0 0, .slice none 0 0, .slice none 0 0] #[.int .i64 (x 0), .int .i64 (x 1), .int .i64 (x 2), .int .i64 (x 3), .int .i64 (x 4), .int .i64 (x 5), .int .i64 (x 6), .int .i64 (x 7), .int .i64 (x 8), .int .i64 (x 9), .int .i64 (x 10), .int .i64 (x 11), .int .i64 (x 12), .int .i64 cl, vf, .int .i64 ((tk : Int) + (k : Int)), vn, .slice (some ⟨g1, 0, none⟩) us.length c1, vw] 33 (0, 0) B6
    have hsk : ∀ b, (K b ∨ wc.heap.size ≤ b) → (W5.setRow (w.heap.size + 1 + 1) #[.int .i64 (x 0), .int .i64 (x 1), .int .i64 (x 2), .int .i64 (x 3), .int .i64 (x 4), .int .i64 (x 5), .int .i64 (x 6), .int .i64 (x 7), .int .i64 (x 8), .int .i64 (x 9), .int .i64 (x 10), .int .i64 (x 11), .int .i64 (x 12), .int .i64 cl, vf, .int .i64 ((tk : Int) + (k : Int)), vn, .slice (some ⟨g1, 0, none⟩) us.length c1, vw]).heap[b]? = W5.heap[b]? := fun b hb => by
      refine setRow_other _ _ _ _ ?_
      rcases hb with hb | hb
      · have := HK.out b hb; omega
      · omega
    have hsk2 : ∀ b, (K b ∨ wc.heap.size ≤ b) → (K b ∨ w.heap.size ≤ b) := fun b hb => hb.elim .inl fun h => .inr (by omega)
    have HBX7 := Go.Lib.hid (KBoxes.mono (HBX5.out.keep hsk) hsk2)
    have HB7 := Go.Lib.hid (below_setRow HB5.out (show w.heap.size ≤ w.heap.size + 1 + 1 by omega) #[.int .i64 (x 0), .int .i64 (x 1), .int .i64 (x 2), .int .i64 (x 3), .int .i64 (x 4), .int .i64 (x 5), .int .i64 (x 6), .int .i64 (x 7), .int .i64 (x 8), .int .i64 (x 9), .int .i64 (x 10), .int .i64 (x 11), .int .i64 (x 12), .int .i64 cl, vf, .int .i64 ((tk : Int) + (k : Int)), vn, .slice (some ⟨g1, 0, none⟩) us.length c1, vw])
    unfold Hid
    clear hsk hsk2 HBX5 HB5 B3 B6
    generalize W5.setRow (w.heap.size + 1 + 1) #[.int .i64 (x 0), .int .i64 (x 1), .int .i64 (x 2), .int .i64 (x 3), .int .i64 (x 4), .int .i64 (x 5), .int .i64 (x 6), .int .i64 (x 7), .int .i64 (x 8), .int .i64 (x 9), .int .i64 (x 10), .int .i64 (x 11), .int .i64 (x 12), .int .i64 cl, vf, .int .i64 ((tk : Int) + (k : Int)), vn, .slice (some ⟨g1, 0, none⟩) us.length c1, vw] = W6 at *
    go_wp2_with fail
    refine bodyPost_ret (results_cell_row rfl _ _ (w.heap.size + 1 + 1) 33 #[.int .i64 (x 0), .int .i64 (x 1), .int .i64 (x 2), .int .i64 (x 3), .int .i64 (x 4), .int .i64 (x 5), .int .i64 (x 6), .int .i64 (x 7), .int .i64 (x 8), .int .i64 (x 9), .int .i64 (x 10), .int .i64 (x 11), .int .i64 (x 12), .int .i64 cl, vf, .int .i64 ((tk : Int) + (k : Int)), vn, .slice (some ⟨g1, 0, none⟩) us.length c1, vw] (0, 0) _ rfl B7 Tryz.underlying33 rfl (by kernel_rfl)) rfl ⟨.slice (some ⟨g1, 0, none⟩) us.length c1, us.set s (.slice (some ⟨g4, 0, none⟩) (1 + l.length) c4), ?_, ?_, HB7.out⟩
    · rw [HFIN.out.2, Int.natCast_add]
    · rw [HFIN.out.1]
      exact HBX7.out
end Go.Proofs.YtgemjjpmoejgdaaGreat
