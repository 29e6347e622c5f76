/- The document's shop in which nothing has happened. -/
import Derived.Test.YtgemjjpmoejgdaaGreatJoinv
import Derived.Deep.OwnRows
namespace Go.Proofs.YtgemjjpmoejgdaaGreat
open Go.RowKit
set_option maxRecDepth 100000
set_option linter.unusedVariables false

/-- While the first shop's parts are made in whatever order. -/
structure NewJ (x : Nat → Int) (n : Nat) (W : World) (listed : Array Bool) (a : Act) (w : World) : Prop where
  b : Below W.heap.size W w
  m1 : listed.getD 5 true = true → ∃ g, slotOf a 10 = .slice (some ⟨g, 0, none⟩) n n ∧ W.heap.size ≤ g ∧ w.heap[g]? = some (.cells (madeCells #[.slice none 0 0] n) 151)
  m2 : listed.getD 8 true = true → ∃ g, slotOf a 13 = .slice (some ⟨g, 0, none⟩) n n ∧ W.heap.size ≤ g ∧ w.heap[g]? = some (.cells (madeCells #[.slice none 0 0] n) 151)
  al : listed.getD 10 true = true → ∃ g, slotOf a 3 = .pointer (some ⟨g, 0, none⟩) ∧ W.heap.size ≤ g ∧ w.heap[g]? = some (.cells #[.int .i64 0, .int .i64 0, .int .i64 0, .int .i64 0, .int .i64 0, .int .i64 0, .int .i64 0, .int .i64 0, .int .i64 0, .int .i64 0, .int .i64 0, .int .i64 0, .int .i64 0, .int .i64 0, .slice none 0 0, .int .i64 0, .slice none 0 0, .slice none 0 0, .slice none 0 0] 33)
  bd : listed.getD 9 true = true → slotOf a 14 = .agg (#[.int .i64 (x 0), .int .i64 (x 1), .int .i64 (x 2), .int .i64 (x 3), .int .i64 (x 4), .int .i64 (x 5), .int .i64 (x 6), .int .i64 (x 7), .int .i64 (x 8), .int .i64 (x 9), .int .i64 (x 10), .int .i64 (x 11), .int .i64 (x 12), .int .i64 0, .slice none 0 0, .int .i64 (x 4), .slice none 0 0, slotOf a 10, slotOf a 13]) ∧ (listed.getD 5 true = true ∧ listed.getD 8 true = true)
theorem NewJ.quiet {x : Nat → Int} {n : Nat} {W w w' : World} {listed : Array Bool} {a a' : Act} (h : NewJ x n W listed a w) {i : Nat} (hi : 5 ≠ i ∧ 8 ≠ i ∧ 10 ≠ i ∧ 9 ≠ i) (ha : slotOf a' 10 = slotOf a 10 ∧ slotOf a' 13 = slotOf a 13 ∧ slotOf a' 3 = slotOf a 3 ∧ slotOf a' 14 = slotOf a 14) (hb : Below w.heap.size w w') : NewJ x n W (listed.setIfInBounds i true) a' w' := by
  have g5 := getD_set_other listed (i := i) hi.1
  have g8 := getD_set_other listed (i := i) hi.2.1
  have g10 := getD_set_other listed (i := i) hi.2.2.1
  have g9 := getD_set_other listed (i := i) hi.2.2.2
  refine ⟨h.b.trans (hb.mono h.b.size), fun q => ?_, fun q => ?_, fun q => ?_, fun q => ?_⟩
  · rw [g5] at q; obtain ⟨g, e1, e2, e3⟩ := h.m1 q; exact ⟨g, ha.1.trans e1, e2, Below.row hb e3⟩
  · rw [g8] at q; obtain ⟨g, e1, e2, e3⟩ := h.m2 q; exact ⟨g, ha.2.1.trans e1, e2, Below.row hb e3⟩
  · rw [g10] at q; obtain ⟨g, e1, e2, e3⟩ := h.al q; exact ⟨g, ha.2.2.1.trans e1, e2, Below.row hb e3⟩
  · rw [g9] at q; rw [g5, g8, ha.1, ha.2.1, ha.2.2.2]; exact h.bd q
def NewK (x : Nat → Int) (n : Nat) (W : World) (listed : Array Bool) (a : Act) (w : World) : Prop :=
  (listed.getD 11 true = false → NewJ x n W listed a w) ∧ (listed.getD 11 true = true → (∀ j, j < 11 → listed.getD j true = true) ∧ ∃ g ga gb, slotOf a 3 = .pointer (some ⟨g, 0, none⟩) ∧ W.heap.size ≤ g ∧ W.heap.size ≤ ga ∧ W.heap.size ≤ gb ∧ w.heap[g]? = some (.cells #[.int .i64 (x 0), .int .i64 (x 1), .int .i64 (x 2), .int .i64 (x 3), .int .i64 (x 4), .int .i64 (x 5), .int .i64 (x 6), .int .i64 (x 7), .int .i64 (x 8), .int .i64 (x 9), .int .i64 (x 10), .int .i64 (x 11), .int .i64 (x 12), .int .i64 0, .slice none 0 0, .int .i64 (x 4), .slice none 0 0, .slice (some ⟨ga, 0, none⟩) n n, .slice (some ⟨gb, 0, none⟩) n n] 33) ∧ w.heap[ga]? = some (.cells (madeCells #[.slice none 0 0] n) 151) ∧ w.heap[gb]? = some (.cells (madeCells #[.slice none 0 0] n) 151) ∧ Below W.heap.size W w)
theorem NewK.open {x : Nat → Int} {n : Nat} {W w : World} {listed : Array Bool} {a : Act} (h : NewK x n W listed a w) {i : Nat} (hi : i < 11) (hun : listed.getD i true = false) : listed.getD 11 true = false ∧ NewJ x n W listed a w := by
  cases q : listed.getD 11 true with
  | false => exact ⟨rfl, h.1 q⟩
  | true => have := (h.2 q).1 i hi; rw [hun] at this; cases this
theorem NewK.on {x : Nat → Int} {n : Nat} {W w : World} {listed : Array Bool} {a : Act} {i : Nat} (hq : listed.getD 11 true = false) (hi : 11 ≠ i) (h : NewJ x n W (listed.setIfInBounds i true) a w) : NewK x n W (listed.setIfInBounds i true) a w := by
  have g := getD_set_other listed (i := i) hi
  exact ⟨fun _ => h, fun q => by rw [g, hq] at q; cases q⟩
theorem NewK.start {x : Nat → Int} {n : Nat} {W : World} {a : Act} : NewK x n W (Array.replicate 12 false) a W.drew := by
  have f0 : ∀ j, j < 12 → (Array.replicate 12 false).getD j true = false := fun j hj => by simp [hj]
  exact ⟨fun _ => ⟨(Below.refl _ _).drew, fun q => (by rw [f0 _ (by decide)] at q; cases q), fun q => (by rw [f0 _ (by decide)] at q; cases q), fun q => (by rw [f0 _ (by decide)] at q; cases q), fun q => (by rw [f0 _ (by decide)] at q; cases q)⟩, fun q => (by rw [f0 _ (by decide)] at q; cases q)⟩
theorem own_type {w : World} {base k n b : Nat} {e t : TypeId} {v : Value} {xs : List Value} {cs : Array Value} {fr : Nat × Nat} (h : w.ownsRow base e k v n xs) (hb : w.heap[b]? = some (.cells cs t fr)) (hne : e ≠ t) : v.ownBlock ≠ some b := by
  rcases h.2 with ⟨e0, _⟩ | ⟨g, c, cur, e0, _, hg, _⟩
  · rw [e0]; intro q; cases q
  · rw [e0]
    intro q
    have q : g = b := Option.some.inj q
    rw [q, hb] at hg
    have := Option.some.inj hg
    injection this with _ h2
    exact hne h2.symm
/-- An append keeps blocks of other kinds. -/
theorem grown_row {w w' : World} {v : Value} {b : Nat} {o : Obj} (hg : w.grownBy w' v.ownBlock) (hb : w.heap[b]? = some o) (hne : v.ownBlock ≠ some b) : w'.heap[b]? = some o :=
  (hg.block b (heap_lt hb) (Ne.symm hne)).trans hb
theorem own_apart {w : World} {base base' k k' n n' : Nat} {e e' : TypeId} {v v' : Value} {xs xs' : List Value} (h : w.ownsRow base e k v n xs) (h' : w.ownsRow base' e' k' v' n' xs') (hne : e ≠ e') : v.ownBlock = none ∨ v.ownBlock ≠ v'.ownBlock := by
  rcases h.2 with ⟨e0, _⟩ | ⟨g, c, cur, e0, _, hg, _⟩
  · left; rw [e0]; rfl
  · right
    intro q
    have := own_type h' hg (Ne.symm hne)
    rw [← q, e0] at this
    exact this rfl
theorem own_set {w : World} {base k n : Nat} {e : TypeId} {v u : Value} {xs : List Value} {a : Addr} (h : w.ownsRow base e k v n xs) (hne : v.ownBlock ≠ some a.block) : (w.setCell a u).ownsRow base e k v n xs := by
  refine ⟨h.1, ?_⟩
  rcases h.2 with h0 | ⟨g, c, cur, e0, hb, hg, hr⟩
  · exact .inl h0
  · refine .inr ⟨g, c, cur, e0, hb, ?_, hr⟩
    rw [Go.Deep.blk_setCell_other _ _ _ _ (by intro q; rw [e0] at hne; exact hne (congrArg some q))]
    exact hg
theorem own_one {w : World} {base k n : Nat} {e : TypeId} {v : Value} {xs : List Value} (h : w.ownsRow base e k v n xs) : v.oneCell' = true := by
  rcases h.2 with ⟨e0, _⟩ | ⟨g, c, cur, e0, _⟩ <;> (rw [e0]; rfl)
theorem KRows.own2 {w : World} {base k : Nat} {e : TypeId} {v : Value} {rows : List (List Value)} (h : w.ownsRow base e k v rows.length rows.flatten) (hk : ∀ r ∈ rows, r.length = k) : KRows (fun b => base ≤ b ∧ v.ownBlock = some b) w k v rows := by
  have h1 := KRows.own (K := fun b => base ≤ b) h hk fun _ h => h
  exact ⟨h1.at', fun a n c e hn => ⟨h1.kind a n c e hn, by rw [e]; rfl⟩, h1.nil, h1.cap⟩
theorem made_boxes {K : Nat → Prop} {w : World} {g n : Nat} {t : TypeId} (hg : w.heap[g]? = some (.cells (madeCells #[.slice none 0 0] n) t)) (hK : K g) (hm : n ≤ maxLen) : KBoxes K w (.slice (some ⟨g, 0, none⟩) n n) (List.replicate n []) (List.replicate n (.slice none 0 0)) := by
  have hl : ((List.replicate n (Value.slice none 0 0)).map fun u => [u]).length = n := by simp
  refine ⟨by simp, ?_, fun i u b hu hb => ?_⟩
  · have h : w.ownsRow g t 1 (.slice (some ⟨g, 0, none⟩) n n) ((List.replicate n (Value.slice none 0 0)).map fun u => [u]).length ((List.replicate n (Value.slice none 0 0)).map fun u => [u]).flatten := by
      rw [hl, flat_ones]
      refine ⟨by simp, .inr ⟨g, n, _, rfl, Nat.le_refl _, hg, Nat.le_refl _, hm, by rw [size_madeCells, Nat.mul_one], ?_⟩⟩
      rw [toList_madeCells_one, Nat.mul_one]
      exact List.take_of_length_le (by simp)
    exact ⟨RowsAt.own h (fun r hr => by obtain ⟨u', _, rfl⟩ := List.mem_map.1 hr; rfl), fun a n' c e _ => (by cases e; exact hK), fun n' c e => (by cases e), fun p n' c e => (by cases e; exact Nat.le_refl _)⟩
  · have hu' := List.mem_of_getElem? hu
    have hb' := List.mem_of_getElem? hb
    rw [(List.mem_replicate.1 hu').2, (List.mem_replicate.1 hb').2]
    exact ⟨⟨none, 0, rfl, fun i r hi => by cases hi⟩, fun a n c e hn => absurd rfl hn, fun n c e => (by cases e; rfl), fun p n c e => (by cases e; exact Nat.le_refl _)⟩
def FX (k : Nat) : List Value := (List.range' 0 k).map fun (i : Nat) => Value.int .i64 (i : Int)
theorem FX_succ (k : Nat) : FX (k + 1) = FX k ++ [.int .i64 (k : Int)] := by unfold FX; rw [List.range'_concat, List.map_append]; simp
def NX (nd : NodeR) (k : Nat) : List Value := (List.replicate k nd.cells).flatten
theorem NX_succ (nd : NodeR) (k : Nat) : NX nd (k + 1) = NX nd k ++ nd.cells := by unfold NX; rw [List.replicate_succ']; simp

def tabN (v0 v1 v2 v3 v4 v6 v7 : Value) : List (Nat × Nat × Value) := [(0, 5, v0), (1, 6, v1), (2, 7, v2), (3, 8, v3), (4, 9, v4), (6, 11, v6), (7, 12, v7)]
theorem tabN_n (v0 v1 v2 v3 v4 v6 v7 : Value) : ((tabN v0 v1 v2 v3 v4 v6 v7).map Prod.fst).Nodup := by
  show [0, 1, 2, 3, 4, 6, 7].Nodup
  decide

set_option maxHeartbeats 4000000 in
theorem ref16_New (x : Nat → Int) (c : Cf) (n : Nat) (hx0 : x 0 = (n : Int)) (hnw : n = c.workers) (hx3 : x 3 = (c.nodes : Int)) (hx4 : x 4 = (c.tickets : Int)) (hx6 : x 6 = (c.first : Int)) (hw : n ≤ 64) (hn : c.nodes ≤ 4096) (w : World) :
    Calls Tryz.prog 14 #[.agg #[.int .i64 (x 0), .int .i64 (x 1), .int .i64 (x 2), .int .i64 (x 3), .int .i64 (x 4), .int .i64 (x 5), .int .i64 (x 6), .int .i64 (x 7), .int .i64 (x 8), .int .i64 (x 9), .int .i64 (x 10), .int .i64 (x 11), .int .i64 (x 12)]] w fun e w' => ∃ v vw, e = .returned v ∧ ShopAt (fun b => w.heap.size ≤ b) w' x vw v (freshR c) ∧ Below w.heap.size w w' := by
  have hm1 := run_make_row' (P := Tryz.prog) 31 151 (.slice none 0 0) 24 Tryz.underlying31 (by kernel_rfl) rfl .i64 .i64 n (by omega) (by omega)
  have HX0 := Go.Lib.hid hx0; have HX3 := Go.Lib.hid hx3; have HX4 := Go.Lib.hid hx4; have HX6 := Go.Lib.hid hx6; have HNW := Go.Lib.hid hnw
  clear hx0 hx3 hx4 hx6 hnw
  have hb0 : Below w.heap.size w ((w.alloc (.cells #[.int .i64 (x 0), .int .i64 (x 1), .int .i64 (x 2), .int .i64 (x 3), .int .i64 (x 4), .int .i64 (x 5), .int .i64 (x 6), .int .i64 (x 7), .int .i64 (x 8), .int .i64 (x 9), .int .i64 (x 10), .int .i64 (x 11), .int .i64 (x 12)] 23)).alloc (.cells #[.int .i64 0, .int .i64 0, .int .i64 0, .int .i64 0, .int .i64 0, .int .i64 0, .int .i64 0, .int .i64 0, .int .i64 0, .int .i64 0, .int .i64 0, .int .i64 0, .int .i64 0, .int .i64 0, .slice none 0 0, .int .i64 0, .slice none 0 0, .slice none 0 0, .slice none 0 0] 33)) := (((Below.refl _ _).alloc (Nat.le_refl _) _).alloc (by simp) _)
  have b0 : ((w.alloc (.cells #[.int .i64 (x 0), .int .i64 (x 1), .int .i64 (x 2), .int .i64 (x 3), .int .i64 (x 4), .int .i64 (x 5), .int .i64 (x 6), .int .i64 (x 7), .int .i64 (x 8), .int .i64 (x 9), .int .i64 (x 10), .int .i64 (x 11), .int .i64 (x 12)] 23)).alloc (.cells #[.int .i64 0, .int .i64 0, .int .i64 0, .int .i64 0, .int .i64 0, .int .i64 0, .int .i64 0, .int .i64 0, .int .i64 0, .int .i64 0, .int .i64 0, .int .i64 0, .int .i64 0, .int .i64 0, .slice none 0 0, .int .i64 0, .slice none 0 0, .slice none 0 0, .slice none 0 0] 33)).heap[w.heap.size]? = some (.cells #[.int .i64 (x 0), .int .i64 (x 1), .int .i64 (x 2), .int .i64 (x 3), .int .i64 (x 4), .int .i64 (x 5), .int .i64 (x 6), .int .i64 (x 7), .int .i64 (x 8), .int .i64 (x 9), .int .i64 (x 10), .int .i64 (x 11), .int .i64 (x 12)] 23) := by
    rw [Below.heap_alloc _ _ _ (by simp)]
    exact heap_alloc_new w _
  have b1 : ((w.alloc (.cells #[.int .i64 (x 0), .int .i64 (x 1), .int .i64 (x 2), .int .i64 (x 3), .int .i64 (x 4), .int .i64 (x 5), .int .i64 (x 6), .int .i64 (x 7), .int .i64 (x 8), .int .i64 (x 9), .int .i64 (x 10), .int .i64 (x 11), .int .i64 (x 12)] 23)).alloc (.cells #[.int .i64 0, .int .i64 0, .int .i64 0, .int .i64 0, .int .i64 0, .int .i64 0, .int .i64 0, .int .i64 0, .int .i64 0, .int .i64 0, .int .i64 0, .int .i64 0, .int .i64 0, .int .i64 0, .slice none 0 0, .int .i64 0, .slice none 0 0, .slice none 0 0, .slice none 0 0] 33)).heap[w.heap.size + 1]? = some (.cells #[.int .i64 0, .int .i64 0, .int .i64 0, .int .i64 0, .int .i64 0, .int .i64 0, .int .i64 0, .int .i64 0, .int .i64 0, .int .i64 0, .int .i64 0, .int .i64 0, .int .i64 0, .int .i64 0, .slice none 0 0, .int .i64 0, .slice none 0 0, .slice none 0 0, .slice none 0 0] 33) := by
    have h := heap_alloc_new (w.alloc (.cells #[.int .i64 (x 0), .int .i64 (x 1), .int .i64 (x 2), .int .i64 (x 3), .int .i64 (x 4), .int .i64 (x 5), .int .i64 (x 6), .int .i64 (x 7), .int .i64 (x 8), .int .i64 (x 9), .int .i64 (x 10), .int .i64 (x 11), .int .i64 (x 12)] 23)) (.cells #[.int .i64 0, .int .i64 0, .int .i64 0, .int .i64 0, .int .i64 0, .int .i64 0, .int .i64 0, .int .i64 0, .int .i64 0, .int .i64 0, .int .i64 0, .int .i64 0, .int .i64 0, .int .i64 0, .slice none 0 0, .int .i64 0, .slice none 0 0, .slice none 0 0, .slice none 0 0] 33)
    rw [World.size_alloc] at h
    exact h
  have HB0 := Go.Lib.hid b0; have HB1 := Go.Lib.hid b1; have HB := Go.Lib.hid hb0
  clear b0 b1 hb0
  have HM1 := Go.Lib.hid hm1
  clear hm1
  go_enter Tryz.func14, Tryz.ntmps14
  go_upto_region 1 with (fail)
  generalize ((w.alloc (.cells #[.int .i64 (x 0), .int .i64 (x 1), .int .i64 (x 2), .int .i64 (x 3), .int .i64 (x 4), .int .i64 (x 5), .int .i64 (x 6), .int .i64 (x 7), .int .i64 (x 8), .int .i64 (x 9), .int .i64 (x 10), .int .i64 (x 11), .int .i64 (x 12)] 23)).alloc (.cells #[.int .i64 0, .int .i64 0, .int .i64 0, .int .i64 0, .int .i64 0, .int .i64 0, .int .i64 0, .int .i64 0, .int .i64 0, .int .i64 0, .int .i64 0, .int .i64 0, .int .i64 0, .int .i64 0, .slice none 0 0, .int .i64 0, .slice none 0 0, .slice none 0 0, .slice none 0 0] 33)) = W at *
  have hs1 := heap_lt HB1.out
  go_cut [3] from 5 to 14 (fun v3 wx => ∃ g ga gb, v3 = .pointer (some ⟨g, 0, none⟩) ∧ W.heap.size ≤ g ∧ W.heap.size ≤ ga ∧ W.heap.size ≤ gb ∧ wx.heap[g]? = some (.cells #[.int .i64 (x 0), .int .i64 (x 1), .int .i64 (x 2), .int .i64 (x 3), .int .i64 (x 4), .int .i64 (x 5), .int .i64 (x 6), .int .i64 (x 7), .int .i64 (x 8), .int .i64 (x 9), .int .i64 (x 10), .int .i64 (x 11), .int .i64 (x 12), .int .i64 0, .slice none 0 0, .int .i64 (x 4), .slice none 0 0, .slice (some ⟨ga, 0, none⟩) n n, .slice (some ⟨gb, 0, none⟩) n n] 33) ∧ wx.heap[ga]? = some (.cells (madeCells #[.slice none 0 0] n) 151) ∧ wx.heap[gb]? = some (.cells (madeCells #[.slice none 0 0] n) 151) ∧ Below W.heap.size W wx)
  case first =>
    rename_i J1 K1 hJ1 hK1
    refine wp_region_frG [3, 5, 6, 7, 8, 9, 10, 11, 12, 13, 14] (tabN (.agg #[.int .i64 (x 0), .int .i64 (x 1), .int .i64 (x 2), .int .i64 (x 3), .int .i64 (x 4), .int .i64 (x 5), .int .i64 (x 6), .int .i64 (x 7), .int .i64 (x 8), .int .i64 (x 9), .int .i64 (x 10), .int .i64 (x 11), .int .i64 (x 12)]) (.pointer (some ⟨w.heap.size, 4, none⟩)) (.int .i64 (x 4)) (.pointer (some ⟨w.heap.size, 0, none⟩)) (.int .i64 (n : Int)) (.pointer (some ⟨w.heap.size, 0, none⟩)) (.int .i64 (n : Int))) (NewK x n W) (by kernel_rfl) (by kernel_rfl) (by kernel_rfl) ?_ ?_ ?_
    · exact NewK.start
    · refine ⟨?_, ?_, ?_, ?_, ?_, ?_, ?_, ?_, ?_, ?_, ?_, ?_, trivial⟩
      · intro listed a' w' hf hv hj hun hdep K' hK'
        have hsz : a'.tmps.size = 36 := hf.size
        obtain ⟨hq, hj⟩ := hj.open (by decide) hun
        exact st_load_row rfl w.heap.size ((hf.rest 1 (by decide)).trans rfl) 23 #[.int .i64 (x 0), .int .i64 (x 1), .int .i64 (x 2), .int .i64 (x 3), .int .i64 (x 4), .int .i64 (x 5), .int .i64 (x 6), .int .i64 (x 7), .int .i64 (x 8), .int .i64 (x 9), .int .i64 (x 10), .int .i64 (x 11), .int .i64 (x 12)] (0, 0) _ (Below.row hj.b HB0.out) Tryz.underlying23 rfl (by kernel_rfl) (hK' _ _ (hf.put (by decide)) (hv.setAt 0 rfl (tabN_n _ _ _ _ _ _ _) (by kernel_rfl) (by rw [hsz]; decide)) (NewK.on hq (by decide) (hj.quiet (by decide) ⟨slot_put_other (by decide), slot_put_other (by decide), slot_put_other (by decide), slot_put_other (by decide)⟩ (Below.refl _ _))))
      · intro listed a' w' hf hv hj hun hdep K' hK'
        have hsz : a'.tmps.size = 36 := hf.size
        obtain ⟨hq, hj⟩ := hj.open (by decide) hun
        have e1 : slotOf a' 1 = .pointer (some ⟨w.heap.size, 0, none⟩) := (hf.rest 1 (by decide)).trans rfl
        refine st_gen rfl ?_
        unfold Oper.wp execOp
        dsimp only
        rw [slot_eval, e1]
        go_simp
        exact hK' _ _ (hf.put (by decide)) (hv.setAt 1 rfl (tabN_n _ _ _ _ _ _ _) (by kernel_rfl) (by rw [hsz]; decide)) (NewK.on hq (by decide) (hj.quiet (by decide) ⟨slot_put_other (by decide), slot_put_other (by decide), slot_put_other (by decide), slot_put_other (by decide)⟩ (Below.refl _ _)))
      · intro listed a' w' hf hv hj hun hdep K' hK'
        have hsz : a'.tmps.size = 36 := hf.size
        obtain ⟨hq, hj⟩ := hj.open (by decide) hun
        have e6 := hv.get 1 rfl (hdep 1 (by kernel_rfl))
        have q : w'.cell? ⟨w.heap.size, 4, none⟩ = some (.int .i64 (x 4)) := cell_of_row _ _ _ _ _ _ (Below.row hj.b HB0.out)
        refine st_gen rfl ?_
        unfold Oper.wp execOp
        dsimp only
        rw [slot_eval, e6]
        go_simp
        exact hK' _ _ (hf.put (by decide)) (hv.setAt 2 rfl (tabN_n _ _ _ _ _ _ _) (by kernel_rfl) (by rw [hsz]; decide)) (NewK.on hq (by decide) (hj.quiet (by decide) ⟨slot_put_other (by decide), slot_put_other (by decide), slot_put_other (by decide), slot_put_other (by decide)⟩ (Below.refl _ _)))
      · intro listed a' w' hf hv hj hun hdep K' hK'
        have hsz : a'.tmps.size = 36 := hf.size
        obtain ⟨hq, hj⟩ := hj.open (by decide) hun
        have e1 : slotOf a' 1 = .pointer (some ⟨w.heap.size, 0, none⟩) := (hf.rest 1 (by decide)).trans rfl
        refine st_gen rfl ?_
        unfold Oper.wp execOp
        dsimp only
        rw [slot_eval, e1]
        go_simp
        exact hK' _ _ (hf.put (by decide)) (hv.setAt 3 rfl (tabN_n _ _ _ _ _ _ _) (by kernel_rfl) (by rw [hsz]; decide)) (NewK.on hq (by decide) (hj.quiet (by decide) ⟨slot_put_other (by decide), slot_put_other (by decide), slot_put_other (by decide), slot_put_other (by decide)⟩ (Below.refl _ _)))
      · intro listed a' w' hf hv hj hun hdep K' hK'
        have hsz : a'.tmps.size = 36 := hf.size
        obtain ⟨hq, hj⟩ := hj.open (by decide) hun
        have e8 := hv.get 3 rfl (hdep 3 (by kernel_rfl))
        have q : w'.cell? ⟨w.heap.size, 0, none⟩ = some (.int .i64 (n : Int)) := by rw [← HX0.out]; exact cell_of_row _ _ _ _ _ _ (Below.row hj.b HB0.out)
        refine st_gen rfl ?_
        unfold Oper.wp execOp
        dsimp only
        rw [slot_eval, e8]
        go_simp
        exact hK' _ _ (hf.put (by decide)) (hv.setAt 4 rfl (tabN_n _ _ _ _ _ _ _) (by kernel_rfl) (by rw [hsz]; decide)) (NewK.on hq (by decide) (hj.quiet (by decide) ⟨slot_put_other (by decide), slot_put_other (by decide), slot_put_other (by decide), slot_put_other (by decide)⟩ (Below.refl _ _)))
      · intro listed a' w' hf hv hj hun hdep K' hK'
        have hsz : a'.tmps.size = 36 := hf.size
        obtain ⟨hq, hj⟩ := hj.open (by decide) hun
        have e9 := hv.get 4 rfl (hdep 4 (by kernel_rfl))
        have e := HM1.out w'
        refine st_gen rfl ?_
        unfold Oper.wp execOp
        dsimp only
        rw [slot_eval, e9]
        simp only [Sem.run_bind, Sem.run_pure, e, Result.andThen_ok]
        have hba : Below w'.heap.size w' (w'.alloc (.cells (madeCells #[.slice none 0 0] n) 151)) := (Below.refl _ _).alloc (Nat.le_refl _) _
        refine hK' _ _ (hf.put (by decide)) (hv.other (by kernel_rfl)) (NewK.on hq (by decide) ⟨hj.b.trans (hba.mono hj.b.size), fun q => ?_, fun q => ?_, fun q => ?_, fun q => ?_⟩)
        · exact ⟨_, slot_put_same (by rw [hsz]; decide), hj.b.size, heap_alloc_new _ _⟩
        · rw [getD_set_other listed (by decide : (8 : Nat) ≠ 5)] at q; obtain ⟨g, e1, e2, e3⟩ := hj.m2 q; exact ⟨g, (slot_put_other (by decide)).trans e1, e2, Below.row hba e3⟩
        · rw [getD_set_other listed (by decide : (10 : Nat) ≠ 5)] at q; obtain ⟨g, e1, e2, e3⟩ := hj.al q; exact ⟨g, (slot_put_other (by decide)).trans e1, e2, Below.row hba e3⟩
        · rw [getD_set_other listed (by decide : (9 : Nat) ≠ 5)] at q
          have := (hj.bd q).2.1
          rw [hun] at this
          cases this
      · intro listed a' w' hf hv hj hun hdep K' hK'
        have hsz : a'.tmps.size = 36 := hf.size
        obtain ⟨hq, hj⟩ := hj.open (by decide) hun
        have e1 : slotOf a' 1 = .pointer (some ⟨w.heap.size, 0, none⟩) := (hf.rest 1 (by decide)).trans rfl
        refine st_gen rfl ?_
        unfold Oper.wp execOp
        dsimp only
        rw [slot_eval, e1]
        go_simp
        exact hK' _ _ (hf.put (by decide)) (hv.setAt 5 rfl (tabN_n _ _ _ _ _ _ _) (by kernel_rfl) (by rw [hsz]; decide)) (NewK.on hq (by decide) (hj.quiet (by decide) ⟨slot_put_other (by decide), slot_put_other (by decide), slot_put_other (by decide), slot_put_other (by decide)⟩ (Below.refl _ _)))
      · intro listed a' w' hf hv hj hun hdep K' hK'
        have hsz : a'.tmps.size = 36 := hf.size
        obtain ⟨hq, hj⟩ := hj.open (by decide) hun
        have e11 := hv.get 5 rfl (hdep 6 (by kernel_rfl))
        have q : w'.cell? ⟨w.heap.size, 0, none⟩ = some (.int .i64 (n : Int)) := by rw [← HX0.out]; exact cell_of_row _ _ _ _ _ _ (Below.row hj.b HB0.out)
        refine st_gen rfl ?_
        unfold Oper.wp execOp
        dsimp only
        rw [slot_eval, e11]
        go_simp
        exact hK' _ _ (hf.put (by decide)) (hv.setAt 6 rfl (tabN_n _ _ _ _ _ _ _) (by kernel_rfl) (by rw [hsz]; decide)) (NewK.on hq (by decide) (hj.quiet (by decide) ⟨slot_put_other (by decide), slot_put_other (by decide), slot_put_other (by decide), slot_put_other (by decide)⟩ (Below.refl _ _)))
      · intro listed a' w' hf hv hj hun hdep K' hK'
        have hsz : a'.tmps.size = 36 := hf.size
        obtain ⟨hq, hj⟩ := hj.open (by decide) hun
        have e12 := hv.get 6 rfl (hdep 7 (by kernel_rfl))
        have e := HM1.out w'
        refine st_gen rfl ?_
        unfold Oper.wp execOp
        dsimp only
        rw [slot_eval, e12]
        simp only [Sem.run_bind, Sem.run_pure, e, Result.andThen_ok]
        have hba : Below w'.heap.size w' (w'.alloc (.cells (madeCells #[.slice none 0 0] n) 151)) := (Below.refl _ _).alloc (Nat.le_refl _) _
        refine hK' _ _ (hf.put (by decide)) (hv.other (by kernel_rfl)) (NewK.on hq (by decide) ⟨hj.b.trans (hba.mono hj.b.size), fun q => ?_, fun q => ?_, fun q => ?_, fun q => ?_⟩)
        · rw [getD_set_other listed (by decide : (5 : Nat) ≠ 8)] at q; obtain ⟨g, e1, e2, e3⟩ := hj.m1 q; exact ⟨g, (slot_put_other (by decide)).trans e1, e2, Below.row hba e3⟩
        · exact ⟨_, slot_put_same (by rw [hsz]; decide), hj.b.size, heap_alloc_new _ _⟩
        · rw [getD_set_other listed (by decide : (10 : Nat) ≠ 8)] at q; obtain ⟨g, e1, e2, e3⟩ := hj.al q; exact ⟨g, (slot_put_other (by decide)).trans e1, e2, Below.row hba e3⟩
        · rw [getD_set_other listed (by decide : (9 : Nat) ≠ 8)] at q
          have := (hj.bd q).2.2
          rw [hun] at this
          cases this
      · intro listed a' w' hf hv hj hun hdep K' hK'
        have hsz : a'.tmps.size = 36 := hf.size
        obtain ⟨hq, hj⟩ := hj.open (by decide) hun
        have e5 := hv.get 0 rfl (hdep 0 (by kernel_rfl))
        have e7 := hv.get 2 rfl (hdep 2 (by kernel_rfl))
        obtain ⟨ga, ea, _, _⟩ := hj.m1 (hdep 5 (by kernel_rfl))
        obtain ⟨gb, eb, _, _⟩ := hj.m2 (hdep 8 (by kernel_rfl))
        refine st_gen rfl ?_
        unfold Oper.wp execOp
        dsimp only
        simp only [List.map_toArray, List.map_cons, List.map_nil, slot_eval, e5, e7, ea, eb]
        go_simp
        have hnj : NewJ x n W (listed.setIfInBounds 9 true) (a'.put (some 14) (.agg #[.int .i64 (x 0), .int .i64 (x 1), .int .i64 (x 2), .int .i64 (x 3), .int .i64 (x 4), .int .i64 (x 5), .int .i64 (x 6), .int .i64 (x 7), .int .i64 (x 8), .int .i64 (x 9), .int .i64 (x 10), .int .i64 (x 11), .int .i64 (x 12), .int .i64 0, .slice none 0 0, .int .i64 (x 4), .slice none 0 0, .slice (some ⟨ga, 0, none⟩) n n, .slice (some ⟨gb, 0, none⟩) n n])) w' := by
          refine ⟨hj.b, fun q => ?_, fun q => ?_, fun q => ?_, fun q => ?_⟩
          · rw [getD_set_other listed (by decide : (5 : Nat) ≠ 9)] at q; obtain ⟨g, e1, e2, e3⟩ := hj.m1 q; exact ⟨g, (slot_put_other (by decide)).trans e1, e2, e3⟩
          · rw [getD_set_other listed (by decide : (8 : Nat) ≠ 9)] at q; obtain ⟨g, e1, e2, e3⟩ := hj.m2 q; exact ⟨g, (slot_put_other (by decide)).trans e1, e2, e3⟩
          · rw [getD_set_other listed (by decide : (10 : Nat) ≠ 9)] at q; obtain ⟨g, e1, e2, e3⟩ := hj.al q; exact ⟨g, (slot_put_other (by decide)).trans e1, e2, e3⟩
          · refine ⟨(slot_put_same (by rw [hsz]; decide)).trans ?_, by rw [getD_set_other listed (by decide : (5 : Nat) ≠ 9), getD_set_other listed (by decide : (8 : Nat) ≠ 9)]; exact ⟨hdep 5 (by kernel_rfl), hdep 8 (by kernel_rfl)⟩⟩
            rw [slot_put_other (by decide : (10 : Nat) ≠ 14), slot_put_other (by decide : (13 : Nat) ≠ 14), ea, eb]
        exact hK' _ _ (hf.put (by decide)) (hv.other (by kernel_rfl)) (NewK.on hq (by decide) hnj)
      · intro listed a' w' hf hv hj hun hdep K' hK'
        have hsz : a'.tmps.size = 36 := hf.size
        obtain ⟨hq, hj⟩ := hj.open (by decide) hun
        refine st_gen rfl ?_
        unfold Oper.wp execOp
        dsimp only
        go_simp
        have hba : Below w'.heap.size w' (w'.alloc (.cells #[.int .i64 0, .int .i64 0, .int .i64 0, .int .i64 0, .int .i64 0, .int .i64 0, .int .i64 0, .int .i64 0, .int .i64 0, .int .i64 0, .int .i64 0, .int .i64 0, .int .i64 0, .int .i64 0, .slice none 0 0, .int .i64 0, .slice none 0 0, .slice none 0 0, .slice none 0 0] 33)) := (Below.refl _ _).alloc (Nat.le_refl _) _
        have hnj : NewJ x n W (listed.setIfInBounds 10 true) (a'.put (some 3) (.pointer (some ⟨w'.heap.size, 0, none⟩))) (w'.alloc (.cells #[.int .i64 0, .int .i64 0, .int .i64 0, .int .i64 0, .int .i64 0, .int .i64 0, .int .i64 0, .int .i64 0, .int .i64 0, .int .i64 0, .int .i64 0, .int .i64 0, .int .i64 0, .int .i64 0, .slice none 0 0, .int .i64 0, .slice none 0 0, .slice none 0 0, .slice none 0 0] 33)) := by
          refine ⟨hj.b.trans (hba.mono hj.b.size), fun q => ?_, fun q => ?_, fun q => ?_, fun q => ?_⟩
          · rw [getD_set_other listed (by decide : (5 : Nat) ≠ 10)] at q; obtain ⟨g, e1, e2, e3⟩ := hj.m1 q; exact ⟨g, (slot_put_other (by decide)).trans e1, e2, Below.row hba e3⟩
          · rw [getD_set_other listed (by decide : (8 : Nat) ≠ 10)] at q; obtain ⟨g, e1, e2, e3⟩ := hj.m2 q; exact ⟨g, (slot_put_other (by decide)).trans e1, e2, Below.row hba e3⟩
          · exact ⟨_, slot_put_same (by rw [hsz]; decide), hj.b.size, heap_alloc_new _ _⟩
          · rw [getD_set_other listed (by decide : (9 : Nat) ≠ 10)] at q
            have h := hj.bd q
            rw [getD_set_other listed (by decide : (5 : Nat) ≠ 10), getD_set_other listed (by decide : (8 : Nat) ≠ 10), slot_put_other (by decide : (10 : Nat) ≠ 3), slot_put_other (by decide : (13 : Nat) ≠ 3), slot_put_other (by decide : (14 : Nat) ≠ 3)]
            exact h
        exact hK' _ _ (hf.put (by decide)) (hv.other (by kernel_rfl)) (NewK.on hq (by decide) hnj)
      · intro listed a' w' hf hv hj hun hdep K' hK'
        have hsz : a'.tmps.size = 36 := hf.size
        have hj := hj.1 hun
        obtain ⟨ga, ea, la, ba⟩ := hj.m1 (hdep 5 (by kernel_rfl))
        obtain ⟨gb, eb, lb, bb⟩ := hj.m2 (hdep 8 (by kernel_rfl))
        obtain ⟨g, eg, lg, bg⟩ := hj.al (hdep 10 (by kernel_rfl))
        have e14 := (hj.bd (hdep 9 (by kernel_rfl))).1
        rw [ea, eb] at e14
        have nga : ga ≠ g := by intro e; rw [e, bg] at ba; have h := Option.some.inj ba; injection h with h1 h2; exact absurd h2 (by decide)
        have ngb : gb ≠ g := by intro e; rw [e, bg] at bb; have h := Option.some.inj bb; injection h with h1 h2; exact absurd h2 (by decide)
        refine st_store_row rfl g #[.int .i64 (x 0), .int .i64 (x 1), .int .i64 (x 2), .int .i64 (x 3), .int .i64 (x 4), .int .i64 (x 5), .int .i64 (x 6), .int .i64 (x 7), .int .i64 (x 8), .int .i64 (x 9), .int .i64 (x 10), .int .i64 (x 11), .int .i64 (x 12), .int .i64 0, .slice none 0 0, .int .i64 (x 4), .slice none 0 0, .slice (some ⟨ga, 0, none⟩) n n, .slice (some ⟨gb, 0, none⟩) n n] eg e14 33 #[.int .i64 0, .int .i64 0, .int .i64 0, .int .i64 0, .int .i64 0, .int .i64 0, .int .i64 0, .int .i64 0, .int .i64 0, .int .i64 0, .int .i64 0, .int .i64 0, .int .i64 0, .int .i64 0, .slice none 0 0, .int .i64 0, .slice none 0 0, .slice none 0 0, .slice none 0 0] bg (by kernel_rfl) rfl (by simp [show ∀ k n, (Value.int k n).oneCell' = true from fun _ _ => rfl, show ∀ a n c, (Value.slice a n c).oneCell' = true from fun _ _ _ => rfl]) (hK' _ _ hf (hv.skip (by kernel_rfl)) ⟨fun q => (by rw [getD_set_true] at q; cases q), fun _ => ⟨fun j hj => ?_, g, ga, gb, eg, lg, la, lb, setRow_heap _ _ _ _ _ _ bg, (setRow_other _ _ _ _ nga).trans ba, (setRow_other _ _ _ _ ngb).trans bb, below_setRow hj.b lg _⟩⟩)
        rw [getD_set_other listed (by omega)]
        match j, hj with
        | 0, _ => exact hdep 0 (by kernel_rfl)
        | 1, _ => exact hdep 1 (by kernel_rfl)
        | 2, _ => exact hdep 2 (by kernel_rfl)
        | 3, _ => exact hdep 3 (by kernel_rfl)
        | 4, _ => exact hdep 4 (by kernel_rfl)
        | 5, _ => exact hdep 5 (by kernel_rfl)
        | 6, _ => exact hdep 6 (by kernel_rfl)
        | 7, _ => exact hdep 7 (by kernel_rfl)
        | 8, _ => exact hdep 8 (by kernel_rfl)
        | 9, _ => exact hdep 9 (by kernel_rfl)
        | 10, _ => exact hdep 10 (by kernel_rfl)
    · intro listed a' w' hf hv hj hall
      obtain ⟨_, g, ga, gb, eg, lg, la, lb, bg, ba, bb, hbw⟩ := hj.2 (hall 11 (by decide))
      refine hK1 _ _ (Met.intro (hJ1 _ _ ⟨slotOf a' 3, slotOf a' 5, slotOf a' 6, slotOf a' 7, slotOf a' 8, slotOf a' 9, slotOf a' 10, slotOf a' 11, slotOf a' 12, slotOf a' 13, slotOf a' 14, ⟨g, ga, gb, eg, lg, la, lb, bg, ba, bb, hbw⟩, ?lit⟩))
      refine hf.lit.trans ?_
      kernel_rfl
  case rest =>
    obtain ⟨g, ga, gb, rfl, lg, la, lb, bg, ba, bb, hbw⟩ := hcut
    have hinI : (Tryz.prog.info? 3).map (fun i => (i.zero, i.size, i.bytes)) = some (some (.int .i64 0), 1, 8) := by kernel_rfl
    have hunI : Tryz.prog.underlying 25 = some (.slice 3) := by kernel_rfl
    obtain ⟨iI, hI0, hI1, hI2, hI3⟩ := info_parts hinI
    have hinN : (Tryz.prog.info? 122).map (fun i => (i.zero, i.size, i.bytes)) = some (some (.agg #[.int .i64 0, .int .i64 0, .int .i64 0, .int .i64 0, .int .i64 0, .int .i64 0, .int .i64 0]), 7, 56) := by kernel_rfl
    have hunN : Tryz.prog.underlying 30 = some (.slice 122) := by kernel_rfl
    obtain ⟨iN, hN0, hN1, hN2, hN3⟩ := info_parts hinN
    have HR0 := Go.Lib.hid (Below.row hbw HB0.out); have HR1 := Go.Lib.hid (Below.row hbw HB1.out); have HRG := Go.Lib.hid bg; have HRA := Go.Lib.hid ba; have HRB := Go.Lib.hid bb
    have HRW := Go.Lib.hid (HB.out.trans (hbw.mono HB.out.size))
    clear bg ba bb hbw HB HB0 HB1 HM1
    go_wp2
    go_loopw [4] (fun v4 wr => ∃ (k : Nat) (vf vn : Value), v4 = .int .i64 (k : Int) ∧ k ≤ c.nodes ∧ wr.heap[g]? = some (.cells #[.int .i64 (x 0), .int .i64 (x 1), .int .i64 (x 2), .int .i64 (x 3), .int .i64 (x 4), .int .i64 (x 5), .int .i64 (x 6), .int .i64 (x 7), .int .i64 (x 8), .int .i64 (x 9), .int .i64 (x 10), .int .i64 (x 11), .int .i64 (x 12), .int .i64 0, vf, .int .i64 (x 4), vn, .slice (some ⟨ga, 0, none⟩) n n, .slice (some ⟨gb, 0, none⟩) n n] 33) ∧ wr.heap[ga]? = some (.cells (madeCells #[.slice none 0 0] n) 151) ∧ wr.heap[gb]? = some (.cells (madeCells #[.slice none 0 0] n) 151) ∧ wr.heap[w.heap.size]? = some (.cells #[.int .i64 (x 0), .int .i64 (x 1), .int .i64 (x 2), .int .i64 (x 3), .int .i64 (x 4), .int .i64 (x 5), .int .i64 (x 6), .int .i64 (x 7), .int .i64 (x 8), .int .i64 (x 9), .int .i64 (x 10), .int .i64 (x 11), .int .i64 (x 12)] 23) ∧ wr.heap[w.heap.size + 1]? = some (.cells #[.int .i64 0, .int .i64 0, .int .i64 0, .int .i64 0, .int .i64 0, .int .i64 0, .int .i64 0, .int .i64 0, .int .i64 0, .int .i64 0, .int .i64 0, .int .i64 0, .int .i64 0, .int .i64 0, .slice none 0 0, .int .i64 0, .slice none 0 0, .slice none 0 0, .slice none 0 0] 33) ∧ wr.ownsRow w.heap.size 3 1 vf k (FX k) ∧ wr.ownsRow w.heap.size 122 7 vn k (NX ⟨c.first, 0, 0, 0, 0, 0, 0⟩ k) ∧ Below w.heap.size w wr) (fun v4 _ => c.nodes - (intOf v4).toNat)
    case atStart => exact ⟨0, .slice none 0 0, .slice none 0 0, rfl, Nat.zero_le _, HRG.out, HRA.out, HRB.out, HR0.out, HR1.out, World.ownsRow_nil _ _ _ _, World.ownsRow_nil _ _ _ _, HRW.out⟩
    case round =>
      obtain ⟨k, vf, vn, rfl, hk, r0, r1, r2, r3, r4, o1, o2, hbr⟩ := hrel
      have R0 := Go.Lib.hid r0; have R1 := Go.Lib.hid r1; have R2 := Go.Lib.hid r2; have R3 := Go.Lib.hid r3; have R4 := Go.Lib.hid r4; have O1 := Go.Lib.hid o1; have O2 := Go.Lib.hid o2; have RB := Go.Lib.hid hbr
      clear r0 r1 r2 r3 r4 o1 o2 hbr HRG HRA HRB HR0 HR1 HRW
      have c3 : wr.cell? ⟨w.heap.size, 3, none⟩ = some (.int .i64 (c.nodes : Int)) := by rw [← HX3.out]; exact cell_of_row _ _ _ _ _ _ R3.out
      by_cases hlt : k < c.nodes
      · have hd : decide ((k : Int) < (c.nodes : Int)) = true := by simp; omega
        have hna : ga ≠ g := by intro e; have h1 := R1.out; rw [e, R0.out] at h1; have h := Option.some.inj h1; injection h with _ h2; exact absurd h2 (by decide)
        have hnb : gb ≠ g := by intro e; have h1 := R2.out; rw [e, R0.out] at h1; have h := Option.some.inj h1; injection h with _ h2; exact absurd h2 (by decide)
        have c14 : wr.cell? ⟨g, 14, none⟩ = some vf := cell_of_row _ _ _ _ _ _ R0.out
        go_upto_region 6 with (first
          | (at_builtin; (refine wpList_append_own _ rfl _ _ 25 rfl w.heap.size 3 iI _ 1 8 hunI hI0 hI1 hI2 hI3 rfl (by decide) vf k (FX k) rfl (O1.out.alloc _) ⟨wr.heap.size, 0, none⟩ 1 1 [.int .i64 (k : Int)] rfl rfl (World.news_of_block (cs := #[.int .i64 (k : Int)]) (t := 3) (fr := (0, 0)) (heap_alloc_new _ _)) (by simp [show ∀ k n, (Value.int k n).oneCell' = true from fun _ _ => rfl]) (by unfold maxLen; omega) (by omega) (by have := RB.out.size; rw [World.size_alloc]; omega) ?_; intro v1 w1 hown hgrow hnil; replace hgrow : World.grownBy (wr.alloc (.cells #[.int .i64 (k : Int)] 3)) w1 (vf).ownBlock := hgrow; have P0 := grown_row hgrow (Below.row ((Below.refl wr.heap.size wr).alloc (Nat.le_refl _) (.cells #[.int .i64 (k : Int)] 3)) R0.out) (own_type (O1.out.alloc _) (Below.row ((Below.refl wr.heap.size wr).alloc (Nat.le_refl _) (.cells #[.int .i64 (k : Int)] 3)) R0.out) (by decide)); have P1 := grown_row hgrow (Below.row ((Below.refl wr.heap.size wr).alloc (Nat.le_refl _) (.cells #[.int .i64 (k : Int)] 3)) R1.out) (own_type (O1.out.alloc _) (Below.row ((Below.refl wr.heap.size wr).alloc (Nat.le_refl _) (.cells #[.int .i64 (k : Int)] 3)) R1.out) (by decide)); have P2 := grown_row hgrow (Below.row ((Below.refl wr.heap.size wr).alloc (Nat.le_refl _) (.cells #[.int .i64 (k : Int)] 3)) R2.out) (own_type (O1.out.alloc _) (Below.row ((Below.refl wr.heap.size wr).alloc (Nat.le_refl _) (.cells #[.int .i64 (k : Int)] 3)) R2.out) (by decide)); have P3 := grown_row hgrow (Below.row ((Below.refl wr.heap.size wr).alloc (Nat.le_refl _) (.cells #[.int .i64 (k : Int)] 3)) R3.out) (own_type (O1.out.alloc _) (Below.row ((Below.refl wr.heap.size wr).alloc (Nat.le_refl _) (.cells #[.int .i64 (k : Int)] 3)) R3.out) (by decide)); have P4 := grown_row hgrow (Below.row ((Below.refl wr.heap.size wr).alloc (Nat.le_refl _) (.cells #[.int .i64 (k : Int)] 3)) R4.out) (own_type (O1.out.alloc _) (Below.row ((Below.refl wr.heap.size wr).alloc (Nat.le_refl _) (.cells #[.int .i64 (k : Int)] 3)) R4.out) (by decide)); have PO := World.ownsRow.kept (O2.out.alloc (.cells #[.int .i64 (k : Int)] 3)) hgrow (own_apart O2.out O1.out (by decide)); have hbq : Below w.heap.size w w1 := (RB.out.alloc RB.out.size _).grown hgrow (by have := RB.out.size; rw [World.size_alloc]; omega) (fun b hb => ((O1.out.alloc (.cells #[.int .i64 (k : Int)] 3)).lt b hb).1); obtain ⟨g1, c1, cur, rfl, hg1, hcur, _, _, _⟩ := own_pos hown (by omega); have ngs := own_type hown P0 (by decide); have eS := cell_of_row w1 g 14 _ _ _ P0; replace eS : w1.cell? ⟨g, 14, none⟩ = some (vf) := eS; have fS : w1.frozen? ⟨g, 14, none⟩ = false := frozen_of_row _ _ _ _ _ P0))
          | fail)
        clear c3 c14
        have Q0 := heap_set_same (j := 14) (v := .slice (some ⟨g1, 0, none⟩) (k + 1) c1) P0
        have Q1 := (Go.Deep.blk_setCell_other w1 ⟨g, 14, none⟩ (.slice (some ⟨g1, 0, none⟩) (k + 1) c1) (ga) (by show ga ≠ g; omega)).trans P1
        have Q2 := (Go.Deep.blk_setCell_other w1 ⟨g, 14, none⟩ (.slice (some ⟨g1, 0, none⟩) (k + 1) c1) (gb) (by show gb ≠ g; omega)).trans P2
        have Q3 := (Go.Deep.blk_setCell_other w1 ⟨g, 14, none⟩ (.slice (some ⟨g1, 0, none⟩) (k + 1) c1) (w.heap.size) (by show w.heap.size ≠ g; omega)).trans P3
        have Q4 := (Go.Deep.blk_setCell_other w1 ⟨g, 14, none⟩ (.slice (some ⟨g1, 0, none⟩) (k + 1) c1) (w.heap.size + 1) (by show w.heap.size + 1 ≠ g; omega)).trans P4
        have T1 := own_set (u := .slice (some ⟨g1, 0, none⟩) (k + 1) c1) (a := ⟨g, 14, none⟩) hown ngs
        have T2 := own_set (u := .slice (some ⟨g1, 0, none⟩) (k + 1) c1) (a := ⟨g, 14, none⟩) PO (own_type PO P0 (by decide))
        have TB := hbq.setCell (p := ⟨g, 14, none⟩) (by show w.heap.size ≤ g; omega) (.slice (some ⟨g1, 0, none⟩) (k + 1) c1)
        clear P0 P1 P2 P3 P4 PO hown hgrow hnil hbq hcur hg1 eS fS ngs R0 R1 R2 R3 R4 O1 O2 RB
        generalize (w1.setCell ⟨g, 14, none⟩ (.slice (some ⟨g1, 0, none⟩) (k + 1) c1)) = W1 at *
        have R1 := Go.Lib.hid Q1
        have R2 := Go.Lib.hid Q2
        have R3 := Go.Lib.hid Q3
        have R4 := Go.Lib.hid Q4
        have O1 := Go.Lib.hid T1
        have O2 := Go.Lib.hid T2
        have RB := Go.Lib.hid TB
        have R0 : Hid (W1.heap[g]? = some (.cells #[.int .i64 (x 0), .int .i64 (x 1), .int .i64 (x 2), .int .i64 (x 3), .int .i64 (x 4), .int .i64 (x 5), .int .i64 (x 6), .int .i64 (x 7), .int .i64 (x 8), .int .i64 (x 9), .int .i64 (x 10), .int .i64 (x 11), .int .i64 (x 12), .int .i64 0, .slice (some ⟨g1, 0, none⟩) (k + 1) c1, .int .i64 (x 4), vn, .slice (some ⟨ga, 0, none⟩) n n, .slice (some ⟨gb, 0, none⟩) n n] 33)) := Go.Lib.hid Q0
        clear Q0 Q1 Q2 Q3 Q4 T1 T2 TB
        have c16 : W1.cell? ⟨g, 16, none⟩ = some vn := cell_of_row _ _ _ _ _ _ R0.out
        have c6 : W1.cell? ⟨w.heap.size, 6, none⟩ = some (.int .i64 (x 6)) := cell_of_row _ _ _ _ _ _ R3.out
        go_upto_region 4 with (first
          | (at_builtin; (refine wpList_append_own _ rfl _ _ 30 rfl w.heap.size 122 iN _ 7 56 hunN hN0 hN1 hN2 hN3 rfl (by decide) vn k (NX ⟨c.first, 0, 0, 0, 0, 0, 0⟩ k) rfl (O2.out.alloc _) ⟨W1.heap.size, 0, none⟩ 1 1 [.int .i64 (x 6), .int .i64 0, .int .i64 0, .int .i64 0, .int .i64 0, .int .i64 0, .int .i64 0] rfl rfl (World.news_of_block (cs := #[.int .i64 (x 6), .int .i64 0, .int .i64 0, .int .i64 0, .int .i64 0, .int .i64 0, .int .i64 0]) (t := 122) (fr := (0, 0)) (heap_alloc_new _ _)) (by simp [show ∀ k n, (Value.int k n).oneCell' = true from fun _ _ => rfl]) (by unfold maxLen; omega) (by omega) (by have := RB.out.size; rw [World.size_alloc]; omega) ?_; intro v2 w2 hown hgrow hnil; replace hgrow : World.grownBy (W1.alloc (.cells #[.int .i64 (x 6), .int .i64 0, .int .i64 0, .int .i64 0, .int .i64 0, .int .i64 0, .int .i64 0] 122)) w2 (vn).ownBlock := hgrow; have P0 := grown_row hgrow (Below.row ((Below.refl W1.heap.size W1).alloc (Nat.le_refl _) (.cells #[.int .i64 (x 6), .int .i64 0, .int .i64 0, .int .i64 0, .int .i64 0, .int .i64 0, .int .i64 0] 122)) R0.out) (own_type (O2.out.alloc _) (Below.row ((Below.refl W1.heap.size W1).alloc (Nat.le_refl _) (.cells #[.int .i64 (x 6), .int .i64 0, .int .i64 0, .int .i64 0, .int .i64 0, .int .i64 0, .int .i64 0] 122)) R0.out) (by decide)); have P1 := grown_row hgrow (Below.row ((Below.refl W1.heap.size W1).alloc (Nat.le_refl _) (.cells #[.int .i64 (x 6), .int .i64 0, .int .i64 0, .int .i64 0, .int .i64 0, .int .i64 0, .int .i64 0] 122)) R1.out) (own_type (O2.out.alloc _) (Below.row ((Below.refl W1.heap.size W1).alloc (Nat.le_refl _) (.cells #[.int .i64 (x 6), .int .i64 0, .int .i64 0, .int .i64 0, .int .i64 0, .int .i64 0, .int .i64 0] 122)) R1.out) (by decide)); have P2 := grown_row hgrow (Below.row ((Below.refl W1.heap.size W1).alloc (Nat.le_refl _) (.cells #[.int .i64 (x 6), .int .i64 0, .int .i64 0, .int .i64 0, .int .i64 0, .int .i64 0, .int .i64 0] 122)) R2.out) (own_type (O2.out.alloc _) (Below.row ((Below.refl W1.heap.size W1).alloc (Nat.le_refl _) (.cells #[.int .i64 (x 6), .int .i64 0, .int .i64 0, .int .i64 0, .int .i64 0, .int .i64 0, .int .i64 0] 122)) R2.out) (by decide)); have P3 := grown_row hgrow (Below.row ((Below.refl W1.heap.size W1).alloc (Nat.le_refl _) (.cells #[.int .i64 (x 6), .int .i64 0, .int .i64 0, .int .i64 0, .int .i64 0, .int .i64 0, .int .i64 0] 122)) R3.out) (own_type (O2.out.alloc _) (Below.row ((Below.refl W1.heap.size W1).alloc (Nat.le_refl _) (.cells #[.int .i64 (x 6), .int .i64 0, .int .i64 0, .int .i64 0, .int .i64 0, .int .i64 0, .int .i64 0] 122)) R3.out) (by decide)); have P4 := grown_row hgrow (Below.row ((Below.refl W1.heap.size W1).alloc (Nat.le_refl _) (.cells #[.int .i64 (x 6), .int .i64 0, .int .i64 0, .int .i64 0, .int .i64 0, .int .i64 0, .int .i64 0] 122)) R4.out) (own_type (O2.out.alloc _) (Below.row ((Below.refl W1.heap.size W1).alloc (Nat.le_refl _) (.cells #[.int .i64 (x 6), .int .i64 0, .int .i64 0, .int .i64 0, .int .i64 0, .int .i64 0, .int .i64 0] 122)) R4.out) (by decide)); have PO := World.ownsRow.kept (O1.out.alloc (.cells #[.int .i64 (x 6), .int .i64 0, .int .i64 0, .int .i64 0, .int .i64 0, .int .i64 0, .int .i64 0] 122)) hgrow (own_apart O1.out O2.out (by decide)); have hbq : Below w.heap.size w w2 := (RB.out.alloc RB.out.size _).grown hgrow (by have := RB.out.size; rw [World.size_alloc]; omega) (fun b hb => ((O2.out.alloc (.cells #[.int .i64 (x 6), .int .i64 0, .int .i64 0, .int .i64 0, .int .i64 0, .int .i64 0, .int .i64 0] 122)).lt b hb).1); obtain ⟨g2, c2, cur, rfl, hg1, hcur, _, _, _⟩ := own_pos hown (by omega); have ngs := own_type hown P0 (by decide); have eS := cell_of_row w2 g 16 _ _ _ P0; replace eS : w2.cell? ⟨g, 16, none⟩ = some (vn) := eS; have fS : w2.frozen? ⟨g, 16, none⟩ = false := frozen_of_row _ _ _ _ _ P0))
          | fail)
        clear c16 c6
        have Q0 := heap_set_same (j := 16) (v := .slice (some ⟨g2, 0, none⟩) (k + 1) c2) P0
        have Q1 := (Go.Deep.blk_setCell_other w2 ⟨g, 16, none⟩ (.slice (some ⟨g2, 0, none⟩) (k + 1) c2) (ga) (by show ga ≠ g; omega)).trans P1
        have Q2 := (Go.Deep.blk_setCell_other w2 ⟨g, 16, none⟩ (.slice (some ⟨g2, 0, none⟩) (k + 1) c2) (gb) (by show gb ≠ g; omega)).trans P2
        have Q3 := (Go.Deep.blk_setCell_other w2 ⟨g, 16, none⟩ (.slice (some ⟨g2, 0, none⟩) (k + 1) c2) (w.heap.size) (by show w.heap.size ≠ g; omega)).trans P3
        have Q4 := (Go.Deep.blk_setCell_other w2 ⟨g, 16, none⟩ (.slice (some ⟨g2, 0, none⟩) (k + 1) c2) (w.heap.size + 1) (by show w.heap.size + 1 ≠ g; omega)).trans P4
        have T2 := own_set (u := .slice (some ⟨g2, 0, none⟩) (k + 1) c2) (a := ⟨g, 16, none⟩) hown ngs
        have T1 := own_set (u := .slice (some ⟨g2, 0, none⟩) (k + 1) c2) (a := ⟨g, 16, none⟩) PO (own_type PO P0 (by decide))
        have TB := hbq.setCell (p := ⟨g, 16, none⟩) (by show w.heap.size ≤ g; omega) (.slice (some ⟨g2, 0, none⟩) (k + 1) c2)
        clear P0 P1 P2 P3 P4 PO hown hgrow hnil hbq hcur hg1 eS fS ngs R0 R1 R2 R3 R4 O1 O2 RB
        generalize (w2.setCell ⟨g, 16, none⟩ (.slice (some ⟨g2, 0, none⟩) (k + 1) c2)) = W2 at *
        have R1 := Go.Lib.hid Q1
        have R2 := Go.Lib.hid Q2
        have R3 := Go.Lib.hid Q3
        have R4 := Go.Lib.hid Q4
        have O1 := Go.Lib.hid T1
        have O2 := Go.Lib.hid T2
        have RB := Go.Lib.hid TB
        have R0 : Hid (W2.heap[g]? = some (.cells #[.int .i64 (x 0), .int .i64 (x 1), .int .i64 (x 2), .int .i64 (x 3), .int .i64 (x 4), .int .i64 (x 5), .int .i64 (x 6), .int .i64 (x 7), .int .i64 (x 8), .int .i64 (x 9), .int .i64 (x 10), .int .i64 (x 11), .int .i64 (x 12), .int .i64 0, .slice (some ⟨g1, 0, none⟩) (k + 1) c1, .int .i64 (x 4), .slice (some ⟨g2, 0, none⟩) (k + 1) c2, .slice (some ⟨ga, 0, none⟩) n n, .slice (some ⟨gb, 0, none⟩) n n] 33)) := Go.Lib.hid Q0
        clear Q0 Q1 Q2 Q3 Q4 T1 T2 TB
        go_wp2
        have e1 : (k : Int) + 1 = ((k + 1 : Nat) : Int) := by omega
        refine ⟨⟨k + 1, .slice (some ⟨g1, 0, none⟩) (k + 1) c1, .slice (some ⟨g2, 0, none⟩) (k + 1) c2, by rw [e1], hlt, R0.out, R1.out, R2.out, R3.out, R4.out, by rw [FX_succ]; exact O1.out, ?_, RB.out⟩, ?_⟩
        · rw [NX_succ]
          have h := O2.out
          rw [HX6.out] at h
          exact h
        · show c.nodes - ((k : Int) + 1).toNat < c.nodes - (k : Int).toNat
          omega
      · have hd : decide ((k : Int) < (c.nodes : Int)) = false := by simp; omega
        obtain rfl : k = c.nodes := by omega
        have hgs := heap_lt R0.out
        go_wp2_with (first
          | (refine wpList_load_row (o := ⟨some 35, .load 33 _, _, _, _, _⟩) rfl 33 (.tmp 3) rfl g rfl 33 #[.int .i64 (x 0), .int .i64 (x 1), .int .i64 (x 2), .int .i64 (x 3), .int .i64 (x 4), .int .i64 (x 5), .int .i64 (x 6), .int .i64 (x 7), .int .i64 (x 8), .int .i64 (x 9), .int .i64 (x 10), .int .i64 (x 11), .int .i64 (x 12), .int .i64 0, vf, .int .i64 (x 4), vn, .slice (some ⟨ga, 0, none⟩) n n, .slice (some ⟨gb, 0, none⟩) n n] (0, 0) _ R0.out Tryz.underlying33 rfl (by kernel_rfl) ?_)
          | (refine wpList_store_rowTo (o := ⟨none, .store 33 _ _, _, _, _, _⟩) rfl 33 (.tmp 2) (.tmp 35) rfl rfl (w.heap.size + 1) #[.int .i64 (x 0), .int .i64 (x 1), .int .i64 (x 2), .int .i64 (x 3), .int .i64 (x 4), .int .i64 (x 5), .int .i64 (x 6), .int .i64 (x 7), .int .i64 (x 8), .int .i64 (x 9), .int .i64 (x 10), .int .i64 (x 11), .int .i64 (x 12), .int .i64 0, vf, .int .i64 (x 4), vn, .slice (some ⟨ga, 0, none⟩) n n, .slice (some ⟨gb, 0, none⟩) n n] rfl rfl 33 #[.int .i64 0, .int .i64 0, .int .i64 0, .int .i64 0, .int .i64 0, .int .i64 0, .int .i64 0, .int .i64 0, .int .i64 0, .int .i64 0, .int .i64 0, .int .i64 0, .int .i64 0, .int .i64 0, .slice none 0 0, .int .i64 0, .slice none 0 0, .slice none 0 0, .slice none 0 0] R4.out (by kernel_rfl) rfl (by have hvf := own_one O1.out; have hvn := own_one O2.out; simp [show ∀ k n, (Value.int k n).oneCell' = true from fun _ _ => rfl, show ∀ a n c, (Value.slice a n c).oneCell' = true from fun _ _ _ => rfl, hvf, hvn]) ?_; refine Hid.out ?_))
        have B7 := setRow_heap wr (w.heap.size + 1) #[.int .i64 0, .int .i64 0, .int .i64 0, .int .i64 0, .int .i64 0, .int .i64 0, .int .i64 0, .int .i64 0, .int .i64 0, .int .i64 0, .int .i64 0, .int .i64 0, .int .i64 0, .int .i64 0, .slice none 0 0, .int .i64 0, .slice none 0 0, .slice none 0 0, .slice none 0 0] #[.int .i64 (x 0), .int .i64 (x 1), .int .i64 (x 2), .int .i64 (x 3), .int .i64 (x 4), .int .i64 (x 5), .int .i64 (x 6), .int .i64 (x 7), .int .i64 (x 8), .int .i64 (x 9), .int .i64 (x 10), .int .i64 (x 11), .int .i64 (x 12), .int .i64 0, vf, .int .i64 (x 4), vn, .slice (some ⟨ga, 0, none⟩) n n, .slice (some ⟨gb, 0, none⟩) n n] 33 (0, 0) R4.out
        have HF7 : Hid (KFree (fun b => w.heap.size ≤ b) (wr.setRow (w.heap.size + 1) #[.int .i64 (x 0), .int .i64 (x 1), .int .i64 (x 2), .int .i64 (x 3), .int .i64 (x 4), .int .i64 (x 5), .int .i64 (x 6), .int .i64 (x 7), .int .i64 (x 8), .int .i64 (x 9), .int .i64 (x 10), .int .i64 (x 11), .int .i64 (x 12), .int .i64 0, vf, .int .i64 (x 4), vn, .slice (some ⟨ga, 0, none⟩) n n, .slice (some ⟨gb, 0, none⟩) n n]) vf (List.range' 0 c.nodes)) := Go.Lib.hid (by
          have h : wr.ownsRow w.heap.size 3 1 vf ((List.range' 0 c.nodes).map fun (i : Nat) => [Value.int .i64 (i : Int)]).length ((List.range' 0 c.nodes).map fun (i : Nat) => [Value.int .i64 (i : Int)]).flatten := by
            have e : ((List.range' 0 c.nodes).map fun (i : Nat) => [Value.int .i64 (i : Int)]).flatten = FX c.nodes := by unfold FX; rw [← flat_ones ((List.range' 0 c.nodes).map fun (i : Nat) => Value.int .i64 (i : Int)), List.map_map]; rfl
            rw [e, List.length_map, List.length_range']
            exact O1.out
          have h2 := KRows.own2 h (fun r hr => by obtain ⟨n, _, rfl⟩ := List.mem_map.1 hr; rfl)
          exact (h2.keep fun b hb => setRow_other _ _ _ _ (fun e => by have := own_type O1.out R4.out (by decide); rw [← e] at this; exact this hb.2)).mono fun b hb => hb.1)
        have HN7 : Hid (KNodes (fun b => w.heap.size ≤ b) (wr.setRow (w.heap.size + 1) #[.int .i64 (x 0), .int .i64 (x 1), .int .i64 (x 2), .int .i64 (x 3), .int .i64 (x 4), .int .i64 (x 5), .int .i64 (x 6), .int .i64 (x 7), .int .i64 (x 8), .int .i64 (x 9), .int .i64 (x 10), .int .i64 (x 11), .int .i64 (x 12), .int .i64 0, vf, .int .i64 (x 4), vn, .slice (some ⟨ga, 0, none⟩) n n, .slice (some ⟨gb, 0, none⟩) n n]) vn (List.replicate c.nodes ⟨c.first, 0, 0, 0, 0, 0, 0⟩)) := Go.Lib.hid (by
          have h : wr.ownsRow w.heap.size 122 7 vn ((List.replicate c.nodes (⟨c.first, 0, 0, 0, 0, 0, 0⟩ : NodeR)).map NodeR.cells).length ((List.replicate c.nodes (⟨c.first, 0, 0, 0, 0, 0, 0⟩ : NodeR)).map NodeR.cells).flatten := by
            rw [List.map_replicate, List.length_replicate]
            exact O2.out
          have h2 := KRows.own2 h (fun r hr => by obtain ⟨n, _, rfl⟩ := List.mem_map.1 hr; rfl)
          exact (h2.keep fun b hb => setRow_other _ _ _ _ (fun e => by have := own_type O2.out R4.out (by decide); rw [← e] at this; exact this hb.2)).mono fun b hb => hb.1)
        have hna : ga ≠ w.heap.size + 1 := by omega
        have HX7 : Hid (KBoxes (fun b => w.heap.size ≤ b) (wr.setRow (w.heap.size + 1) #[.int .i64 (x 0), .int .i64 (x 1), .int .i64 (x 2), .int .i64 (x 3), .int .i64 (x 4), .int .i64 (x 5), .int .i64 (x 6), .int .i64 (x 7), .int .i64 (x 8), .int .i64 (x 9), .int .i64 (x 10), .int .i64 (x 11), .int .i64 (x 12), .int .i64 0, vf, .int .i64 (x 4), vn, .slice (some ⟨ga, 0, none⟩) n n, .slice (some ⟨gb, 0, none⟩) n n]) (.slice (some ⟨ga, 0, none⟩) n n) (List.replicate c.workers []) (List.replicate n (.slice none 0 0))) := Go.Lib.hid (by
          rw [← HNW.out]
          exact made_boxes ((setRow_other _ _ _ _ hna).trans R1.out) (by omega) (by unfold maxLen; omega))
        have HB7 := Go.Lib.hid (below_setRow RB.out (show w.heap.size ≤ w.heap.size + 1 by omega) #[.int .i64 (x 0), .int .i64 (x 1), .int .i64 (x 2), .int .i64 (x 3), .int .i64 (x 4), .int .i64 (x 5), .int .i64 (x 6), .int .i64 (x 7), .int .i64 (x 8), .int .i64 (x 9), .int .i64 (x 10), .int .i64 (x 11), .int .i64 (x 12), .int .i64 0, vf, .int .i64 (x 4), vn, .slice (some ⟨ga, 0, none⟩) n n, .slice (some ⟨gb, 0, none⟩) n n])
        unfold Hid
        clear R0 R1 R2 R3 R4 O1 O2 RB
        generalize wr.setRow (w.heap.size + 1) #[.int .i64 (x 0), .int .i64 (x 1), .int .i64 (x 2), .int .i64 (x 3), .int .i64 (x 4), .int .i64 (x 5), .int .i64 (x 6), .int .i64 (x 7), .int .i64 (x 8), .int .i64 (x 9), .int .i64 (x 10), .int .i64 (x 11), .int .i64 (x 12), .int .i64 0, vf, .int .i64 (x 4), vn, .slice (some ⟨ga, 0, none⟩) n n, .slice (some ⟨gb, 0, none⟩) n n] = W6 at *
        go_wp2_with fail
        refine bodyPost_ret (results_cell_row rfl _ _ (w.heap.size + 1) 33 #[.int .i64 (x 0), .int .i64 (x 1), .int .i64 (x 2), .int .i64 (x 3), .int .i64 (x 4), .int .i64 (x 5), .int .i64 (x 6), .int .i64 (x 7), .int .i64 (x 8), .int .i64 (x 9), .int .i64 (x 10), .int .i64 (x 11), .int .i64 (x 12), .int .i64 0, vf, .int .i64 (x 4), vn, .slice (some ⟨ga, 0, none⟩) n n, .slice (some ⟨gb, 0, none⟩) n n] (0, 0) _ rfl B7 Tryz.underlying33 rfl (by kernel_rfl)) rfl ⟨_, .slice (some ⟨gb, 0, none⟩) n n, rfl, ⟨⟨vf, vn, _, _, ?_, HF7.out, HN7.out, HX7.out⟩, rfl⟩, HB7.out⟩
        rw [HX4.out]
        rfl
end Go.Proofs.YtgemjjpmoejgdaaGreat
/- The document's Start, whole; a shop's bounds; knellref04.Same. -/
namespace Go.Proofs.YtgemjjpmoejgdaaGreat
open Go.RowKit
set_option maxRecDepth 100000
set_option linter.unusedVariables false

theorem FitsR.of {c : Cf} {m : Nat → Nat} {R : ShopR} {fn ft : List Nat} {bx : Nat → List Nat} (hr : RelR c m R fn ft bx) (h1 : c.nodes ≤ 1000) (h2 : c.workers ≤ 1000) (h3 : c.tickets ≤ 1000) : FitsR R := by
  have hbx : ∀ b ∈ R.boxes, ∃ s, s < c.workers ∧ b = (bx s).map (tickOf c m) := fun b hb => by
    obtain ⟨s, hs, rfl⟩ := List.mem_iff_getElem.1 hb
    have hsw : s < c.workers := by rw [← hr.bl]; exact hs
    refine ⟨s, hsw, ?_⟩
    have := hr.box s hsw
    rw [List.getD_eq_getElem?_getD, List.getElem?_eq_getElem hs] at this
    exact this
  refine ⟨hr.cl, fun y hy => ?_, ?_, by rw [hr.nl]; omega, by rw [hr.bl]; omega, fun b hb => ?_, fun b hb u hu => ?_, ?_, fun n hn => ?_⟩
  · rw [hr.free] at hy; rw [hr.nl]; exact hr.shop.nlt y hy
  · rw [hr.free]; exact Nat.le_trans (nodup_len c.nodes fn hr.shop.nnd hr.shop.nlt) h1
  · obtain ⟨s, hs, rfl⟩ := hbx b hb
    rw [List.length_map]
    exact Nat.le_trans (nodup_len c.tickets (bx s) (hr.shop.bnd s hs) (hr.shop.blt s hs)) h3
  · obtain ⟨s, hs, rfl⟩ := hbx b hb
    obtain ⟨t, ht, rfl⟩ := List.mem_map.1 hu
    rw [hr.nl]
    exact hr.shop.key s hs t ht
  · rw [hr.tickets]
    have := nodup_len c.tickets ft hr.shop.tnd hr.shop.tlt
    omega
  · obtain ⟨i, hi, rfl⟩ := List.mem_iff_getElem.1 hn
    have h := hr.node i _ (List.getElem?_eq_getElem hi)
    refine ⟨?_, ?_⟩
    · rw [← h.gen]
      have : part (m (c.nodesAt + 4 * i)) 32 32 < 2 ^ 32 := Nat.mod_lt _ (by decide)
      omega
    · rw [← h.hver]
      have : part (m (c.nodesAt + 4 * i + 1)) 16 16 < 2 ^ 16 := Nat.mod_lt _ (by decide)
      omega

theorem ref16_Start (slack : Nat) (x : Nat → Int) (hx5 : x 5 = (slack : Int)) (R : ShopR) (hR : FitsR R) (vw v : Value) (K : Nat → Prop) (ticks shard user : Int) (w : World) (hs : ShopAt K w x vw v R) (hK : ∀ b, K b → b < w.heap.size) (ht : -9223372036854775808 ≤ ticks ∧ ticks ≤ 9223372036854775807) (hu : -9223372036854775808 ≤ user ∧ user ≤ 9223372036854775807) :
    Calls Tryz.prog 16 #[v, .int .i64 ticks, .int .i64 shard, .int .i64 user] w fun e w' => StartEnd x vw K w (startR slack R ticks shard user) e w' := by
  obtain ⟨vf, vn, vb, us, rfl, hf, hn, hbx⟩ := hs.ex
  by_cases a1 : ticks < 0
  · exact ref16_Start_arg1 slack x hx5 R hR vf vn vb vw us K ticks shard user w hf hn hbx hK hs.one ht hu a1
  by_cases a2 : user < 0
  · exact ref16_Start_arg2 slack x hx5 R hR vf vn vb vw us K ticks shard user w hf hn hbx hK hs.one ht hu a1 a2
  by_cases a3 : shardR R shard
  case neg => exact ref16_Start_arg3 slack x hx5 R hR vf vn vb vw us K ticks shard user w hf hn hbx hK hs.one ht hu a1 a2 a3
  have h1 : ¬ (ticks < 0 ∨ user < 0 ∨ ¬ shardR R shard) := fun h => h.elim a1 fun h => h.elim a2 fun h => h a3
  by_cases h2 : 1073741823 - (R.clock : Int) < ticks
  · exact ref16_Start_range slack x hx5 R hR vf vn vb vw us K ticks shard user w hf hn hbx hK hs.one ht hu h1 h2
  cases h3 : R.free with
  | nil => exact ref16_Start_empty slack x hx5 R hR vf vn vb vw us K ticks shard user w hf hn hbx hK hs.one ht hu h1 h2 h3
  | cons y fs =>
    by_cases h4 : (R.nodes.getD y default).gen = 4294967295
    · exact ref16_Start_gone slack x hx5 R hR vf vn vb vw us K ticks shard user w hf hn hbx hK hs.one ht hu h1 h2 y fs h3 h4
    · by_cases h5 : R.tickets = 0
      · exact ref16_Start_full slack x hx5 R hR vf vn vb vw us K ticks shard user w hf hn hbx hK hs.one ht hu h1 h2 y fs h3 h4 h5
      · exact ref16_Start_ok slack x hx5 R hR vf vn vb vw us K ticks shard user w hf hn hbx hK hs.one ht hu h1 h2 y fs h3 h4 h5
set_option maxHeartbeats 1000000 in
/-- Equal lists, the second one anywhere. -/
theorem same_free {base : Nat} (w : World) (va vb : Value) (xs : List Nat) (K : Nat → Prop) (ha : w.ownsRow base 3 1 va xs.length (ints xs)) (hb : KFree K w vb xs) (hl : xs.length ≤ 1048576) :
    Calls Tryz.prog 60 #[va, vb] w (Qt (.bool true) w) := by
  by_cases h0 : xs.length = 0
  · obtain ⟨a1, c1, rfl⟩ := own_form ha
    obtain ⟨a2, c2, rfl, _⟩ := hb.form
    rw [List.length_map, h0]
    clear ha hb
    go_enter Tryz.func60, Tryz.ntmps60
    go_wp2
    go_loop [5] (fun i => i = .int .i64 0) (fun _ => 0)
    case atStart => rfl
    case round =>
      subst hrel
      go_wp2
      go_ret
      exact ⟨rfl, 0, rfl⟩
  · obtain ⟨g1, c1, rfl, d1⟩ := own_cell ha (by omega)
    obtain ⟨p2, c2, rfl, hb2⟩ := hb.at'
    have hd2 : ∃ g2 o2, p2 = some ⟨g2, o2, none⟩ ∧ ∀ i, i < xs.length → w.cell? ⟨g2, o2 + i, none⟩ = some (.int .i64 (xs.getD i 0 : Nat)) := by
      cases hx : xs with
      | nil => rw [hx] at h0; exact absurd rfl h0
      | cons y ys =>
        obtain ⟨g2, o2, e, _⟩ := hb2 0 [.int .i64 (y : Int)] (by rw [hx]; rfl)
        refine ⟨g2, o2, e, fun i hi => ?_⟩
        rw [← hx] at hi ⊢
        obtain ⟨g3, o3, e3, h3⟩ := hb2 i [.int .i64 (xs[i] : Int)] (by rw [List.getElem?_map, List.getElem?_eq_getElem hi]; rfl)
        rw [e] at e3
        cases e3
        have := h3 0 _ rfl
        rw [Nat.mul_one, Nat.add_zero] at this
        rw [this]
        simp [hi]
    obtain ⟨g2, o2, rfl, d2⟩ := hd2
    clear ha hb hb2
    rw [List.length_map]
    have HD1 : Hid (∀ i, i < xs.length → w.cell? ⟨g1, i, none⟩ = some (.int .i64 (xs.getD i 0 : Nat))) := fun i hi => by
      have := d1 i hi
      unfold ints at this
      rw [List.getD_eq_getElem?_getD] at this ⊢
      simpa [hi] using this
    have HD2 := Go.Lib.hid d2
    clear d1 d2
    generalize hn : xs.length = n at *
    clear hn
    go_enter Tryz.func60, Tryz.ntmps60
    go_wp2
    go_loopw [5] (fun i wr => ∃ k q : Nat, k ≤ n ∧ i = .int .i64 k ∧ wr = w.drewN q) (fun i _ => n - (intOf i).toNat)
    case atStart => exact ⟨0, 0, Nat.zero_le _, rfl, rfl⟩
    case round =>
      obtain ⟨k, q, hk, rfl, rfl⟩ := hrel
      by_cases hlt : k < n
      · have e1 := HD1.out k hlt
        have e2 := HD2.out k hlt
        have b1 : (0 : Int) ≤ (k : Int) := by omega
        have b2 : (k : Int) < (n : Int) := by omega
        go_wp2
        go_quiet (fail)
        go_wp2
        exact ⟨⟨k + 1, q + nq, by omega, by go_num, rfl⟩, by simp [intOf]; omega⟩
      · have s4 : ((k : Int) < n) = False := by simp; omega
        go_wp2
        go_ret
        exact ⟨rfl, q, rfl⟩
end Go.Proofs.YtgemjjpmoejgdaaGreat
