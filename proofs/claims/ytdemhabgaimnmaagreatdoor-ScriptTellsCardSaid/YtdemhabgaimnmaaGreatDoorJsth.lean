/- Entries of the program's as the document's; the same entries. -/
import Derived.Test.YtdemhabgaimnmaaGreatDoorJstg
import Derived.Laws.EntriesVeiled
import Derived.Defers
namespace Go.Proofs.YtdemhabgaimnmaaGreatDoor
open Go.RowKit
set_option maxRecDepth 100000
set_option linter.unusedVariables false

theorem KE.form {K : Nat → Prop} {w : World} {v : Value} {es : List Ent} (h : KE K w v es) : ∃ p c, v = .slice p es.length c := by
  obtain ⟨p, c, rfl, _⟩ := KRows.form h
  exact ⟨p, c, by rw [List.length_map]⟩
theorem KE.keep {K : Nat → Prop} {w w' : World} {v : Value} {es : List Ent} (h : KE K w v es) (hb : ∀ b, K b → w'.heap[b]? = w.heap[b]?) : KE K w' v es := KRows.keep h hb
theorem KE.open {K : Nat → Prop} {w : World} {v : Value} {es : List Ent} (h : KE K w v es) (hl : 0 < es.length) : ∃ g off c, v = .slice (some ⟨g, off, none⟩) es.length c ∧ K g ∧ ∀ (i : Nat) (e : Ent), es[i]? = some e → ∀ (j : Nat) (u : Value), e.cells[j]? = some u → w.cell? ⟨g, off + i * 8 + j, none⟩ = some u := by
  have hk := h.kind
  obtain ⟨p, c, hv, h1⟩ := h.at'
  rw [List.length_map] at hv
  subst hv
  have h0 : (es.map Ent.cells)[0]? = some es[0].cells := by rw [List.getElem?_map, List.getElem?_eq_getElem hl]; rfl
  obtain ⟨g, off, rfl, _⟩ := h1 0 _ h0
  refine ⟨g, off, c, rfl, hk ⟨g, off, none⟩ _ _ rfl (by intro q; rw [q] at h0; cases h0), fun i e hi j u hj => ?_⟩
  obtain ⟨g', off', q, h2⟩ := h1 i e.cells (by rw [List.getElem?_map, hi]; rfl)
  cases q
  exact h2 j u hj
theorem KE.own {w : World} {base : Nat} {t : TypeId} {v : Value} {es : List Ent} (h : w.ownsRow base t 8 v es.length (es.map Ent.cells).flatten) : KE (fun b => base ≤ b ∧ b < w.heap.size) w v es := by
  have := KRows.own (K := fun b => base ≤ b) (rows := es.map Ent.cells) (by rw [List.length_map]; exact h) (fun r hr => by obtain ⟨y, _, rfl⟩ := List.mem_map.1 hr; rfl) (fun b hb => hb)
  exact KRows.mono (this.lt (fun r hr => by obtain ⟨y, _, rfl⟩ := List.mem_map.1 hr; simp [Ent.cells])) (fun b hb => hb)

set_option maxHeartbeats 1000000 in
theorem law22_to (a0 a1 a2 a3 a4 a5 a6 a7 : Int) (w : World) : Calls Tryz.prog 30 #[.agg #[.int .i64 a0, .int .i64 a1, .int .i64 a2, .int .i64 a3, .int .i64 a4, .int .i64 a5, .int .i64 a6, .int .i64 a7]] w fun e w' => e = .returned (.agg #[.int .i64 a0, .int .i64 a1, .int .i64 a2, .int .i64 a3, .int .i64 a4, .int .i64 a5, .int .i64 a6, .int .i64 a7]) ∧ Below w.heap.size w w' := by
  go_enter Tryz.func30, Tryz.ntmps30
  go_wp2_with fail
  exact bodyPost_ret (v := .agg #[.int .i64 a0, .int .i64 a1, .int .i64 a2, .int .i64 a3, .int .i64 a4, .int .i64 a5, .int .i64 a6, .int .i64 a7]) (by simp [results, Tryz.results30, go_sem]) rfl ⟨rfl, ((Below.refl _ _).alloc (Nat.le_refl _) _).alloc (by simp) _⟩
set_option maxHeartbeats 4000000 in
theorem law22_tos {K : Nat → Prop} {v : Value} {es : List Ent} {w : World} (h : KE K w v es) (hK : ∀ b, K b → b < w.heap.size) (hn : es.length ≤ 1000000) :
    Calls Tryz.prog 14 #[v] w fun e w' => ∃ v', e = .returned v' ∧ w'.ownsRow w.heap.size 53 8 v' es.length (es.map Ent.cells).flatten ∧ Below w.heap.size w w' := by
  have hinfo : (Tryz.prog.info? 53).map (fun i => (i.zero, i.size, i.bytes)) = some (some (.agg #[.int .i64 0, .int .i64 0, .int .i64 0, .int .i64 0, .int .i64 0, .int .i64 0, .int .i64 0, .int .i64 0]), 8, 64) := by kernel_rfl
  obtain ⟨i0, hi0, hz0, hz1, hz2⟩ := info_parts hinfo
  have hund : Tryz.prog.underlying 34 = some (.slice 53) := by kernel_rfl
  obtain ⟨p, c, rfl⟩ := id (KE.form h)
  have HK := Go.Lib.hid h
  have HKK := Go.Lib.hid hK
  have HTS : Hid (∀ i e, es[i]? = some e → (es.take (i + 1)).length = i + 1 ∧ ((es.take (i + 1)).map Ent.cells).flatten = ((es.take i).map Ent.cells).flatten ++ e.cells) := Go.Lib.hid (fun i e hi => by
    have hl := (List.getElem?_eq_some_iff.1 hi).1
    refine ⟨by rw [List.length_take]; omega, ?_⟩
    rw [List.take_succ_eq_append_getElem hl, List.map_append, List.flatten_append, (List.getElem?_eq_some_iff.1 hi).2]
    simp)
  have HGE : Hid (∀ i, i < es.length → ∃ e, es[i]? = some e) := Go.Lib.hid (fun i hi => ⟨_, List.getElem?_eq_getElem hi⟩)
  have HTA : Hid (es.take es.length = es) := Go.Lib.hid (List.take_length)
  clear h hK
  generalize hN : es.length = n at *
  have HN := Go.Lib.hid hN
  clear hN
  go_enter Tryz.func14, Tryz.ntmps14
  go_wp2
  have HO0 := Go.Lib.hid (own_empty w 53 8)
  have HB0 : Hid (Below w.heap.size w (w.alloc (.cells #[] 53))) := Go.Lib.hid ((Below.refl _ _).alloc (Nat.le_refl _) _)
  generalize w.alloc (.cells #[] 53) = W0 at *
  go_loopw [3, 9] (fun u3 u9 wr => ∃ i : Nat, u9 = .int .i64 (i : Nat) ∧ i ≤ n ∧ wr.ownsRow w.heap.size 53 8 u3 i ((es.take i).map Ent.cells).flatten ∧ Below w.heap.size w wr) (fun _ i _ => n - (intOf i).toNat)
  case atStart => exact ⟨0, rfl, Nat.zero_le _, HO0.out, HB0.out⟩
  case round =>
    obtain ⟨i, rfl, hi, hown, hbw⟩ := hrel
    obtain ⟨a10, c10, rfl⟩ := own_form hown
    have HOW := Go.Lib.hid hown
    have HBW := Go.Lib.hid hbw
    clear hown hbw HO0 HB0
    by_cases hlt : i < n
    · obtain ⟨e, he⟩ := HGE.out i hlt
      obtain ⟨g, off, c', ee, hkg, hcell⟩ := KE.open HK.out (by rw [HN.out]; omega)
      injection ee with e1 e2 e3
      clear e2
      subst e1
      subst e3
      obtain ⟨t1, t2⟩ := HTS.out i e he
      have HT2 := Go.Lib.hid t2
      obtain ⟨a0, a1, a2, a3, a4, a5, a6, a7⟩ := e
      have HC : Hid (∀ (j : Nat) (u : Value), (Ent.cells ⟨a0, a1, a2, a3, a4, a5, a6, a7⟩)[j]? = some u → wr.cell? ⟨g, off + i * 8 + j, none⟩ = some u) := Go.Lib.hid (fun j u hj => (HBW.out.cell (p := ⟨g, off + i * 8 + j, none⟩) (HKK.out g hkg)).trans (hcell i _ he j u hj))
      have c0 : wr.cell? ⟨g, off + i * 8, none⟩ = some (.int .i64 a0) := HC.out 0 _ rfl
      have c1 : wr.cell? ⟨g, off + i * 8 + 1, none⟩ = some (.int .i64 a1) := HC.out 1 _ rfl
      have c2 : wr.cell? ⟨g, off + i * 8 + 2, none⟩ = some (.int .i64 a2) := HC.out 2 _ rfl
      have c3 : wr.cell? ⟨g, off + i * 8 + 3, none⟩ = some (.int .i64 a3) := HC.out 3 _ rfl
      have c4 : wr.cell? ⟨g, off + i * 8 + 4, none⟩ = some (.int .i64 a4) := HC.out 4 _ rfl
      have c5 : wr.cell? ⟨g, off + i * 8 + 5, none⟩ = some (.int .i64 a5) := HC.out 5 _ rfl
      have c6 : wr.cell? ⟨g, off + i * 8 + 6, none⟩ = some (.int .i64 a6) := HC.out 6 _ rfl
      have c7 : wr.cell? ⟨g, off + i * 8 + 7, none⟩ = some (.int .i64 a7) := HC.out 7 _ rfl
      have hb1 : (0 : Int) ≤ (i : Int) := by omega
      have hb2 : (i : Int) < (n : Int) := by omega
      have HTO := Go.Lib.hid (fun W => law22_to a0 a1 a2 a3 a4 a5 a6 a7 W)
      clear t1 t2 he hcell
      go_wp2_with fail
      refine (HTO.out _).mono ?_
      rintro e w2 ⟨rfl, hb2'⟩
      have hba : Below wr.heap.size wr (wr.alloc (.cells #[.int .i64 a0, .int .i64 a1, .int .i64 a2, .int .i64 a3, .int .i64 a4, .int .i64 a5, .int .i64 a6, .int .i64 a7] 56)) := (Below.refl _ _).alloc (Nat.le_refl _) _
      have hbb := hba.trans (hb2'.mono hba.size)
      have HO2 := Go.Lib.hid (own_below HOW.out hbb)
      have HB2 := Go.Lib.hid (HBW.out.trans (hbb.mono HBW.out.size))
      have HSZ := Go.Lib.hid (HBW.out.trans (hbb.mono HBW.out.size)).size
      clear hba hbb hb2' c0 c1 c2 c3 c4 c5 c6 c7
      go_wp2_with (first
        | (at_builtin; refine wpList_append_own _ rfl _ _ 34 rfl w.heap.size 53 i0 _ 8 64 hund hi0 hz0 hz1 hz2 rfl (by decide) _ i (((es.take i).map Ent.cells).flatten) rfl (HO2.out.alloc _) ⟨w2.heap.size, 0, none⟩ 1 1 [.int .i64 a0, .int .i64 a1, .int .i64 a2, .int .i64 a3, .int .i64 a4, .int .i64 a5, .int .i64 a6, .int .i64 a7] rfl rfl (World.news_of_block (cs := #[.int .i64 a0, .int .i64 a1, .int .i64 a2, .int .i64 a3, .int .i64 a4, .int .i64 a5, .int .i64 a6, .int .i64 a7]) (t := 53) (fr := (0, 0)) (heap_alloc_new _ _)) (by simp [Value.oneCell']) (by unfold maxLen; omega) (by omega) (by have := HSZ.out; rw [World.size_alloc]; omega) ?_; intro v6 w6 hown6 hgrow6 hnil6)
        | fail)
      have HO6 := Go.Lib.hid hown6
      have HB6 := Go.Lib.hid ((HB2.out.alloc HSZ.out _).grown hgrow6 (by have := HSZ.out; rw [World.size_alloc]; omega) (own_base (HO2.out.alloc (.cells #[.int .i64 a0, .int .i64 a1, .int .i64 a2, .int .i64 a3, .int .i64 a4, .int .i64 a5, .int .i64 a6, .int .i64 a7] 53))))
      clear hown6 hgrow6 hnil6
      go_roundw
      case rel => exact ⟨i + 1, by go_num, by omega, by rw [HT2.out]; exact HO6.out, HB6.out⟩
      case measure => simp [intOf]; omega
    · have hiN : i = n := by omega
      subst hiN
      have hb1 : ((i : Int) < (i : Int)) = False := by simp
      go_wp2
      go_ret
      refine ⟨_, rfl, ?_, HBW.out⟩
      have := HOW.out
      rwa [HTA.out] at this

set_option maxHeartbeats 4000000 in
theorem ref22_Same {K1 K2 : Nat → Prop} {v1 v2 : Value} {es : List Ent} {w : World} (h1 : KE K1 w v1 es) (h2 : KE K2 w v2 es) (hn : es.length ≤ 1000000) :
    Calls Tryz.prog 13 #[v1, v2] w fun e w' => e = .returned (.bool true) ∧ Below w.heap.size w w' := by
  obtain ⟨p1, q1, rfl⟩ := id (KE.form h1)
  obtain ⟨p2, q2, rfl⟩ := id (KE.form h2)
  have HK1 := Go.Lib.hid h1
  have HK2 := Go.Lib.hid h2
  have HGE : Hid (∀ i, i < es.length → ∃ e, es[i]? = some e) := Go.Lib.hid (fun i hi => ⟨_, List.getElem?_eq_getElem hi⟩)
  clear h1 h2
  generalize hN : es.length = n at *
  have HN := Go.Lib.hid hN
  clear hN
  go_enter Tryz.func13, Tryz.ntmps13
  go_wp2
  go_loopw [5] (fun u5 wr => ∃ i q : Nat, u5 = .int .i64 (i : Nat) ∧ i ≤ n ∧ wr = w.drewN q) (fun i _ => n - (intOf i).toNat)
  case atStart => exact ⟨0, 0, rfl, Nat.zero_le _, rfl⟩
  case round =>
    obtain ⟨i, q, rfl, hi, rfl⟩ := hrel
    by_cases hlt : i < n
    · obtain ⟨e, he⟩ := HGE.out i hlt
      obtain ⟨g, off, c', ee, hkg, hcell⟩ := KE.open HK1.out (by rw [HN.out]; omega)
      injection ee with e1 e2 e3
      clear e2
      subst e1
      subst e3
      obtain ⟨g2, off2, c2', ee, hkg2, hcell2⟩ := KE.open HK2.out (by rw [HN.out]; omega)
      injection ee with e1 e2 e3
      clear e2
      subst e1
      subst e3
      obtain ⟨a0, a1, a2, a3, a4, a5, a6, a7⟩ := e
      have HC : Hid (∀ (j : Nat) (u : Value), (Ent.cells ⟨a0, a1, a2, a3, a4, a5, a6, a7⟩)[j]? = some u → w.cell? ⟨g, off + i * 8 + j, none⟩ = some u) := Go.Lib.hid (fun j u hj => hcell i _ he j u hj)
      have HD : Hid (∀ (j : Nat) (u : Value), (Ent.cells ⟨a0, a1, a2, a3, a4, a5, a6, a7⟩)[j]? = some u → w.cell? ⟨g2, off2 + i * 8 + j, none⟩ = some u) := Go.Lib.hid (fun j u hj => hcell2 i _ he j u hj)
      have c0 : w.cell? ⟨g, off + i * 8, none⟩ = some (.int .i64 a0) := HC.out 0 _ rfl
      have c1 : w.cell? ⟨g, off + i * 8 + 1, none⟩ = some (.int .i64 a1) := HC.out 1 _ rfl
      have c2 : w.cell? ⟨g, off + i * 8 + 2, none⟩ = some (.int .i64 a2) := HC.out 2 _ rfl
      have c3 : w.cell? ⟨g, off + i * 8 + 3, none⟩ = some (.int .i64 a3) := HC.out 3 _ rfl
      have c4 : w.cell? ⟨g, off + i * 8 + 4, none⟩ = some (.int .i64 a4) := HC.out 4 _ rfl
      have c5 : w.cell? ⟨g, off + i * 8 + 5, none⟩ = some (.int .i64 a5) := HC.out 5 _ rfl
      have c6 : w.cell? ⟨g, off + i * 8 + 6, none⟩ = some (.int .i64 a6) := HC.out 6 _ rfl
      have c7 : w.cell? ⟨g, off + i * 8 + 7, none⟩ = some (.int .i64 a7) := HC.out 7 _ rfl
      have d0 : w.cell? ⟨g2, off2 + i * 8, none⟩ = some (.int .i64 a0) := HD.out 0 _ rfl
      have d1 : w.cell? ⟨g2, off2 + i * 8 + 1, none⟩ = some (.int .i64 a1) := HD.out 1 _ rfl
      have d2 : w.cell? ⟨g2, off2 + i * 8 + 2, none⟩ = some (.int .i64 a2) := HD.out 2 _ rfl
      have d3 : w.cell? ⟨g2, off2 + i * 8 + 3, none⟩ = some (.int .i64 a3) := HD.out 3 _ rfl
      have d4 : w.cell? ⟨g2, off2 + i * 8 + 4, none⟩ = some (.int .i64 a4) := HD.out 4 _ rfl
      have d5 : w.cell? ⟨g2, off2 + i * 8 + 5, none⟩ = some (.int .i64 a5) := HD.out 5 _ rfl
      have d6 : w.cell? ⟨g2, off2 + i * 8 + 6, none⟩ = some (.int .i64 a6) := HD.out 6 _ rfl
      have d7 : w.cell? ⟨g2, off2 + i * 8 + 7, none⟩ = some (.int .i64 a7) := HD.out 7 _ rfl
      have hb1 : (0 : Int) ≤ (i : Int) := by omega
      have hb2 : (i : Int) < (n : Int) := by omega
      clear he hcell hcell2
      go_wp2_with fail
      go_quiet (fail)
      go_wp2
      go_roundw
      case rel => exact ⟨i + 1, q + nq, by go_num, by omega, rfl⟩
      case measure => simp [intOf]; omega
    · have hiN : i = n := by omega
      subst hiN
      have hb1 : ((i : Int) < (i : Int)) = False := by simp
      go_wp2
      go_ret
      exact ⟨rfl, below_drewN q⟩

end Go.Proofs.YtdemhabgaimnmaaGreatDoor
/- The history as a list. -/
namespace Go.Proofs.YtdemhabgaimnmaaGreatDoor
open Go.RowKit
set_option maxRecDepth 100000
set_option linter.unusedVariables false

set_option maxHeartbeats 1000000 in
theorem clone_events (g m cap : Nat) (news : List Value) (w : World) (hm : m ≤ 1000000) (hl : news.length = m * 12) (hn : ∀ j u, news[j]? = some u → w.cell? ⟨g, j, none⟩ = some u) (hg : g < w.heap.size) (h1 : ∀ u ∈ news, u.oneCell' = true) :
    Calls Tryz.prog 68 #[.slice (some ⟨g, 0, none⟩) m cap] w fun e w' => ∃ v, e = .returned v ∧ w'.ownsRow w.heap.size 85 12 v m news ∧ Below w.heap.size w w' := by
  have hinfo : (Tryz.prog.info? 85).map (fun i => (i.zero, i.size, i.bytes)) = some (some (.agg #[.int .i64 0, .int .i64 0, .int .i64 0, .int .i64 0, .int .i64 0, .int .i64 0, .int .i64 0, .int .i64 0, .int .i64 0, .int .i64 0, .bool false, .int .i64 0]), 12, 96) := by kernel_rfl
  have hund : Tryz.prog.underlying 82 = some (.slice 85) := by kernel_rfl
  obtain ⟨i0, hi0, hz0, hz1, hz2⟩ := info_parts hinfo
  have HN : Hid (∀ W, Below w.heap.size w W → ∀ j u, news[j]? = some u → W.cell? ((⟨g, 0, none⟩ : Addr).add j) = some u) := fun W hW j u hj => by
    have := below_cell hW (hn j u hj)
    by_cases e : j = 0
    · subst e; simpa [Addr.add] using this
    · simpa [Addr.add, e] using this
  clear hn
  have hcmp : ∀ w, Sem.run Tryz.prog (binOp BinOp.eql 82 (Value.slice (some ⟨g, 0, none⟩) m cap) (Value.slice none 0 0)) w = .ok (.bool false) w := fun w => by kernel_rfl
  go_enter Tryz.func68, Tryz.ntmps68
  have hal : Below w.heap.size w (w.alloc (.cells #[] 85)) := (Below.refl _ _).alloc (Nat.le_refl _) _
  have hown0 : World.ownsRow (w.alloc (.cells #[] 85)) w.heap.size 85 12 (.slice (some ⟨w.heap.size, 0, none⟩) 0 0) 0 [] :=
    ⟨rfl, .inr ⟨w.heap.size, 0, #[], rfl, Nat.le_refl _, heap_alloc_new _ _, by decide, by decide, rfl, rfl⟩⟩
  have HOWN := Go.Lib.hid hown0
  have HAL := Go.Lib.hid hal
  clear hown0 hal
  go_wp2_with (first
    | (at_builtin; refine wpList_append_own _ rfl _ _ 82 rfl w.heap.size 85 i0 _ 12 96 hund hi0 hz0 hz1 hz2 rfl (by decide) _ 0 [] rfl HOWN.out ⟨g, 0, none⟩ m cap news rfl hl (HN.out _ HAL.out) h1 (by unfold maxLen; omega) (by omega) (by simp) ?_; intro v1 w1 hown1 hgrow1 hnil1)
    | fail)
  go_ret
  rw [Nat.zero_add, List.nil_append] at hown1
  refine ⟨v1, rfl, hown1, HAL.out.grown hgrow1 ?_ ?_⟩
  · simp
  · intro k hk
    have hk2 : some w.heap.size = some k := hk
    have := Option.some.inj hk2
    omega
end Go.Proofs.YtdemhabgaimnmaaGreatDoor
/- What there is at first, place by place. -/
namespace Go.Proofs.YtdemhabgaimnmaaGreatDoor
set_option maxRecDepth 100000
set_option linter.unusedVariables false

theorem stateM_off (c : Cf) (m : Nat → Nat) (j : Nat) : ∀ k, (∀ i, i < k → j ≠ c.nodesAt + 4 * i) → stateM c m k j = m j
  | 0, _ => rfl
  | k + 1, h => by
    show upd (stateM c m k) (c.nodesAt + 4 * k) (freshW c) j = m j
    unfold upd
    rw [if_neg (h k (Nat.lt_succ_self k)), stateM_off c m j k fun i hi => h i (Nat.lt_succ_of_lt hi)]
theorem chainM_off (g m : Nat → Nat) (j : Nat) : ∀ k, (∀ i, i < k → j ≠ g i) → chainM g m k j = m j
  | 0, _ => rfl
  | k + 1, h => by
    show upd (chainM g m k) (g k) (k + 2) j = m j
    unfold upd
    rw [if_neg (h k (Nat.lt_succ_self k)), chainM_off g m j k fun i hi => h i (Nat.lt_succ_of_lt hi)]
end Go.Proofs.YtdemhabgaimnmaaGreatDoor
/- All that was noted, as a list. -/
namespace Go.Proofs.YtdemhabgaimnmaaGreatDoor
open Go.RowKit
set_option maxRecDepth 100000
set_option linter.unusedVariables false

set_option maxHeartbeats 1000000 in
theorem log_list_some (k g n cap : Nat) (news : List Value) (w : World) (hk : w.cell? ⟨k, 2, none⟩ = some (.slice (some ⟨g, 0, none⟩) n cap)) (hm : n ≤ 1000000) (hcap : n ≤ cap) (hl : news.length = n * 12) (hn : ∀ j u, news[j]? = some u → w.cell? ⟨g, j, none⟩ = some u) (hg : g < w.heap.size) (h1 : ∀ u ∈ news, u.oneCell' = true) :
    Calls Tryz.prog 50 #[.pointer (some ⟨k, 2, none⟩), .int .i64 0] w fun e w' => ∃ v, e = .returned v ∧ w'.ownsRow w.heap.size 85 12 v n news ∧ Below w.heap.size w w' := by
  have HC : Hid (∀ W, Below w.heap.size w W → Calls Tryz.prog 68 #[.slice (some ⟨g, 0, none⟩) n cap] W fun e w' => ∃ v, e = .returned v ∧ w'.ownsRow W.heap.size 85 12 v n news ∧ Below W.heap.size W w') := fun W hW =>
    clone_events g n cap news W hm hl (fun j u hj => below_cell hW (hn j u hj)) (Nat.lt_of_lt_of_le hg hW.size) h1
  clear hn
  have hk' : ∀ d os, (Sort.grow (redrawn w d) os).cell? ⟨k, 2, none⟩ = some (.slice (some ⟨g, 0, none⟩) n cap) := fun d os => cell_regrown hk d os
  have hmin : min (0 : Int) (n : Int) = 0 := by omega
  have hi1 : (0 : Int) ≤ (n : Int) := by omega
  go_enter Tryz.func50, Tryz.ntmps50
  go_wp2
  refine wp_region_below_tail 12 (by kernel_rfl) (by kernel_rfl) ?_
  simp only [List.take_succ_cons, List.take_zero, List.drop_succ_cons, List.drop_zero]
  repeat (go_big_quiet_step (fail))
  refine wpQuiet_nil ?_
  intro W1 hw'
  obtain ⟨p, rfl⟩ := hw'
  have hb := below_regrown w p.d p.os
  clear hk'
  generalize Sort.grow (redrawn w p.d) p.os = W1 at *
  go_wp2_with fail
  refine (HC.out W1 hb).mono ?_
  rintro e w2 ⟨v, rfl, hown, hb2⟩
  go_wp2
  go_ret
  exact ⟨v, rfl, own_mono hown hb.size, hb.trans (hb2.mono hb.size)⟩
set_option maxHeartbeats 1000000 in
theorem clone_nil (w : World) : Calls Tryz.prog 68 #[.slice none 0 0] w fun e w' => e = .returned (.slice none 0 0) ∧ w' = w := by
  have hcmp : ∀ w, Sem.run Tryz.prog (binOp BinOp.eql 82 (Value.slice none 0 0) (Value.slice none 0 0)) w = .ok (.bool true) w := fun w => by kernel_rfl
  go_enter Tryz.func68, Tryz.ntmps68
  go_wp2
  go_ret
  exact ⟨rfl, rfl⟩
set_option maxHeartbeats 1000000 in
theorem log_list_none (k : Nat) (w : World) (hk : w.cell? ⟨k, 2, none⟩ = some (.slice none 0 0)) :
    Calls Tryz.prog 50 #[.pointer (some ⟨k, 2, none⟩), .int .i64 0] w fun e w' => e = .returned (.slice none 0 0) ∧ Below w.heap.size w w' := by
  have hk' : ∀ d os, (Sort.grow (redrawn w d) os).cell? ⟨k, 2, none⟩ = some (.slice none 0 0) := fun d os => cell_regrown hk d os
  go_enter Tryz.func50, Tryz.ntmps50
  go_wp2
  refine wp_region_below_tail 12 (by kernel_rfl) (by kernel_rfl) ?_
  simp only [List.take_succ_cons, List.take_zero, List.drop_succ_cons, List.drop_zero]
  repeat (go_big_quiet_step (fail))
  refine wpQuiet_nil ?_
  intro W1 hw'
  obtain ⟨p, rfl⟩ := hw'
  have hb := below_regrown w p.d p.os
  clear hk'
  generalize Sort.grow (redrawn w p.d) p.os = W1 at *
  go_wp2_with fail
  refine (clone_nil W1).mono ?_
  rintro e w2 ⟨rfl, rfl⟩
  go_wp2
  go_ret
  exact ⟨rfl, hb⟩
theorem own_cells {w : World} {base : Nat} {e : TypeId} {size : Nat} {g n cap : Nat} {xs : List Value} (h : w.ownsRow base e size (.slice (some ⟨g, 0, none⟩) n cap) n xs) (j : Nat) (u : Value) (hj : xs[j]? = some u) : w.cell? ⟨g, j, none⟩ = some u := by
  rcases h.2 with ⟨he, _⟩ | ⟨g', cap', cur, he, _, hb, h1, h2, h3, h4⟩
  · cases he
  · obtain ⟨rfl, rfl⟩ : g' = g ∧ cap' = cap := by cases he; exact ⟨rfl, rfl⟩
    rw [cell_of_row _ _ _ _ _ _ hb]
    rw [← h4, List.getElem?_take] at hj
    split at hj
    · simpa using hj
    · cases hj
theorem cells_one (e : Ev) : ∀ u ∈ e.cells, u.oneCell' = true := by
  intro u hu
  simp only [Ev.cells, List.mem_cons, List.not_mem_nil, or_false] at hu
  rcases hu with rfl | rfl | rfl | rfl | rfl | rfl | rfl | rfl | rfl | rfl | rfl | rfl <;> rfl
theorem flat_length (l : List Ev) : (l.flatMap Ev.cells).length = l.length * 12 := by
  induction l with
  | nil => rfl
  | cons a l ih => rw [List.flatMap_cons, List.length_append, ih, List.length_cons]; show 12 + _ = _; omega
/-- All that was noted. -/
theorem log_list {E : G} {L : Lab} {S : St} {w : World} (hg : Good E L S w) (hn : S.log.length ≤ 1000000) :
    Calls Tryz.prog 50 #[.pointer (some ⟨E.k, 2, none⟩), .int .i64 0] w fun e w' => ∃ v, e = .returned v ∧ w'.ownsRow w.heap.size 85 12 v S.log.length (S.log.flatMap Ev.cells) ∧ Below w.heap.size w w' := by
  obtain ⟨lv, hlv, hown, _⟩ := hg.lg.ex
  have hown' := hown
  rcases hown.2 with ⟨rfl, h0⟩ | ⟨g, cap, cur, rfl, _, hb, h1, h2, h3, h4⟩
  · refine (log_list_none E.k w hlv).mono ?_
    rintro e w' ⟨rfl, hb⟩
    have hz : S.log = [] := List.length_eq_zero_iff.1 h0
    refine ⟨_, rfl, ?_, hb⟩
    rw [hz]
    exact World.ownsRow_nil _ _ _ _
  · exact log_list_some E.k g S.log.length cap _ w hlv hn (by omega) (flat_length _) (own_cells hown') (own_lt hown' (show _ = some g from rfl)) (by
      intro u hu
      obtain ⟨e, _, he⟩ := List.mem_flatMap.1 hu
      exact cells_one e u he)
end Go.Proofs.YtdemhabgaimnmaaGreatDoor
/- A machine of workers: New, a Tick. -/
namespace Go.Proofs.YtdemhabgaimnmaaGreatDoor
open Go.RowKit
set_option maxRecDepth 100000
set_option linter.unusedVariables false

/-- A machine of workers in memory. -/
structure Mach (E : G) (M T n : Nat) (k : Int) (L : Lab) (w : World) : Prop where
  m : w.heap[M]? = some (.cells #[.pointer (some ⟨E.k, 0, none⟩), .slice (some ⟨T, 0, none⟩) n n, .int .i64 k] 113)
  l : L M = 0
theorem Mach.below {E : G} {M T n : Nat} {k : Int} {L : Lab} {w w' : World} (h : Mach E M T n k L w) (hb : Below w.heap.size w w') : Mach E M T n k L w' := ⟨row_below hb h.m, h.l⟩
theorem Mach.shr {E : G} {M T n : Nat} {k : Int} {L L' : Lab} {w w' : World} (h : Mach E M T n k L w) (hs : Shr L w L' w') : Mach E M T n k L' w' :=
  ⟨(hs.block M (heap_lt0 h.m) (.inl h.l)).trans h.m, (hs.lab M (heap_lt0 h.m)).trans h.l⟩
theorem Good.off0 {E : G} {L : Lab} {S : St} {w w' : World} {b : Nat} (h : Good E L S w) (hL : L b = 0) (hp : b ≠ E.p) (hs : w'.heap.size = w.heap.size) (hk : ∀ k, k ≠ b → w'.heap[k]? = w.heap[k]?) : Good E L S w' := by
  have cell : ∀ (a : Addr) (v : Value), a.block ≠ b → w.cell? a = some v → w'.cell? a = some v := fun a v hne e => (World.cell?_of_block (hk _ hne)).trans e
  have froz : ∀ (a : Addr), a.block ≠ b → w'.frozen? a = w.frozen? a := fun a hne => World.frozen?_of_block (hk _ hne)
  have nk : E.k ≠ b := by intro e; have := h.lk; rw [e] at this; omega
  have na : E.a ≠ b := by intro e; have := h.la; rw [e] at this; omega
  have nc : E.c ≠ b := by intro e; have := h.lc; rw [e] at this; omega
  refine ⟨h.ok, cell _ _ nk h.k0, cell _ _ nk h.k1, h.pl.mono (hk _ (Ne.symm hp)), ⟨cell _ _ na h.ar.a0, cell _ _ na h.ar.a1, (froz _ na).trans h.ar.af, fun i hi => cell _ _ nc (h.ar.c0 i hi), fun i hi => (froz _ nc).trans (h.ar.cf i hi), h.ar.ne, h.ar.n2, h.ar.m64, h.ar.cnt2⟩, h.lg.below (hk _ nk) (fun g hg _ => ⟨hk _ (by intro e; rw [e] at hg; omega), rfl⟩), ?_, h.lk, h.lp, h.la, h.lc, fun b' hb => h.new b' (by rw [hs] at hb; exact hb), fun s hsl => ⟨(h.sv s hsl).1.below (hk _ (by intro e; have := (h.sv s hsl).1.lb; rw [e] at this; omega)) rfl (fun g hg _ => ⟨hk _ (by intro e; rw [e] at hg; omega), rfl⟩), (h.sv s hsl).2⟩⟩
  intro b' o v hv
  obtain ⟨r1, r2, r3⟩ := h.rg b' o v hv
  have nb : b' ≠ b := by intro e; rw [e] at r3; omega
  exact ⟨cell _ _ nb r1, (froz _ nb).trans r2, r3⟩
theorem Good.setLocal0 {E : G} {L : Lab} {S : St} {w : World} {b o : Nat} (h : Good E L S w) (hL : L b = 0) (hp : b ≠ E.p) (v : Value) : Good E L S (w.setCell ⟨b, o, none⟩ v) :=
  h.off0 hL hp (by simp [World.setCell]) fun k hk => Go.Deep.blk_setCell_other _ _ _ _ hk

theorem do_def (a b : Nat) (u : FrameMode) (w : World) (hc : w.cell? ⟨a, 0, none⟩ = some (.bool true)) :
    CallsD Tryz.prog 64 #[.pointer (some ⟨a, 0, none⟩), .pointer (some ⟨b, 0, none⟩)] u w fun e u' w' => u' = u ∧ (e = .returned (.tuple #[]) ∧ w' = w) := by
  go_enter_d Tryz.func64, Tryz.ntmps64
  go_wp2
  go_end0
  exact ⟨rfl, rfl⟩
set_option maxHeartbeats 4000000 in
theorem do_tick {E : G} {M T n : Nat} {k : Int} {L : Lab} {S : St} {w : World} (hg : Good E L S w) (hm : Mach E M T n k L w) (h0 : 0 < S.n) (hlt : S.m 0 < 1073741823) (hc : S.cnt + 1 ≤ 4611686018427387904) (hn : S.log.length ≤ 1099511627775) (hn1 : 1 ≤ n) (hn2 : n ≤ 64) :
    Calls Tryz.prog 48 #[.pointer (some ⟨M, 0, none⟩), .agg #[.int .i64 3, .int .i64 0, .int .i64 0, .int .i64 0, .int .i64 0, .int .i64 0, .int .i64 0, .int .i64 0]] w fun e w' => ∃ L', e = .returned (.bool true) ∧ Good E L' S.tick w' ∧ Mach E M T n k L' w' ∧ Shr L w L' w' := by
  have hpl := cell_lt hg.pl.c0
  have hMlt := heap_lt0 hm.m
  have hnew : ∀ b, w.heap.size ≤ b → L b = 0 := fun b hb => hg.new b hb
  have hB : Below w.heap.size w (((w.alloc (.cells #[.pointer (some ⟨M, 0, none⟩)] 78)).alloc (.cells #[.int .i64 3, .int .i64 0, .int .i64 0, .int .i64 0, .int .i64 0, .int .i64 0, .int .i64 0, .int .i64 0] 56)).alloc (.cells #[.bool false] 4)) := (((Below.refl _ _).alloc (Nat.le_refl _) _).alloc (by simp) _).alloc (by simp; omega) _
  have d0 : (((w.alloc (.cells #[.pointer (some ⟨M, 0, none⟩)] 78)).alloc (.cells #[.int .i64 3, .int .i64 0, .int .i64 0, .int .i64 0, .int .i64 0, .int .i64 0, .int .i64 0, .int .i64 0] 56)).alloc (.cells #[.bool false] 4)).cell? ⟨w.heap.size, 0, none⟩ = some (.pointer (some ⟨M, 0, none⟩)) := by go_simp
  have d1 : (((w.alloc (.cells #[.pointer (some ⟨M, 0, none⟩)] 78)).alloc (.cells #[.int .i64 3, .int .i64 0, .int .i64 0, .int .i64 0, .int .i64 0, .int .i64 0, .int .i64 0, .int .i64 0] 56)).alloc (.cells #[.bool false] 4)).cell? ⟨w.heap.size + 1, 0, none⟩ = some (.int .i64 3) := by go_simp
  have d2 : (((w.alloc (.cells #[.pointer (some ⟨M, 0, none⟩)] 78)).alloc (.cells #[.int .i64 3, .int .i64 0, .int .i64 0, .int .i64 0, .int .i64 0, .int .i64 0, .int .i64 0, .int .i64 0] 56)).alloc (.cells #[.bool false] 4)).cell? ⟨w.heap.size + 1, 1, none⟩ = some (.int .i64 0) := by go_simp
  have d3 : (((w.alloc (.cells #[.pointer (some ⟨M, 0, none⟩)] 78)).alloc (.cells #[.int .i64 3, .int .i64 0, .int .i64 0, .int .i64 0, .int .i64 0, .int .i64 0, .int .i64 0, .int .i64 0] 56)).alloc (.cells #[.bool false] 4)).cell? ⟨w.heap.size + 1 + 1, 0, none⟩ = some (.bool false) := by go_simp
  have f3 : (((w.alloc (.cells #[.pointer (some ⟨M, 0, none⟩)] 78)).alloc (.cells #[.int .i64 3, .int .i64 0, .int .i64 0, .int .i64 0, .int .i64 0, .int .i64 0, .int .i64 0, .int .i64 0] 56)).alloc (.cells #[.bool false] 4)).frozen? ⟨w.heap.size + 1 + 1, 0, none⟩ = false := by go_simp
  have hm3 := hm.below hB
  have HG := Go.Lib.hid (hg.below hB)
  have HM := Go.Lib.hid hm3
  have HB := Go.Lib.hid hB
  have d4 : (((w.alloc (.cells #[.pointer (some ⟨M, 0, none⟩)] 78)).alloc (.cells #[.int .i64 3, .int .i64 0, .int .i64 0, .int .i64 0, .int .i64 0, .int .i64 0, .int .i64 0, .int .i64 0] 56)).alloc (.cells #[.bool false] 4)).cell? ⟨M, 0, none⟩ = some (.pointer (some ⟨E.k, 0, none⟩)) := cell_of_row _ _ _ _ _ _ hm3.m
  have d5 : (((w.alloc (.cells #[.pointer (some ⟨M, 0, none⟩)] 78)).alloc (.cells #[.int .i64 3, .int .i64 0, .int .i64 0, .int .i64 0, .int .i64 0, .int .i64 0, .int .i64 0, .int .i64 0] 56)).alloc (.cells #[.bool false] 4)).cell? ⟨M, 1, none⟩ = some (.slice (some ⟨T, 0, none⟩) n n) := cell_of_row _ _ _ _ _ _ hm3.m
  clear hg hm hm3 hB
  have hn3 : (0 : Int) < (n : Int) := by omega
  go_enter_defers Tryz.func48, Tryz.ntmps48
  go_wp2_with fail
  generalize (((w.alloc (.cells #[.pointer (some ⟨M, 0, none⟩)] 78)).alloc (.cells #[.int .i64 3, .int .i64 0, .int .i64 0, .int .i64 0, .int .i64 0, .int .i64 0, .int .i64 0, .int .i64 0] 56)).alloc (.cells #[.bool false] 4)) = W3 at *
  go_quiet (fail)
  have HG4 := Go.Lib.hid (HG.out.below (below_drewN nq))
  have HM4 := Go.Lib.hid (HM.out.below (below_drewN nq))
  have HB4 := Go.Lib.hid (HB.out.trans ((below_drewN nq).mono HB.out.size))
  have d0' := below_cell (below_drewN (w := W3) nq) d0
  go_wp2_with fail
  have hl4 : L (w.heap.size + 1 + 1) = 0 := hnew _ (by omega)
  have r4 : (W3.drewN nq).cell? ⟨w.heap.size + 1 + 1, 0, none⟩ = some (.bool false) := below_cell (below_drewN nq) d3
  have r4b := cell_lt r4
  refine (core_tick HG4.out h0 hlt hc hn).mono ?_
  rintro e w5 ⟨L5, rfl, hg5, hs5⟩
  have e4 : w5.heap[w.heap.size + 1 + 1]? = (W3.drewN nq).heap[w.heap.size + 1 + 1]? := hs5.block _ r4b (.inl hl4)
  have d6 : w5.cell? ⟨w.heap.size + 1 + 1, 0, none⟩ = some (.bool false) := (World.cell?_of_block e4).trans r4
  have f6 : w5.frozen? ⟨w.heap.size + 1 + 1, 0, none⟩ = false := (World.frozen?_of_block e4).trans f3
  have e0 : w5.heap[w.heap.size]? = (W3.drewN nq).heap[w.heap.size]? := hs5.block _ (cell_lt d0') (.inl (hnew _ (Nat.le_refl _)))
  have d7 : w5.cell? ⟨w.heap.size, 0, none⟩ = some (.pointer (some ⟨M, 0, none⟩)) := (World.cell?_of_block e0).trans d0'
  have HG5 := Go.Lib.hid (hg5.setLocal0 (o := 0) (show L5 (w.heap.size + 1 + 1) = 0 from (hs5.lab _ r4b).trans hl4) (by omega) (.bool true))
  have HM5 := Go.Lib.hid (HM4.out.shr hs5)
  have HS5 := Go.Lib.hid ((Shr.of_below HB4.out L).trans hs5)
  clear hg5 hs5 e4 e0 d0 d1 d2 d3 d4 d5 f3 HG HM HB HG4 HM4 HB4 d0' r4 r4b
  go_wp2
  have c9 : (w5.setCell ⟨w.heap.size + 1 + 1, 0, none⟩ (.bool true)).cell? ⟨w.heap.size + 1 + 1, 0, none⟩ = some (.bool true) := World.cell?_setCell_same _ _ _ d6
  have h9 : Mach E M T n k L5 (w5.setCell ⟨w.heap.size + 1 + 1, 0, none⟩ (.bool true)) := ⟨(Go.Deep.blk_setCell_other w5 ⟨w.heap.size + 1 + 1, 0, none⟩ _ M (by show M ≠ w.heap.size + 1 + 1; omega)).trans HM5.out.m, HM5.out.l⟩
  have s9 : Shr L w L5 (w5.setCell ⟨w.heap.size + 1 + 1, 0, none⟩ (.bool true)) := ⟨HS5.out.os, HS5.out.tape, HS5.out.output, by have := HS5.out.size; simpa [World.setCell] using this, fun b hb hl => (Go.Deep.blk_setCell_other w5 ⟨w.heap.size + 1 + 1, 0, none⟩ _ b (by show b ≠ w.heap.size + 1 + 1; omega)).trans (HS5.out.block b hb hl), HS5.out.lab⟩
  generalize (w5.setCell ⟨w.heap.size + 1 + 1, 0, none⟩ (.bool true)) = w9 at *
  refine leaves_cons (f := 64) (args := #[.pointer (some ⟨w.heap.size + 1 + 1, 0, none⟩), .pointer (some ⟨w.heap.size, 0, none⟩)]) (by simp) (by simp [go_sem]) ?_
  refine (do_def _ _ .returning _ c9).mono ?_
  rintro e u' w'' ⟨rfl, rfl, rfl⟩
  exact ⟨_, by simp [results, Tryz.results48, go_sem, c9], L5, rfl, HG5.out, h9, s9⟩
theorem make_tasks (n : Nat) (h1 : n ≤ 1048576) (w : World) :
    (Instr.makeSlice 111 (.int .i64 n) (.int .i64 n)).run Tryz.prog w = .ok (.slice (some ⟨w.heap.size, 0, none⟩) n n) (w.alloc (.cells (madeCells #[.pointer none] n) 154)) := by
  have hz : (Tryz.prog.info? 154).map (fun i => (i.zero, i.size, i.bytes)) = some (some (.pointer none), 1, 8) := by kernel_rfl
  cases hi : Tryz.prog.info? 154 with
  | none => rw [hi] at hz; cases hz
  | some i => ?_
  rw [hi] at hz
  simp at hz
  obtain ⟨z1, z2, z3⟩ := hz
  have := run_make (P := Tryz.prog) w 111 154 i _ (by kernel_rfl) hi z1 .i64 .i64 n n (by omega) (by omega) (by rw [z3]; omega) (by omega)
  rw [this]
  simp [z2, Value.cells]
set_option maxHeartbeats 4000000 in
theorem sched_new (c : Cf) (hok : c.Ok) (w : World) :
    Calls Tryz.prog 31 #[.agg #[.int .i64 c.workers, .int .i64 c.levels, .int .i64 c.bits, .int .i64 c.nodes, .int .i64 c.tickets, .int .i64 c.slack, .int .i64 c.first, .int .i64 c.conns, .int .i64 c.timeout, .int .i64 c.base, .int .i64 c.cap, .int .i64 c.jitter, .int .i64 c.attempts]] w fun e w' => ∃ E L M T, e = .returned (.tuple #[.pointer (some ⟨M, 0, none⟩), .int .i64 0]) ∧ E.cf = c ∧ Good E L (S0 c) w' ∧ Mach E M T c.workers 0 L w' ∧ (∀ b, b < w.heap.size → L b = 0) ∧ Below w.heap.size w w' := by
  have HN := Go.Lib.hid (core_new c hok)
  have hb0 : Below w.heap.size w (w.alloc (.cells #[.int .i64 c.workers, .int .i64 c.levels, .int .i64 c.bits, .int .i64 c.nodes, .int .i64 c.tickets, .int .i64 c.slack, .int .i64 c.first, .int .i64 c.conns, .int .i64 c.timeout, .int .i64 c.base, .int .i64 c.cap, .int .i64 c.jitter, .int .i64 c.attempts] 29)) := (Below.refl _ _).alloc (Nat.le_refl _) _
  have HB0 := Go.Lib.hid hb0
  have HX := Go.Lib.hid (heap_alloc_new w (.cells #[.int .i64 c.workers, .int .i64 c.levels, .int .i64 c.bits, .int .i64 c.nodes, .int .i64 c.tickets, .int .i64 c.slack, .int .i64 c.first, .int .i64 c.conns, .int .i64 c.timeout, .int .i64 c.base, .int .i64 c.cap, .int .i64 c.jitter, .int .i64 c.attempts] 29))
  have hw1 := hok.w1
  have hw2 := hok.w2
  have hmk := fun W => make_tasks c.workers (by omega) W
  have HV : Hid (c.vals = #[.int .i64 c.workers, .int .i64 c.levels, .int .i64 c.bits, .int .i64 c.nodes, .int .i64 c.tickets, .int .i64 c.slack, .int .i64 c.first, .int .i64 c.conns, .int .i64 c.timeout, .int .i64 c.base, .int .i64 c.cap, .int .i64 c.jitter, .int .i64 c.attempts]) := Go.Lib.hid rfl
  clear hb0 hok
  go_enter Tryz.func31, Tryz.ntmps31
  go_wp2_with fail
  generalize (w.alloc (.cells #[.int .i64 c.workers, .int .i64 c.levels, .int .i64 c.bits, .int .i64 c.nodes, .int .i64 c.tickets, .int .i64 c.slack, .int .i64 c.first, .int .i64 c.conns, .int .i64 c.timeout, .int .i64 c.base, .int .i64 c.cap, .int .i64 c.jitter, .int .i64 c.attempts] 29)) = W0 at *
  refine (HN.out _).mono ?_
  rintro e w2 ⟨E, L, rfl, hborn⟩
  have hb2 := hborn.bl
  have c0 : w2.cell? ⟨w.heap.size, 0, none⟩ = some (.int .i64 c.workers) := cell_of_row _ _ _ _ _ _ (row_below hb2 HX.out)
  have HBN := Go.Lib.hid hborn
  have HB2 := Go.Lib.hid (HB0.out.trans (hb2.mono HB0.out.size))
  clear hb2 hborn
  go_wp2
  go_ret2
  have hb3 : Below w2.heap.size w2 ((w2.alloc (.cells (madeCells #[.pointer none] c.workers) 154)).alloc (.cells #[.pointer (some ⟨E.k, 0, none⟩), .slice (some ⟨w2.heap.size, 0, none⟩) c.workers c.workers, .int .i64 0] 113)) := ((Below.refl _ _).alloc (Nat.le_refl _) _).alloc (by simp) _
  have hm := heap_alloc_new (w2.alloc (.cells (madeCells #[.pointer none] c.workers) 154)) (.cells #[.pointer (some ⟨E.k, 0, none⟩), .slice (some ⟨w2.heap.size, 0, none⟩) c.workers c.workers, .int .i64 0] 113)
  rw [World.size_alloc] at hm
  exact ⟨E, L, w2.heap.size + 1, w2.heap.size, rfl, HBN.out.cf, HBN.out.good.below hb3, ⟨hm, HBN.out.good.new _ (by omega)⟩, fun b hb => HBN.out.old b (Nat.lt_of_lt_of_le hb HB0.out.size), HB2.out.trans (hb3.mono HB2.out.size)⟩
/-- A state behind so many Ticks. -/
def tickN (S : St) : Nat → St
  | 0 => S
  | j + 1 => (tickN S j).tick
theorem tickN_facts (S : St) : ∀ j, (tickN S j).n = S.n ∧ (tickN S j).m 0 = S.m 0 + j ∧ (tickN S j).cnt = S.cnt + j ∧ (tickN S j).log.length = S.log.length + j
  | 0 => ⟨rfl, rfl, rfl, rfl⟩
  | j + 1 => by
    obtain ⟨h1, h2, h3, h4⟩ := tickN_facts S j
    refine ⟨h1, ?_, ?_, ?_⟩
    · show (if 0 = 0 then (tickN S j).m 0 + 1 else (tickN S j).m 0) = _
      rw [if_pos rfl, h2]; omega
    · show (tickN S j).cnt + 1 = _
      rw [h3]; omega
    · show ((tickN S j).log ++ [_]).length = _
      rw [List.length_append, h4]; simp; omega
set_option maxHeartbeats 4000000 in
theorem run_ticks {E : G} {M T n : Nat} {k : Int} {L : Lab} {S : St} {w : World} {K : Nat → Prop} {v : Value} (t : Nat) (ht : t ≤ 100) (hv : KE K w v (List.replicate t tickE)) (hK : ∀ b, K b → b < w.heap.size ∧ L b = 0) (hg : Good E L S w) (hm : Mach E M T n k L w) (h0 : 0 < S.n) (hlt : S.m 0 < 1073741000) (hc : S.cnt ≤ 4611686018427380000) (hn : S.log.length ≤ 1099511620000) (hn1 : 1 ≤ n) (hn2 : n ≤ 64) :
    Calls Tryz.prog 32 #[.pointer (some ⟨M, 0, none⟩), v] w fun e w' => ∃ L', e = .returned (.int .i64 (t : Nat)) ∧ Good E L' (tickN S t) w' ∧ Mach E M T n k L' w' ∧ Shr L w L' w' := by
  obtain ⟨p, c, hvf⟩ := id (KE.form hv)
  rw [List.length_replicate] at hvf
  subst hvf
  have HV := Go.Lib.hid hv
  have HK := Go.Lib.hid hK
  have HG := Go.Lib.hid hg
  have HM := Go.Lib.hid hm
  have HTF := Go.Lib.hid (tickN_facts S)
  clear hv hK hg hm
  go_enter Tryz.func32, Tryz.ntmps32
  go_wp2
  go_loopw [5, 7, 10] (fun u5 u7 u10 wr => ∃ (j : Nat) (L' : Lab), u10 = .int .i64 (j : Nat) ∧ u5 = .int .i64 (j : Nat) ∧ j ≤ t ∧ Good E L' (tickN S j) wr ∧ Mach E M T n k L' wr ∧ Shr L w L' wr) (fun _ _ i _ => t - (intOf i).toNat)
  case atStart => exact ⟨0, L, rfl, rfl, Nat.zero_le _, HG.out, HM.out, Shr.refl _ _⟩
  case round =>
    obtain ⟨j, L1, rfl, rfl, hj, hg1, hm1, hs1⟩ := hrel
    have HG1 := Go.Lib.hid hg1
    have HM1 := Go.Lib.hid hm1
    have HS1 := Go.Lib.hid hs1
    clear hg1 hm1 hs1 HG HM
    by_cases hjt : j < t
    · obtain ⟨g, off, c', ee, hkg, hcell⟩ := KE.open HV.out (by rw [List.length_replicate]; omega)
      injection ee with e1 e2 e3
      clear e2
      subst e1
      subst e3
      have hge : (List.replicate t tickE)[j]? = some tickE := by rw [List.getElem?_replicate, if_pos hjt]
      have HC : Hid (∀ (i : Nat) (u : Value), tickE.cells[i]? = some u → wr.cell? ⟨g, off + j * 8 + i, none⟩ = some u) := Go.Lib.hid (fun i u hi => (World.cell?_of_block (HS1.out.block g (HK.out g hkg).1 (.inl (HK.out g hkg).2))).trans (hcell j _ hge i u hi))
      have c0 : wr.cell? ⟨g, off + j * 8, none⟩ = some (.int .i64 3) := HC.out 0 _ rfl
      have c1 : wr.cell? ⟨g, off + j * 8 + 1, none⟩ = some (.int .i64 0) := HC.out 1 _ rfl
      have c2 : wr.cell? ⟨g, off + j * 8 + 2, none⟩ = some (.int .i64 0) := HC.out 2 _ rfl
      have c3 : wr.cell? ⟨g, off + j * 8 + 3, none⟩ = some (.int .i64 0) := HC.out 3 _ rfl
      have c4 : wr.cell? ⟨g, off + j * 8 + 4, none⟩ = some (.int .i64 0) := HC.out 4 _ rfl
      have c5 : wr.cell? ⟨g, off + j * 8 + 5, none⟩ = some (.int .i64 0) := HC.out 5 _ rfl
      have c6 : wr.cell? ⟨g, off + j * 8 + 6, none⟩ = some (.int .i64 0) := HC.out 6 _ rfl
      have c7 : wr.cell? ⟨g, off + j * 8 + 7, none⟩ = some (.int .i64 0) := HC.out 7 _ rfl
      obtain ⟨t1, t2, t3, t4⟩ := HTF.out j
      have hb1 : (0 : Int) ≤ (j : Int) := by omega
      have hb2 : (j : Int) < (t : Int) := by omega
      have hal : Below wr.heap.size wr (wr.alloc (.cells #[.int .i64 3, .int .i64 0, .int .i64 0, .int .i64 0, .int .i64 0, .int .i64 0, .int .i64 0, .int .i64 0] 56)) := (Below.refl _ _).alloc (Nat.le_refl _) _
      have HDO := Go.Lib.hid (do_tick (HG1.out.below hal) (HM1.out.below hal) (by rw [t1]; exact h0) (by rw [t2]; omega) (by rw [t3]; omega) (by rw [t4]; omega) hn1 hn2)
      have HS2 := Go.Lib.hid (HS1.out.trans (Shr.of_below hal L1))
      clear t1 t2 t3 t4 hge hcell hal
      go_wp2_with fail
      refine HDO.out.mono ?_
      rintro e w5 ⟨L5, rfl, hg5, hm5, hs5⟩
      have HG5 := Go.Lib.hid hg5
      have HM5 := Go.Lib.hid hm5
      have HS5 := Go.Lib.hid (HS2.out.trans hs5)
      clear hg5 hm5 hs5 c0 c1 c2 c3 c4 c5 c6 c7
      go_wp2_with fail
      go_roundw
      case rel => exact ⟨j + 1, L5, by go_num, by go_num, by omega, HG5.out, HM5.out, HS5.out⟩
      case measure => simp [intOf]; omega
    · have hjt2 : j = t := by omega
      subst hjt2
      have hb1 : ((j : Int) < (j : Int)) = False := by simp
      go_wp2
      go_ret
      exact ⟨L1, rfl, HG1.out, HM1.out, HS1.out⟩
theorem m_Skipped {E : G} {M T n : Nat} {k : Int} {L : Lab} {w : World} (hm : Mach E M T n k L w) :
    Calls Tryz.prog 36 #[.pointer (some ⟨M, 0, none⟩)] w fun e w' => e = .returned (.int .i64 k) ∧ w' = w := by
  have c2 : w.cell? ⟨M, 2, none⟩ = some (.int .i64 k) := cell_of_row _ _ _ _ _ _ hm.m
  clear hm
  go_enter Tryz.func36, Tryz.ntmps36
  go_wp2
  go_ret
  exact ⟨rfl, rfl⟩
set_option maxHeartbeats 1000000 in
theorem m_History {E : G} {M T n : Nat} {k : Int} {L : Lab} {S : St} {w : World} (hg : Good E L S w) (hm : Mach E M T n k L w) (hn : S.log.length ≤ 1000000) :
    Calls Tryz.prog 33 #[.pointer (some ⟨M, 0, none⟩)] w fun e w' => ∃ v, e = .returned v ∧ w'.ownsRow w.heap.size 85 12 v S.log.length (S.log.flatMap Ev.cells) ∧ Below w.heap.size w w' := by
  have c0 : w.cell? ⟨M, 0, none⟩ = some (.pointer (some ⟨E.k, 0, none⟩)) := cell_of_row _ _ _ _ _ _ hm.m
  have HL := Go.Lib.hid (log_list hg hn)
  have HCL := Go.Lib.hid (core_log hg)
  clear hm hg
  go_enter Tryz.func33, Tryz.ntmps33
  go_wp2_with fail
  refine HCL.out.mono ?_
  rintro e w' ⟨rfl, rfl⟩
  go_wp2_with fail
  refine HL.out.mono ?_
  rintro e w2 ⟨v, rfl, ho, hb⟩
  have HO := Go.Lib.hid ho
  have HB := Go.Lib.hid hb
  clear ho hb
  go_wp2
  go_ret
  exact ⟨_, rfl, HO.out, HB.out⟩
/-- A digit's text. -/
def digS (i : Nat) : ByteArray := ⟨#[UInt8.ofNat (48 + i)]⟩
set_option maxHeartbeats 1000000 in
theorem small_digit (i : Nat) (h : i < 10) (w : World) : Calls Tryz.prog 93 #[.int .i64 i] w fun e w' => e = .returned (.string (digS i)) ∧ w' = w := by
  match i, h with
  | 0, _ | 1, _ | 2, _ | 3, _ | 4, _ | 5, _ | 6, _ | 7, _ | 8, _ | 9, _ =>
    go_enter Tryz.func93, Tryz.ntmps93
    go_wp2
    go_ret
    exact ⟨rfl, rfl⟩
set_option maxHeartbeats 1000000 in
theorem format_digit (i : Nat) (h : i < 10) (w : World) : Calls Tryz.prog 72 #[.int .i64 i, .int .i64 10] w fun e w' => e = .returned (.string (digS i)) ∧ w' = w := by
  have HS := Go.Lib.hid (small_digit i h w)
  have hi1 : (0 : Int) ≤ (i : Int) := by omega
  have hi2 : (i : Int) < 10 := by omega
  have hi3 : (i : Int) < 100 := by omega
  go_enter Tryz.func72, Tryz.ntmps72
  go_wp2_with fail
  refine HS.out.mono ?_
  rintro e w' ⟨rfl, rfl⟩
  go_wp2
  go_ret
  exact ⟨rfl, rfl⟩
set_option maxHeartbeats 1000000 in
theorem itoa0_digit (i : Nat) (h : i < 10) (w : World) : Calls Tryz.prog 54 #[.int .i64 i] w fun e w' => e = .returned (.string (digS i)) ∧ w' = w := by
  have HS := Go.Lib.hid (format_digit i h w)
  have hi1 : (0 : Int) ≤ (i : Int) := by omega
  have hi2 : (i : Int) < 10 := by omega
  have hi3 : (i : Int) < 100 := by omega
  go_enter Tryz.func54, Tryz.ntmps54
  go_wp2_with fail
  refine HS.out.mono ?_
  rintro e w' ⟨rfl, rfl⟩
  go_wp2
  go_ret
  exact ⟨rfl, rfl⟩
set_option maxHeartbeats 1000000 in
theorem itoa_digit (i : Nat) (h : i < 10) (w : World) : Calls Tryz.prog 35 #[.int .i64 i] w fun e w' => e = .returned (.string (digS i)) ∧ w' = w := by
  have HS := Go.Lib.hid (itoa0_digit i h w)
  have hi1 : (0 : Int) ≤ (i : Int) := by omega
  have hi2 : (i : Int) < 10 := by omega
  have hi3 : (i : Int) < 100 := by omega
  go_enter Tryz.func35, Tryz.ntmps35
  go_wp2_with fail
  refine HS.out.mono ?_
  rintro e w' ⟨rfl, rfl⟩
  go_wp2
  go_ret
  exact ⟨rfl, rfl⟩
end Go.Proofs.YtdemhabgaimnmaaGreatDoor
