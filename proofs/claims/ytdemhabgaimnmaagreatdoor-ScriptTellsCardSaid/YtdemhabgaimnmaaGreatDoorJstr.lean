/- Both Encodes of the same entries. -/
import Derived.Test.YtdemhabgaimnmaaGreatDoorJstq
import Derived.Laws.BytesArg
import Derived.ProofKit
import Derived.OpenShut
import Derived.ChangeSlices
import Derived.Deep.Slices
namespace Go.Proofs.YtdemhabgaimnmaaGreatDoor
open Go.RowKit
set_option maxRecDepth 100000
set_option linter.unusedVariables false

theorem layP_lt {e : Ent} {bs : List Nat} (h : layP e = some bs) : ∀ z ∈ bs, z < 256 := by
  unfold layP at h
  by_cases h3 : e.kind = 3
  · rw [if_pos h3] at h
    split at h
    · cases h; intro z hz; rw [List.mem_singleton.1 hz]; decide
    · cases h
  · rw [if_neg h3] at h
    by_cases h2 : e.kind = 2
    · rw [if_pos h2] at h
      split at h
      · rename_i hc; cases h; intro z hz; rw [List.mem_singleton.1 hz]; omega
      · cases h
    · rw [if_neg h2] at h
      by_cases h1 : e.kind = 1
      · rw [if_pos h1] at h
        split at h
        · rename_i hc
          cases h
          intro z hz
          rcases List.mem_cons.1 hz with rfl | hz
          · omega
          · rcases List.mem_cons.1 hz with rfl | hz
            · omega
            · unfold putsE at hz
              obtain ⟨p, _, hp⟩ := List.mem_flatMap.1 hz
              exact bytesL_lt _ _ z hp
        · cases h
      · rw [if_neg h1] at h; cases h
theorem encP_lt : ∀ {l : List Ent} {bs : List Nat}, encP l = some bs → ∀ z ∈ bs, z < 256
  | [], bs, h, z, hz => by cases h; cases hz
  | e :: es, bs, h, z, hz => by
    rw [encP] at h
    cases hb : layP e with
    | none => rw [hb] at h; cases h
    | some b =>
      rw [hb] at h
      cases hs : encP es with
      | none => rw [hs] at h; cases h
      | some bs' =>
        rw [hs] at h
        cases h
        rcases List.mem_append.1 hz with q | q
        · exact layP_lt hb z q
        · exact encP_lt hs z q
theorem conv_kb {K : Nat → Prop} {w : World} {v : Value} {bs : List Nat} (h : KB K w v bs) (h0 : 0 < bs.length) : (convert 24 9 v).run Tryz.prog w = .ok (.string (strOfNums (bs.map fun (z : Nat) => (z : Int)))) w := by
  obtain ⟨g, off, c, rfl, _, hc⟩ := KB.open h h0
  refine run_convert_bytes_arg w 24 5 Tryz.underlying24 Tryz.underlying5 g off bs.length c _ (by rw [List.length_map]) (fun i hi => ?_) 9 Tryz.underlying9
  rw [hc i bs[i] (List.getElem?_eq_getElem hi), List.getD_eq_getElem?_getD, List.getElem?_map, List.getElem?_eq_getElem hi]
  rfl
theorem conv_nil (w : World) : (convert 24 9 (.slice none 0 0)).run Tryz.prog w = .ok (.string ByteArray.empty) w :=
  run_convert_bytes_nil w 24 5 Tryz.underlying24 Tryz.underlying5 0 0 9 Tryz.underlying9
/-- An Encode that answers an error. -/
def EncNo (k : Int) (w : World) (e : Ending) (w' : World) : Prop := e = .returned (.tuple #[.slice none 0 0, .int .i64 k]) ∧ Below w.heap.size w w'
def EncYes (B : List Nat) (w : World) (e : Ending) (w' : World) : Prop := ∃ v, e = .returned (.tuple #[v, .int .i64 0]) ∧ OwnB w.heap.size w' v B ∧ Below w.heap.size w w'
theorem EncPost.isNo {x : Nat → Int} {es : List Ent} {w w' : World} {e : Ending} (h : EncPost x es w e w') (hk : encK x es ≠ 0) : EncNo (encK x es) w e w' := by
  obtain ⟨v, h1, h2, h3, _⟩ := h
  rw [h3 hk] at h1
  exact ⟨h1, h2⟩
theorem EncPost.isYes {x : Nat → Int} {es : List Ent} {w w' : World} {e : Ending} {bs : List Nat} (h : EncPost x es w e w') (hx : okI x) (he : encP es = some bs) : EncYes (headJ x 13 ++ bs) w e w' := by
  obtain ⟨v, h1, h2, _, h4⟩ := h
  have hk : encK x es = 0 := by unfold encK; rw [if_pos hx, if_neg (by rw [he]; simp)]
  rw [hk] at h1
  exact ⟨v, h1, h4 bs hx he, h2⟩
theorem script_Enc (x : Nat → Int) (es : List Ent) (hes : ∀ e ∈ es, EntR e) (hn : es.length ≤ 100) (v : Value) (w : World) (h : KEs w v es) : Calls Tryz.prog 18 #[.agg #[.int .i64 (x 0), .int .i64 (x 1), .int .i64 (x 2), .int .i64 (x 3), .int .i64 (x 4), .int .i64 (x 5), .int .i64 (x 6), .int .i64 (x 7), .int .i64 (x 8), .int .i64 (x 9), .int .i64 (x 10), .int .i64 (x 11), .int .i64 (x 12)], v] w (EncPost x es w) := by
  by_cases hx : okI x
  · exact script_Encode_ok x hx es hes hn v w h
  · exact script_Encode_bad x hx es v w
theorem ref22_Enc (x : Nat → Int) (es : List Ent) (hes : ∀ e ∈ es, EntR e) (hn : es.length ≤ 100) (v : Value) (w : World) (h : KEs w v es) : Calls Tryz.prog 9 #[.agg #[.int .i64 (x 0), .int .i64 (x 1), .int .i64 (x 2), .int .i64 (x 3), .int .i64 (x 4), .int .i64 (x 5), .int .i64 (x 6), .int .i64 (x 7), .int .i64 (x 8), .int .i64 (x 9), .int .i64 (x 10), .int .i64 (x 11), .int .i64 (x 12)], v] w (EncPost x es w) := by
  by_cases hx : okI x
  · exact ref22_Encode_ok x hx es hes hn v w h
  · exact ref22_Encode_badE x hx es v w

set_option maxHeartbeats 4000000 in
theorem tells_long (x : Nat → Int) (es : List Ent) (v : Value) (w : World) (h : KEs w v es) (hl : ¬ es.length ≤ 100) :
    Calls Tryz.prog 7 #[.agg #[.int .i64 (x 0), .int .i64 (x 1), .int .i64 (x 2), .int .i64 (x 3), .int .i64 (x 4), .int .i64 (x 5), .int .i64 (x 6), .int .i64 (x 7), .int .i64 (x 8), .int .i64 (x 9), .int .i64 (x 10), .int .i64 (x 11), .int .i64 (x 12)], v] w fun e w' => e = .returned (.bool true) ∧ Below w.heap.size w w' := by
  have hb0 : Below w.heap.size w (w.alloc (.cells #[.int .i64 (x 0), .int .i64 (x 1), .int .i64 (x 2), .int .i64 (x 3), .int .i64 (x 4), .int .i64 (x 5), .int .i64 (x 6), .int .i64 (x 7), .int .i64 (x 8), .int .i64 (x 9), .int .i64 (x 10), .int .i64 (x 11), .int .i64 (x 12)] 23)) := (Below.refl _ _).alloc (Nat.le_refl _) _
  have HB0 := Go.Lib.hid hb0
  have HX0 := Go.Lib.hid (heap_alloc_new w (.cells #[.int .i64 (x 0), .int .i64 (x 1), .int .i64 (x 2), .int .i64 (x 3), .int .i64 (x 4), .int .i64 (x 5), .int .i64 (x 6), .int .i64 (x 7), .int .i64 (x 8), .int .i64 (x 9), .int .i64 (x 10), .int .i64 (x 11), .int .i64 (x 12)] 23))
  have HK0 := Go.Lib.hid h
  obtain ⟨p0, q0, rfl⟩ := id (KE.form h)
  clear hb0 h
  have hl1 : ((es.length : Int) > 100) = True := by simp; omega
  have hl2 : ((100 : Int) < (es.length : Int)) = True := by simp; omega
  clear hl
  go_enter Tryz.func7, Tryz.ntmps7
  go_wp2_with fail
  generalize (w.alloc (.cells #[.int .i64 (x 0), .int .i64 (x 1), .int .i64 (x 2), .int .i64 (x 3), .int .i64 (x 4), .int .i64 (x 5), .int .i64 (x 6), .int .i64 (x 7), .int .i64 (x 8), .int .i64 (x 9), .int .i64 (x 10), .int .i64 (x 11), .int .i64 (x 12)] 23)) = W0 at *
  refine (law22_speaks _).mono ?_
  rintro e w1 ⟨rfl, hb1⟩
  have HB1 := Go.Lib.hid (HB0.out.trans (hb1.mono HB0.out.size))
  clear hb1
  go_wp2_with fail
  refine (law22_speaks _).mono ?_
  rintro e w2 ⟨rfl, hb2⟩
  have HB2 := Go.Lib.hid (HB1.out.trans (hb2.mono HB1.out.size))
  go_wp2
  go_ret
  exact ⟨rfl, HB2.out⟩
set_option maxHeartbeats 8000000 in
theorem tells_no (x : Nat → Int) (es : List Ent) (hes : ∀ e ∈ es, EntR e) (hn : es.length ≤ 100) (hk0 : encK x es ≠ 0) (v : Value) (w : World) (h : KEs w v es) :
    Calls Tryz.prog 7 #[.agg #[.int .i64 (x 0), .int .i64 (x 1), .int .i64 (x 2), .int .i64 (x 3), .int .i64 (x 4), .int .i64 (x 5), .int .i64 (x 6), .int .i64 (x 7), .int .i64 (x 8), .int .i64 (x 9), .int .i64 (x 10), .int .i64 (x 11), .int .i64 (x 12)], v] w fun e w' => e = .returned (.bool true) ∧ Below w.heap.size w w' := by
  have hb0 : Below w.heap.size w (w.alloc (.cells #[.int .i64 (x 0), .int .i64 (x 1), .int .i64 (x 2), .int .i64 (x 3), .int .i64 (x 4), .int .i64 (x 5), .int .i64 (x 6), .int .i64 (x 7), .int .i64 (x 8), .int .i64 (x 9), .int .i64 (x 10), .int .i64 (x 11), .int .i64 (x 12)] 23)) := (Below.refl _ _).alloc (Nat.le_refl _) _
  have HB0 := Go.Lib.hid hb0
  have HX0 := Go.Lib.hid (heap_alloc_new w (.cells #[.int .i64 (x 0), .int .i64 (x 1), .int .i64 (x 2), .int .i64 (x 3), .int .i64 (x 4), .int .i64 (x 5), .int .i64 (x 6), .int .i64 (x 7), .int .i64 (x 8), .int .i64 (x 9), .int .i64 (x 10), .int .i64 (x 11), .int .i64 (x 12)] 23))
  have HK0 := Go.Lib.hid h
  obtain ⟨p0, q0, rfl⟩ := id (KE.form h)
  clear hb0 h
  obtain ⟨k, hk⟩ : ∃ k, k = encK x es := ⟨_, rfl⟩
  have HKK : Hid (k ≠ 0) := Go.Lib.hid (by rw [hk]; exact hk0)
  have HE1 : Hid (∀ W u, KEs W u es → Calls Tryz.prog 18 #[.agg #[.int .i64 (x 0), .int .i64 (x 1), .int .i64 (x 2), .int .i64 (x 3), .int .i64 (x 4), .int .i64 (x 5), .int .i64 (x 6), .int .i64 (x 7), .int .i64 (x 8), .int .i64 (x 9), .int .i64 (x 10), .int .i64 (x 11), .int .i64 (x 12)], u] W (EncNo k W)) := Go.Lib.hid (fun W u hu => (script_Enc x es hes hn u W hu).mono fun e w' h => by rw [hk]; exact h.isNo hk0)
  have HE2 : Hid (∀ W u, KEs W u es → Calls Tryz.prog 9 #[.agg #[.int .i64 (x 0), .int .i64 (x 1), .int .i64 (x 2), .int .i64 (x 3), .int .i64 (x 4), .int .i64 (x 5), .int .i64 (x 6), .int .i64 (x 7), .int .i64 (x 8), .int .i64 (x 9), .int .i64 (x 10), .int .i64 (x 11), .int .i64 (x 12)], u] W (EncNo k W)) := Go.Lib.hid (fun W u hu => (ref22_Enc x es hes hn u W hu).mono fun e w' h => by rw [hk]; exact h.isNo hk0)
  clear hk hk0
  have hinfo : (Tryz.prog.info? 56).map (fun i => (i.zero, i.size, i.bytes)) = some (some (.agg #[.int .i64 0, .int .i64 0, .int .i64 0, .int .i64 0, .int .i64 0, .int .i64 0, .int .i64 0, .int .i64 0]), 8, 64) := by kernel_rfl
  obtain ⟨i0, hi0, hz0, hz1, hz2⟩ := info_parts hinfo
  have hund : Tryz.prog.underlying 30 = some (.slice 56) := by kernel_rfl
  have HTS : Hid (∀ i e, es[i]? = some e → (es.take (i + 1)).length = i + 1 ∧ ((es.take (i + 1)).map Ent.cells).flatten = ((es.take i).map Ent.cells).flatten ++ e.cells) := Go.Lib.hid (fun i e hi => by
    have hl := (List.getElem?_eq_some_iff.1 hi).1
    refine ⟨by rw [List.length_take]; omega, ?_⟩
    rw [List.take_succ_eq_append_getElem hl, List.map_append, List.flatten_append, (List.getElem?_eq_some_iff.1 hi).2]
    simp)
  have HGE : Hid (∀ i, i < es.length → ∃ e, es[i]? = some e) := Go.Lib.hid (fun i hi => ⟨_, List.getElem?_eq_getElem hi⟩)
  have HTA : Hid (es.take es.length = es) := Go.Lib.hid (List.take_length)
  have hl1 : ((es.length : Int) > 100) = False := by simp; omega
  have hl2 : ((100 : Int) < (es.length : Int)) = False := by simp; omega
  have HNN := Go.Lib.hid hn
  clear hn hes
  generalize hN : es.length = n at *
  have HN := Go.Lib.hid hN
  clear hN
  go_enter Tryz.func7, Tryz.ntmps7
  go_wp2_with fail
  generalize (w.alloc (.cells #[.int .i64 (x 0), .int .i64 (x 1), .int .i64 (x 2), .int .i64 (x 3), .int .i64 (x 4), .int .i64 (x 5), .int .i64 (x 6), .int .i64 (x 7), .int .i64 (x 8), .int .i64 (x 9), .int .i64 (x 10), .int .i64 (x 11), .int .i64 (x 12)] 23)) = W0 at *
  refine (law22_speaks _).mono ?_
  rintro e w1 ⟨rfl, hb1⟩
  have HB1 := Go.Lib.hid (HB0.out.trans (hb1.mono HB0.out.size))
  have HX1 := Go.Lib.hid (row_below hb1 HX0.out)
  have HK1 := Go.Lib.hid (KEs.below HK0.out (HB0.out.trans (hb1.mono HB0.out.size)))
  have hsw : w.heap.size < w1.heap.size := by
    have := HB0.out.size
    have h3 := heap_lt0 HX1.out
    exact h3
  clear hb1 HX0 HB0 HK0
  go_wp2_with fail
  go_loopw [5, 25] (fun u3 u9 wr => ∃ i : Nat, u9 = .int .i64 (i : Nat) ∧ i ≤ n ∧ wr.ownsRow w1.heap.size 56 8 u3 i ((es.take i).map Ent.cells).flatten ∧ Below w1.heap.size w1 wr) (fun _ i _ => n - (intOf i).toNat)
  case atStart => exact ⟨0, rfl, Nat.zero_le _, World.ownsRow_nil _ _ _ _, Below.refl _ _⟩
  case round =>
    obtain ⟨i, rfl, hi, hown, hbw⟩ := hrel
    obtain ⟨a10, c10, rfl⟩ := own_form hown
    have HOW := Go.Lib.hid hown
    have HBW := Go.Lib.hid hbw
    clear hown hbw
    by_cases hlt : i < n
    · obtain ⟨e, he⟩ := HGE.out i hlt
      obtain ⟨g, off, c', ee, hkg, hcell⟩ := KE.open HK1.out (by rw [HN.out]; omega)
      injection ee with e1 e2 e3
      clear e2
      subst e1
      subst e3
      obtain ⟨t1, t2⟩ := HTS.out i e he
      have HT2 := Go.Lib.hid t2
      obtain ⟨a0, a1, a2, a3, a4, a5, a6, a7⟩ := e
      have HC : Hid (∀ (j : Nat) (u : Value), (Ent.cells ⟨a0, a1, a2, a3, a4, a5, a6, a7⟩)[j]? = some u → wr.cell? ⟨g, off + i * 8 + j, none⟩ = some u) := Go.Lib.hid (fun j u hj => (HBW.out.cell (p := ⟨g, off + i * 8 + j, none⟩) hkg).trans (hcell i _ he j u hj))
      have c0 : wr.cell? ⟨g, off + i * 8, none⟩ = some (.int .i64 a0) := HC.out 0 _ rfl
      have c1 : wr.cell? ⟨g, off + i * 8 + 1, none⟩ = some (.int .i64 a1) := HC.out 1 _ rfl
      have c2 : wr.cell? ⟨g, off + i * 8 + 2, none⟩ = some (.int .i64 a2) := HC.out 2 _ rfl
      have c3 : wr.cell? ⟨g, off + i * 8 + 3, none⟩ = some (.int .i64 a3) := HC.out 3 _ rfl
      have c4 : wr.cell? ⟨g, off + i * 8 + 4, none⟩ = some (.int .i64 a4) := HC.out 4 _ rfl
      have c5 : wr.cell? ⟨g, off + i * 8 + 5, none⟩ = some (.int .i64 a5) := HC.out 5 _ rfl
      have c6 : wr.cell? ⟨g, off + i * 8 + 6, none⟩ = some (.int .i64 a6) := HC.out 6 _ rfl
      have c7 : wr.cell? ⟨g, off + i * 8 + 7, none⟩ = some (.int .i64 a7) := HC.out 7 _ rfl
      have hb1 : (0 : Int) ≤ (i : Int) := by omega
      have hb2 : (i : Int) < (n : Int) := by omega
      have hn9 : n ≤ 100 := HNN.out
      have HTO := Go.Lib.hid (fun W => law21_Of a0 a1 a2 a3 a4 a5 a6 a7 W)
      have HLT : Hid (i + 1 ≤ n) := Go.Lib.hid hlt
      clear t1 t2 he hcell
      go_wp2_with fail
      refine (HTO.out _).mono ?_
      rintro e w2 ⟨rfl, hb2'⟩
      have hba : Below wr.heap.size wr (wr.alloc (.cells #[.int .i64 a0, .int .i64 a1, .int .i64 a2, .int .i64 a3, .int .i64 a4, .int .i64 a5, .int .i64 a6, .int .i64 a7] 53)) := (Below.refl _ _).alloc (Nat.le_refl _) _
      have hbb := hba.trans (hb2'.mono hba.size)
      have HO2 := Go.Lib.hid (own_below HOW.out hbb)
      have HB2 := Go.Lib.hid (HBW.out.trans (hbb.mono HBW.out.size))
      have HSZ := Go.Lib.hid (HBW.out.trans (hbb.mono HBW.out.size)).size
      clear hba hbb hb2' c0 c1 c2 c3 c4 c5 c6 c7
      go_wp2_with (first
        | (at_builtin; refine wpList_append_own _ rfl _ _ 30 rfl w1.heap.size 56 i0 _ 8 64 hund hi0 hz0 hz1 hz2 rfl (by decide) _ i (((es.take i).map Ent.cells).flatten) rfl (HO2.out.alloc _) ⟨w2.heap.size, 0, none⟩ 1 1 [.int .i64 a0, .int .i64 a1, .int .i64 a2, .int .i64 a3, .int .i64 a4, .int .i64 a5, .int .i64 a6, .int .i64 a7] rfl rfl (World.news_of_block (cs := #[.int .i64 a0, .int .i64 a1, .int .i64 a2, .int .i64 a3, .int .i64 a4, .int .i64 a5, .int .i64 a6, .int .i64 a7]) (t := 56) (fr := (0, 0)) (heap_alloc_new _ _)) (by simp [Value.oneCell']) (by unfold maxLen; have := HNN.out; omega) (by have := HNN.out; omega) (by have := HSZ.out; rw [World.size_alloc]; omega) ?_; intro v6 w6 hown6 hgrow6 hnil6)
        | fail)
      have HO6 := Go.Lib.hid hown6
      have HB6 := Go.Lib.hid ((HB2.out.alloc HSZ.out _).grown hgrow6 (by have := HSZ.out; rw [World.size_alloc]; omega) (own_base (HO2.out.alloc (.cells #[.int .i64 a0, .int .i64 a1, .int .i64 a2, .int .i64 a3, .int .i64 a4, .int .i64 a5, .int .i64 a6, .int .i64 a7] 56))))
      clear hown6 hgrow6 hnil6
      have hn8 := HLT.out
      go_roundw
      case rel => exact ⟨i + 1, by go_num, HLT.out, by rw [HT2.out]; exact HO6.out, HB6.out⟩
      case measure => have := HLT.out; simp [intOf]; omega
    · have hiN : i = n := by omega
      subst hiN
      have hb1 : ((i : Int) < (i : Int)) = False := by simp
      have HK5 : Hid (KEs wr (.slice a10 i c10) es) := Go.Lib.hid (KEs.of (KE.own (by have := HOW.out; rw [HTA.out] at this; rw [HN.out]; exact this)))
      have HK6 := Go.Lib.hid (KEs.below HK1.out HBW.out)
      have HXR := Go.Lib.hid (row_below HBW.out HX1.out)
      have HBR := Go.Lib.hid (HB1.out.trans (HBW.out.mono HB1.out.size))
      have x0 : wr.cell? ⟨w.heap.size, 0, none⟩ = some (.int .i64 (x 0)) := cell_of_row _ _ _ _ _ _ HXR.out
      have x1 : wr.cell? ⟨w.heap.size, 1, none⟩ = some (.int .i64 (x 1)) := cell_of_row _ _ _ _ _ _ HXR.out
      have x2 : wr.cell? ⟨w.heap.size, 2, none⟩ = some (.int .i64 (x 2)) := cell_of_row _ _ _ _ _ _ HXR.out
      have x3 : wr.cell? ⟨w.heap.size, 3, none⟩ = some (.int .i64 (x 3)) := cell_of_row _ _ _ _ _ _ HXR.out
      have x4 : wr.cell? ⟨w.heap.size, 4, none⟩ = some (.int .i64 (x 4)) := cell_of_row _ _ _ _ _ _ HXR.out
      have x5 : wr.cell? ⟨w.heap.size, 5, none⟩ = some (.int .i64 (x 5)) := cell_of_row _ _ _ _ _ _ HXR.out
      have x6 : wr.cell? ⟨w.heap.size, 6, none⟩ = some (.int .i64 (x 6)) := cell_of_row _ _ _ _ _ _ HXR.out
      have x7 : wr.cell? ⟨w.heap.size, 7, none⟩ = some (.int .i64 (x 7)) := cell_of_row _ _ _ _ _ _ HXR.out
      have x8 : wr.cell? ⟨w.heap.size, 8, none⟩ = some (.int .i64 (x 8)) := cell_of_row _ _ _ _ _ _ HXR.out
      have x9 : wr.cell? ⟨w.heap.size, 9, none⟩ = some (.int .i64 (x 9)) := cell_of_row _ _ _ _ _ _ HXR.out
      have x10 : wr.cell? ⟨w.heap.size, 10, none⟩ = some (.int .i64 (x 10)) := cell_of_row _ _ _ _ _ _ HXR.out
      have x11 : wr.cell? ⟨w.heap.size, 11, none⟩ = some (.int .i64 (x 11)) := cell_of_row _ _ _ _ _ _ HXR.out
      have x12 : wr.cell? ⟨w.heap.size, 12, none⟩ = some (.int .i64 (x 12)) := cell_of_row _ _ _ _ _ _ HXR.out
      clear HOW HBW HX1 HB1 HK1 HTA HGE HTS
      go_wp2_with fail
      clear x0 x1 x2 x3 x4 x5 x6 x7 x8 x9 x10 x11 x12
      refine (law03_Of x _).mono ?_
      rintro e w3 ⟨rfl, hb3⟩
      replace HK5 := Go.Lib.hid (KEs.below HK5.out hb3)
      replace HK6 := Go.Lib.hid (KEs.below HK6.out hb3)
      replace HXR := Go.Lib.hid (row_below hb3 HXR.out)
      replace HBR := Go.Lib.hid (HBR.out.trans (hb3.mono HBR.out.size))
      clear hb3
      go_wp2_with fail
      refine (HE1.out _ _ HK5.out).mono ?_
      rintro e w4 ⟨rfl, hb4⟩
      replace HK6 := Go.Lib.hid (KEs.below HK6.out hb4)
      replace HXR := Go.Lib.hid (row_below hb4 HXR.out)
      replace HBR := Go.Lib.hid (HBR.out.trans (hb4.mono HBR.out.size))
      clear hb4
      have x0 : w4.cell? ⟨w.heap.size, 0, none⟩ = some (.int .i64 (x 0)) := cell_of_row _ _ _ _ _ _ HXR.out
      have x1 : w4.cell? ⟨w.heap.size, 1, none⟩ = some (.int .i64 (x 1)) := cell_of_row _ _ _ _ _ _ HXR.out
      have x2 : w4.cell? ⟨w.heap.size, 2, none⟩ = some (.int .i64 (x 2)) := cell_of_row _ _ _ _ _ _ HXR.out
      have x3 : w4.cell? ⟨w.heap.size, 3, none⟩ = some (.int .i64 (x 3)) := cell_of_row _ _ _ _ _ _ HXR.out
      have x4 : w4.cell? ⟨w.heap.size, 4, none⟩ = some (.int .i64 (x 4)) := cell_of_row _ _ _ _ _ _ HXR.out
      have x5 : w4.cell? ⟨w.heap.size, 5, none⟩ = some (.int .i64 (x 5)) := cell_of_row _ _ _ _ _ _ HXR.out
      have x6 : w4.cell? ⟨w.heap.size, 6, none⟩ = some (.int .i64 (x 6)) := cell_of_row _ _ _ _ _ _ HXR.out
      have x7 : w4.cell? ⟨w.heap.size, 7, none⟩ = some (.int .i64 (x 7)) := cell_of_row _ _ _ _ _ _ HXR.out
      have x8 : w4.cell? ⟨w.heap.size, 8, none⟩ = some (.int .i64 (x 8)) := cell_of_row _ _ _ _ _ _ HXR.out
      have x9 : w4.cell? ⟨w.heap.size, 9, none⟩ = some (.int .i64 (x 9)) := cell_of_row _ _ _ _ _ _ HXR.out
      have x10 : w4.cell? ⟨w.heap.size, 10, none⟩ = some (.int .i64 (x 10)) := cell_of_row _ _ _ _ _ _ HXR.out
      have x11 : w4.cell? ⟨w.heap.size, 11, none⟩ = some (.int .i64 (x 11)) := cell_of_row _ _ _ _ _ _ HXR.out
      have x12 : w4.cell? ⟨w.heap.size, 12, none⟩ = some (.int .i64 (x 12)) := cell_of_row _ _ _ _ _ _ HXR.out
      go_wp2_with fail
      clear x0 x1 x2 x3 x4 x5 x6 x7 x8 x9 x10 x11 x12
      refine (HE2.out _ _ HK6.out).mono ?_
      rintro e w5 ⟨rfl, hb5⟩
      replace HBR := Go.Lib.hid (HBR.out.trans (hb5.mono HBR.out.size))
      clear hb5
      have hcv := conv_nil w5
      have hk1 : k ≠ 0 := HKK.out
      go_wp2
      go_ret
      exact ⟨rfl, HBR.out⟩
set_option maxHeartbeats 8000000 in
theorem tells_yes (x : Nat → Int) (es : List Ent) (hes : ∀ e ∈ es, EntR e) (hn : es.length ≤ 100) (hx : okI x) (bs : List Nat) (hbs : encP es = some bs) (v : Value) (w : World) (h : KEs w v es) :
    Calls Tryz.prog 7 #[.agg #[.int .i64 (x 0), .int .i64 (x 1), .int .i64 (x 2), .int .i64 (x 3), .int .i64 (x 4), .int .i64 (x 5), .int .i64 (x 6), .int .i64 (x 7), .int .i64 (x 8), .int .i64 (x 9), .int .i64 (x 10), .int .i64 (x 11), .int .i64 (x 12)], v] w fun e w' => e = .returned (.bool true) ∧ Below w.heap.size w w' := by
  have hb0 : Below w.heap.size w (w.alloc (.cells #[.int .i64 (x 0), .int .i64 (x 1), .int .i64 (x 2), .int .i64 (x 3), .int .i64 (x 4), .int .i64 (x 5), .int .i64 (x 6), .int .i64 (x 7), .int .i64 (x 8), .int .i64 (x 9), .int .i64 (x 10), .int .i64 (x 11), .int .i64 (x 12)] 23)) := (Below.refl _ _).alloc (Nat.le_refl _) _
  have HB0 := Go.Lib.hid hb0
  have HX0 := Go.Lib.hid (heap_alloc_new w (.cells #[.int .i64 (x 0), .int .i64 (x 1), .int .i64 (x 2), .int .i64 (x 3), .int .i64 (x 4), .int .i64 (x 5), .int .i64 (x 6), .int .i64 (x 7), .int .i64 (x 8), .int .i64 (x 9), .int .i64 (x 10), .int .i64 (x 11), .int .i64 (x 12)] 23))
  have HK0 := Go.Lib.hid h
  obtain ⟨p0, q0, rfl⟩ := id (KE.form h)
  clear hb0 h
  obtain ⟨B, hB⟩ : ∃ B, B = headJ x 13 ++ bs := ⟨_, rfl⟩
  have HBP : Hid (0 < B.length) := Go.Lib.hid (by rw [hB, List.length_append, headJ_len]; omega)
  have HE1 : Hid (∀ W u, KEs W u es → Calls Tryz.prog 18 #[.agg #[.int .i64 (x 0), .int .i64 (x 1), .int .i64 (x 2), .int .i64 (x 3), .int .i64 (x 4), .int .i64 (x 5), .int .i64 (x 6), .int .i64 (x 7), .int .i64 (x 8), .int .i64 (x 9), .int .i64 (x 10), .int .i64 (x 11), .int .i64 (x 12)], u] W (EncYes B W)) := Go.Lib.hid (fun W u hu => (script_Enc x es hes hn u W hu).mono fun e w' h => by rw [hB]; exact h.isYes hx hbs)
  have HE2 : Hid (∀ W u, KEs W u es → Calls Tryz.prog 9 #[.agg #[.int .i64 (x 0), .int .i64 (x 1), .int .i64 (x 2), .int .i64 (x 3), .int .i64 (x 4), .int .i64 (x 5), .int .i64 (x 6), .int .i64 (x 7), .int .i64 (x 8), .int .i64 (x 9), .int .i64 (x 10), .int .i64 (x 11), .int .i64 (x 12)], u] W (EncYes B W)) := Go.Lib.hid (fun W u hu => (ref22_Enc x es hes hn u W hu).mono fun e w' h => by rw [hB]; exact h.isYes hx hbs)
  have HDE : Hid (∀ u W, KBb W.heap.size W u B → Calls Tryz.prog 10 #[u] W (DecGot 56 x 0 es W)) := Go.Lib.hid (fun u W hu => by
    have hp : decP bs [] = some es := by have := decP_enc es bs [] hbs (by show 0 + es.length ≤ 20000; omega); rwa [List.nil_append] at this
    rw [hB] at hu
    exact got_of hx hp hu (Nat.le_refl _) (encP_lt hbs) (by have := encP_len hbs; omega))
  clear hB hx hbs
  have hinfo : (Tryz.prog.info? 56).map (fun i => (i.zero, i.size, i.bytes)) = some (some (.agg #[.int .i64 0, .int .i64 0, .int .i64 0, .int .i64 0, .int .i64 0, .int .i64 0, .int .i64 0, .int .i64 0]), 8, 64) := by kernel_rfl
  obtain ⟨i0, hi0, hz0, hz1, hz2⟩ := info_parts hinfo
  have hund : Tryz.prog.underlying 30 = some (.slice 56) := by kernel_rfl
  have HTS : Hid (∀ i e, es[i]? = some e → (es.take (i + 1)).length = i + 1 ∧ ((es.take (i + 1)).map Ent.cells).flatten = ((es.take i).map Ent.cells).flatten ++ e.cells) := Go.Lib.hid (fun i e hi => by
    have hl := (List.getElem?_eq_some_iff.1 hi).1
    refine ⟨by rw [List.length_take]; omega, ?_⟩
    rw [List.take_succ_eq_append_getElem hl, List.map_append, List.flatten_append, (List.getElem?_eq_some_iff.1 hi).2]
    simp)
  have HGE : Hid (∀ i, i < es.length → ∃ e, es[i]? = some e) := Go.Lib.hid (fun i hi => ⟨_, List.getElem?_eq_getElem hi⟩)
  have HTA : Hid (es.take es.length = es) := Go.Lib.hid (List.take_length)
  have hl1 : ((es.length : Int) > 100) = False := by simp; omega
  have hl2 : ((100 : Int) < (es.length : Int)) = False := by simp; omega
  have HNN := Go.Lib.hid hn
  clear hn hes
  generalize hN : es.length = n at *
  have HN := Go.Lib.hid hN
  clear hN
  go_enter Tryz.func7, Tryz.ntmps7
  go_wp2_with fail
  generalize (w.alloc (.cells #[.int .i64 (x 0), .int .i64 (x 1), .int .i64 (x 2), .int .i64 (x 3), .int .i64 (x 4), .int .i64 (x 5), .int .i64 (x 6), .int .i64 (x 7), .int .i64 (x 8), .int .i64 (x 9), .int .i64 (x 10), .int .i64 (x 11), .int .i64 (x 12)] 23)) = W0 at *
  refine (law22_speaks _).mono ?_
  rintro e w1 ⟨rfl, hb1⟩
  have HB1 := Go.Lib.hid (HB0.out.trans (hb1.mono HB0.out.size))
  have HX1 := Go.Lib.hid (row_below hb1 HX0.out)
  have HK1 := Go.Lib.hid (KEs.below HK0.out (HB0.out.trans (hb1.mono HB0.out.size)))
  have hsw : w.heap.size < w1.heap.size := by
    have := HB0.out.size
    have h3 := heap_lt0 HX1.out
    exact h3
  clear hb1 HX0 HB0 HK0
  go_wp2_with fail
  go_loopw [5, 25] (fun u3 u9 wr => ∃ i : Nat, u9 = .int .i64 (i : Nat) ∧ i ≤ n ∧ wr.ownsRow w1.heap.size 56 8 u3 i ((es.take i).map Ent.cells).flatten ∧ Below w1.heap.size w1 wr) (fun _ i _ => n - (intOf i).toNat)
  case atStart => exact ⟨0, rfl, Nat.zero_le _, World.ownsRow_nil _ _ _ _, Below.refl _ _⟩
  case round =>
    obtain ⟨i, rfl, hi, hown, hbw⟩ := hrel
    obtain ⟨a10, c10, rfl⟩ := own_form hown
    have HOW := Go.Lib.hid hown
    have HBW := Go.Lib.hid hbw
    clear hown hbw
    by_cases hlt : i < n
    · obtain ⟨e, he⟩ := HGE.out i hlt
      obtain ⟨g, off, c', ee, hkg, hcell⟩ := KE.open HK1.out (by rw [HN.out]; omega)
      injection ee with e1 e2 e3
      clear e2
      subst e1
      subst e3
      obtain ⟨t1, t2⟩ := HTS.out i e he
      have HT2 := Go.Lib.hid t2
      obtain ⟨a0, a1, a2, a3, a4, a5, a6, a7⟩ := e
      have HC : Hid (∀ (j : Nat) (u : Value), (Ent.cells ⟨a0, a1, a2, a3, a4, a5, a6, a7⟩)[j]? = some u → wr.cell? ⟨g, off + i * 8 + j, none⟩ = some u) := Go.Lib.hid (fun j u hj => (HBW.out.cell (p := ⟨g, off + i * 8 + j, none⟩) hkg).trans (hcell i _ he j u hj))
      have c0 : wr.cell? ⟨g, off + i * 8, none⟩ = some (.int .i64 a0) := HC.out 0 _ rfl
      have c1 : wr.cell? ⟨g, off + i * 8 + 1, none⟩ = some (.int .i64 a1) := HC.out 1 _ rfl
      have c2 : wr.cell? ⟨g, off + i * 8 + 2, none⟩ = some (.int .i64 a2) := HC.out 2 _ rfl
      have c3 : wr.cell? ⟨g, off + i * 8 + 3, none⟩ = some (.int .i64 a3) := HC.out 3 _ rfl
      have c4 : wr.cell? ⟨g, off + i * 8 + 4, none⟩ = some (.int .i64 a4) := HC.out 4 _ rfl
      have c5 : wr.cell? ⟨g, off + i * 8 + 5, none⟩ = some (.int .i64 a5) := HC.out 5 _ rfl
      have c6 : wr.cell? ⟨g, off + i * 8 + 6, none⟩ = some (.int .i64 a6) := HC.out 6 _ rfl
      have c7 : wr.cell? ⟨g, off + i * 8 + 7, none⟩ = some (.int .i64 a7) := HC.out 7 _ rfl
      have hb1 : (0 : Int) ≤ (i : Int) := by omega
      have hb2 : (i : Int) < (n : Int) := by omega
      have hn9 : n ≤ 100 := HNN.out
      have HTO := Go.Lib.hid (fun W => law21_Of a0 a1 a2 a3 a4 a5 a6 a7 W)
      have HLT : Hid (i + 1 ≤ n) := Go.Lib.hid hlt
      clear t1 t2 he hcell
      go_wp2_with fail
      refine (HTO.out _).mono ?_
      rintro e w2 ⟨rfl, hb2'⟩
      have hba : Below wr.heap.size wr (wr.alloc (.cells #[.int .i64 a0, .int .i64 a1, .int .i64 a2, .int .i64 a3, .int .i64 a4, .int .i64 a5, .int .i64 a6, .int .i64 a7] 53)) := (Below.refl _ _).alloc (Nat.le_refl _) _
      have hbb := hba.trans (hb2'.mono hba.size)
      have HO2 := Go.Lib.hid (own_below HOW.out hbb)
      have HB2 := Go.Lib.hid (HBW.out.trans (hbb.mono HBW.out.size))
      have HSZ := Go.Lib.hid (HBW.out.trans (hbb.mono HBW.out.size)).size
      clear hba hbb hb2' c0 c1 c2 c3 c4 c5 c6 c7
      go_wp2_with (first
        | (at_builtin; refine wpList_append_own _ rfl _ _ 30 rfl w1.heap.size 56 i0 _ 8 64 hund hi0 hz0 hz1 hz2 rfl (by decide) _ i (((es.take i).map Ent.cells).flatten) rfl (HO2.out.alloc _) ⟨w2.heap.size, 0, none⟩ 1 1 [.int .i64 a0, .int .i64 a1, .int .i64 a2, .int .i64 a3, .int .i64 a4, .int .i64 a5, .int .i64 a6, .int .i64 a7] rfl rfl (World.news_of_block (cs := #[.int .i64 a0, .int .i64 a1, .int .i64 a2, .int .i64 a3, .int .i64 a4, .int .i64 a5, .int .i64 a6, .int .i64 a7]) (t := 56) (fr := (0, 0)) (heap_alloc_new _ _)) (by simp [Value.oneCell']) (by unfold maxLen; have := HNN.out; omega) (by have := HNN.out; omega) (by have := HSZ.out; rw [World.size_alloc]; omega) ?_; intro v6 w6 hown6 hgrow6 hnil6)
        | fail)
      have HO6 := Go.Lib.hid hown6
      have HB6 := Go.Lib.hid ((HB2.out.alloc HSZ.out _).grown hgrow6 (by have := HSZ.out; rw [World.size_alloc]; omega) (own_base (HO2.out.alloc (.cells #[.int .i64 a0, .int .i64 a1, .int .i64 a2, .int .i64 a3, .int .i64 a4, .int .i64 a5, .int .i64 a6, .int .i64 a7] 56))))
      clear hown6 hgrow6 hnil6
      have hn8 := HLT.out
      go_roundw
      case rel => exact ⟨i + 1, by go_num, HLT.out, by rw [HT2.out]; exact HO6.out, HB6.out⟩
      case measure => have := HLT.out; simp [intOf]; omega
    · have hiN : i = n := by omega
      subst hiN
      have hb1 : ((i : Int) < (i : Int)) = False := by simp
      have HK5 : Hid (KEs wr (.slice a10 i c10) es) := Go.Lib.hid (KEs.of (KE.own (by have := HOW.out; rw [HTA.out] at this; rw [HN.out]; exact this)))
      have HK6 := Go.Lib.hid (KEs.below HK1.out HBW.out)
      have HXR := Go.Lib.hid (row_below HBW.out HX1.out)
      have HBR := Go.Lib.hid (HB1.out.trans (HBW.out.mono HB1.out.size))
      have x0 : wr.cell? ⟨w.heap.size, 0, none⟩ = some (.int .i64 (x 0)) := cell_of_row _ _ _ _ _ _ HXR.out
      have x1 : wr.cell? ⟨w.heap.size, 1, none⟩ = some (.int .i64 (x 1)) := cell_of_row _ _ _ _ _ _ HXR.out
      have x2 : wr.cell? ⟨w.heap.size, 2, none⟩ = some (.int .i64 (x 2)) := cell_of_row _ _ _ _ _ _ HXR.out
      have x3 : wr.cell? ⟨w.heap.size, 3, none⟩ = some (.int .i64 (x 3)) := cell_of_row _ _ _ _ _ _ HXR.out
      have x4 : wr.cell? ⟨w.heap.size, 4, none⟩ = some (.int .i64 (x 4)) := cell_of_row _ _ _ _ _ _ HXR.out
      have x5 : wr.cell? ⟨w.heap.size, 5, none⟩ = some (.int .i64 (x 5)) := cell_of_row _ _ _ _ _ _ HXR.out
      have x6 : wr.cell? ⟨w.heap.size, 6, none⟩ = some (.int .i64 (x 6)) := cell_of_row _ _ _ _ _ _ HXR.out
      have x7 : wr.cell? ⟨w.heap.size, 7, none⟩ = some (.int .i64 (x 7)) := cell_of_row _ _ _ _ _ _ HXR.out
      have x8 : wr.cell? ⟨w.heap.size, 8, none⟩ = some (.int .i64 (x 8)) := cell_of_row _ _ _ _ _ _ HXR.out
      have x9 : wr.cell? ⟨w.heap.size, 9, none⟩ = some (.int .i64 (x 9)) := cell_of_row _ _ _ _ _ _ HXR.out
      have x10 : wr.cell? ⟨w.heap.size, 10, none⟩ = some (.int .i64 (x 10)) := cell_of_row _ _ _ _ _ _ HXR.out
      have x11 : wr.cell? ⟨w.heap.size, 11, none⟩ = some (.int .i64 (x 11)) := cell_of_row _ _ _ _ _ _ HXR.out
      have x12 : wr.cell? ⟨w.heap.size, 12, none⟩ = some (.int .i64 (x 12)) := cell_of_row _ _ _ _ _ _ HXR.out
      clear HOW HBW HX1 HB1 HK1 HTA HGE HTS
      go_wp2_with fail
      clear x0 x1 x2 x3 x4 x5 x6 x7 x8 x9 x10 x11 x12
      refine (law03_Of x _).mono ?_
      rintro e w3 ⟨rfl, hb3⟩
      replace HK5 := Go.Lib.hid (KEs.below HK5.out hb3)
      replace HK6 := Go.Lib.hid (KEs.below HK6.out hb3)
      replace HXR := Go.Lib.hid (row_below hb3 HXR.out)
      replace HBR := Go.Lib.hid (HBR.out.trans (hb3.mono HBR.out.size))
      clear hb3
      go_wp2_with fail
      refine (HE1.out _ _ HK5.out).mono ?_
      rintro e w4 ⟨v4, rfl, ho4, hb4⟩
      obtain ⟨s4, r4, rfl⟩ := own_form ho4
      have HO4 := Go.Lib.hid (KBb.own ho4)
      replace HK6 := Go.Lib.hid (KEs.below HK6.out hb4)
      replace HXR := Go.Lib.hid (row_below hb4 HXR.out)
      replace HBR := Go.Lib.hid (HBR.out.trans (hb4.mono HBR.out.size))
      clear hb4 ho4
      have x0 : w4.cell? ⟨w.heap.size, 0, none⟩ = some (.int .i64 (x 0)) := cell_of_row _ _ _ _ _ _ HXR.out
      have x1 : w4.cell? ⟨w.heap.size, 1, none⟩ = some (.int .i64 (x 1)) := cell_of_row _ _ _ _ _ _ HXR.out
      have x2 : w4.cell? ⟨w.heap.size, 2, none⟩ = some (.int .i64 (x 2)) := cell_of_row _ _ _ _ _ _ HXR.out
      have x3 : w4.cell? ⟨w.heap.size, 3, none⟩ = some (.int .i64 (x 3)) := cell_of_row _ _ _ _ _ _ HXR.out
      have x4 : w4.cell? ⟨w.heap.size, 4, none⟩ = some (.int .i64 (x 4)) := cell_of_row _ _ _ _ _ _ HXR.out
      have x5 : w4.cell? ⟨w.heap.size, 5, none⟩ = some (.int .i64 (x 5)) := cell_of_row _ _ _ _ _ _ HXR.out
      have x6 : w4.cell? ⟨w.heap.size, 6, none⟩ = some (.int .i64 (x 6)) := cell_of_row _ _ _ _ _ _ HXR.out
      have x7 : w4.cell? ⟨w.heap.size, 7, none⟩ = some (.int .i64 (x 7)) := cell_of_row _ _ _ _ _ _ HXR.out
      have x8 : w4.cell? ⟨w.heap.size, 8, none⟩ = some (.int .i64 (x 8)) := cell_of_row _ _ _ _ _ _ HXR.out
      have x9 : w4.cell? ⟨w.heap.size, 9, none⟩ = some (.int .i64 (x 9)) := cell_of_row _ _ _ _ _ _ HXR.out
      have x10 : w4.cell? ⟨w.heap.size, 10, none⟩ = some (.int .i64 (x 10)) := cell_of_row _ _ _ _ _ _ HXR.out
      have x11 : w4.cell? ⟨w.heap.size, 11, none⟩ = some (.int .i64 (x 11)) := cell_of_row _ _ _ _ _ _ HXR.out
      have x12 : w4.cell? ⟨w.heap.size, 12, none⟩ = some (.int .i64 (x 12)) := cell_of_row _ _ _ _ _ _ HXR.out
      go_wp2_with fail
      clear x0 x1 x2 x3 x4 x5 x6 x7 x8 x9 x10 x11 x12
      refine (HE2.out _ _ HK6.out).mono ?_
      rintro e w5 ⟨v5, rfl, ho5, hb5⟩
      obtain ⟨s5, r5, rfl⟩ := own_form ho5
      replace HO4 := Go.Lib.hid (KBb.go HO4.out hb5)
      replace HK6 := Go.Lib.hid (KEs.below HK6.out hb5)
      replace HXR := Go.Lib.hid (row_below hb5 HXR.out)
      replace HBR := Go.Lib.hid (HBR.out.trans (hb5.mono HBR.out.size))
      have hcv1 := conv_kb HO4.out HBP.out
      have hcv2 := conv_kb (KBb.own ho5) HBP.out
      have HD := Go.Lib.hid (HDE.out _ w5 HO4.out)
      clear hb5 ho5
      go_wp2_with fail
      clear hcv1 hcv2
      refine HD.out.mono ?_
      rintro e w7 ⟨v7, rfl, hke7, hb7⟩
      have hb8 : Below w7.heap.size w7 (w7.alloc (.cells #[.int .i64 (x 0), .int .i64 (x 1), .int .i64 (x 2), .int .i64 (x 3), .int .i64 (x 4), .int .i64 (x 5), .int .i64 (x 6), .int .i64 (x 7), .int .i64 (x 8), .int .i64 (x 9), .int .i64 (x 10), .int .i64 (x 11), .int .i64 (x 12)] 29)) := (Below.refl _ _).alloc (Nat.le_refl _) _
      have HK5 := Go.Lib.hid (((HK6.out.below hb7).below hb8).below (Below.refl _ _).drew)
      have HK7 := Go.Lib.hid (((KEs.of hke7).below hb8).below (Below.refl _ _).drew)
      have HQ7 := heap_alloc_new w7 (.cells #[.int .i64 (x 0), .int .i64 (x 1), .int .i64 (x 2), .int .i64 (x 3), .int .i64 (x 4), .int .i64 (x 5), .int .i64 (x 6), .int .i64 (x 7), .int .i64 (x 8), .int .i64 (x 9), .int .i64 (x 10), .int .i64 (x 11), .int .i64 (x 12)] 29)
      have HXX := row_below hb8 (row_below hb7 HXR.out)
      have HB8 := Go.Lib.hid (((hb7).trans (hb8.mono hb7.size)).drew)
      obtain ⟨p7, q7, rfl⟩ := id (KE.form hke7)
      clear hke7 hb7 hb8 HXR HD
      go_wp2_with fail
      generalize (w7.alloc (.cells #[.int .i64 (x 0), .int .i64 (x 1), .int .i64 (x 2), .int .i64 (x 3), .int .i64 (x 4), .int .i64 (x 5), .int .i64 (x 6), .int .i64 (x 7), .int .i64 (x 8), .int .i64 (x 9), .int .i64 (x 10), .int .i64 (x 11), .int .i64 (x 12)] 29)) = W8 at *
      generalize w7.heap.size = g7 at *
      have q0 : W8.cell? ⟨g7, 0, none⟩ = some (.int .i64 (x 0)) := cell_of_row _ _ _ _ _ _ HQ7
      have q1 : W8.cell? ⟨g7, 1, none⟩ = some (.int .i64 (x 1)) := cell_of_row _ _ _ _ _ _ HQ7
      have q2 : W8.cell? ⟨g7, 2, none⟩ = some (.int .i64 (x 2)) := cell_of_row _ _ _ _ _ _ HQ7
      have q3 : W8.cell? ⟨g7, 3, none⟩ = some (.int .i64 (x 3)) := cell_of_row _ _ _ _ _ _ HQ7
      have q4 : W8.cell? ⟨g7, 4, none⟩ = some (.int .i64 (x 4)) := cell_of_row _ _ _ _ _ _ HQ7
      have q5 : W8.cell? ⟨g7, 5, none⟩ = some (.int .i64 (x 5)) := cell_of_row _ _ _ _ _ _ HQ7
      have q6 : W8.cell? ⟨g7, 6, none⟩ = some (.int .i64 (x 6)) := cell_of_row _ _ _ _ _ _ HQ7
      have q7 : W8.cell? ⟨g7, 7, none⟩ = some (.int .i64 (x 7)) := cell_of_row _ _ _ _ _ _ HQ7
      have q8 : W8.cell? ⟨g7, 8, none⟩ = some (.int .i64 (x 8)) := cell_of_row _ _ _ _ _ _ HQ7
      have q9 : W8.cell? ⟨g7, 9, none⟩ = some (.int .i64 (x 9)) := cell_of_row _ _ _ _ _ _ HQ7
      have q10 : W8.cell? ⟨g7, 10, none⟩ = some (.int .i64 (x 10)) := cell_of_row _ _ _ _ _ _ HQ7
      have q11 : W8.cell? ⟨g7, 11, none⟩ = some (.int .i64 (x 11)) := cell_of_row _ _ _ _ _ _ HQ7
      have q12 : W8.cell? ⟨g7, 12, none⟩ = some (.int .i64 (x 12)) := cell_of_row _ _ _ _ _ _ HQ7
      have rg : W8.rangeAt w.heap.size 0 [.int .i64 (x 0), .int .i64 (x 1), .int .i64 (x 2), .int .i64 (x 3), .int .i64 (x 4), .int .i64 (x 5), .int .i64 (x 6), .int .i64 (x 7), .int .i64 (x 8), .int .i64 (x 9), .int .i64 (x 10), .int .i64 (x 11), .int .i64 (x 12)] := fun j u hj => by rw [Nat.zero_add, cell_of_row _ _ _ _ _ _ HXX]; simpa using hj
      clear HQ7 HXX
      have hu23 := Tryz.underlying23
      have hi23 : (Tryz.prog.info? 23).map (·.size) = some ([.int .i64 (x 0), .int .i64 (x 1), .int .i64 (x 2), .int .i64 (x 3), .int .i64 (x 4), .int .i64 (x 5), .int .i64 (x 6), .int .i64 (x 7), .int .i64 (x 8), .int .i64 (x 9), .int .i64 (x 10), .int .i64 (x 11), .int .i64 (x 12)] : List Value).length := by kernel_rfl
      have hl23 : ([.int .i64 (x 0), .int .i64 (x 1), .int .i64 (x 2), .int .i64 (x 3), .int .i64 (x 4), .int .i64 (x 5), .int .i64 (x 6), .int .i64 (x 7), .int .i64 (x 8), .int .i64 (x 9), .int .i64 (x 10), .int .i64 (x 11), .int .i64 (x 12)] : List Value).length = 13 := rfl
      have ho23 : ∀ u ∈ ([.int .i64 (x 0), .int .i64 (x 1), .int .i64 (x 2), .int .i64 (x 3), .int .i64 (x 4), .int .i64 (x 5), .int .i64 (x 6), .int .i64 (x 7), .int .i64 (x 8), .int .i64 (x 9), .int .i64 (x 10), .int .i64 (x 11), .int .i64 (x 12)] : List Value), u.oneCell' = true := by intro u hu; simp only [List.mem_cons, List.not_mem_nil, or_false] at hu; rcases hu with rfl | rfl | rfl | rfl | rfl | rfl | rfl | rfl | rfl | rfl | rfl | rfl | rfl <;> rfl
      go_region_held3 (fun w' => w'.cell? ⟨g7, 0, none⟩ = some (.int .i64 (x 0)) ∧ w'.cell? ⟨g7, 1, none⟩ = some (.int .i64 (x 1)) ∧ w'.cell? ⟨g7, 2, none⟩ = some (.int .i64 (x 2)) ∧ w'.cell? ⟨g7, 3, none⟩ = some (.int .i64 (x 3)) ∧ w'.cell? ⟨g7, 4, none⟩ = some (.int .i64 (x 4)) ∧ w'.cell? ⟨g7, 5, none⟩ = some (.int .i64 (x 5)) ∧ w'.cell? ⟨g7, 6, none⟩ = some (.int .i64 (x 6)) ∧ w'.cell? ⟨g7, 7, none⟩ = some (.int .i64 (x 7)) ∧ w'.cell? ⟨g7, 8, none⟩ = some (.int .i64 (x 8)) ∧ w'.cell? ⟨g7, 9, none⟩ = some (.int .i64 (x 9)) ∧ w'.cell? ⟨g7, 10, none⟩ = some (.int .i64 (x 10)) ∧ w'.cell? ⟨g7, 11, none⟩ = some (.int .i64 (x 11)) ∧ w'.cell? ⟨g7, 12, none⟩ = some (.int .i64 (x 12)) ∧ w'.rangeAt w.heap.size 0 [.int .i64 (x 0), .int .i64 (x 1), .int .i64 (x 2), .int .i64 (x 3), .int .i64 (x 4), .int .i64 (x 5), .int .i64 (x 6), .int .i64 (x 7), .int .i64 (x 8), .int .i64 (x 9), .int .i64 (x 10), .int .i64 (x 11), .int .i64 (x 12)])
        (first | exact ⟨q0, q1, q2, q3, q4, q5, q6, q7, q8, q9, q10, q11, q12, rg⟩)
        (first
          | (go_at_call 12; refine (law03_Of x _).mono ?_; rintro e wa ⟨rfl, hb⟩; have q0 := below_cell hb q0; have q1 := below_cell hb q1; have q2 := below_cell hb q2; have q3 := below_cell hb q3; have q4 := below_cell hb q4; have q5 := below_cell hb q5; have q6 := below_cell hb q6; have q7 := below_cell hb q7; have q8 := below_cell hb q8; have q9 := below_cell hb q9; have q10 := below_cell hb q10; have q11 := below_cell hb q11; have q12 := below_cell hb q12; have rg := below_range hb rg; have HK5 := Go.Lib.hid (HK5.out.below hb); have HK7 := Go.Lib.hid (HK7.out.below hb); have HB8 := Go.Lib.hid (HB8.out.trans (hb.mono HB8.out.size)))
          | (go_at_call 14; refine (law22_tos HK7.out (fun b hb => hb) (by have := HNN.out; rw [HN.out]; omega)).mono ?_; rintro e wb ⟨v8, rfl, ho, hb⟩; have HK8 := Go.Lib.hid (KEs.of (KE.own ho)); have q0 := below_cell hb q0; have q1 := below_cell hb q1; have q2 := below_cell hb q2; have q3 := below_cell hb q3; have q4 := below_cell hb q4; have q5 := below_cell hb q5; have q6 := below_cell hb q6; have q7 := below_cell hb q7; have q8 := below_cell hb q8; have q9 := below_cell hb q9; have q10 := below_cell hb q10; have q11 := below_cell hb q11; have q12 := below_cell hb q12; have rg := below_range hb rg; have HK5 := Go.Lib.hid (HK5.out.below hb); have HB8 := Go.Lib.hid (HB8.out.trans (hb.mono HB8.out.size)))
          | (go_at_call 13; refine (ref22_Same HK8.out HK5.out (by have := HNN.out; rw [HN.out]; omega)).mono ?_; rintro e wc ⟨rfl, hb⟩; have q0 := below_cell hb q0; have q1 := below_cell hb q1; have q2 := below_cell hb q2; have q3 := below_cell hb q3; have q4 := below_cell hb q4; have q5 := below_cell hb q5; have q6 := below_cell hb q6; have q7 := below_cell hb q7; have q8 := below_cell hb q8; have q9 := below_cell hb q9; have q10 := below_cell hb q10; have q11 := below_cell hb q11; have q12 := below_cell hb q12; have rg := below_range hb rg; have HB8 := Go.Lib.hid (HB8.out.trans (hb.mono HB8.out.size))))
      all_goals
        go_wp2
        go_ret
        exact ⟨rfl, HBR.out.trans (HB8.out.mono HBR.out.size)⟩
theorem law22_ScriptTells (x : Nat → Int) (es : List Ent) (v : Value) (w : World) (h : KEs w v es) (hes : ∀ e ∈ es, EntR e) :
    Calls Tryz.prog 7 #[.agg #[.int .i64 (x 0), .int .i64 (x 1), .int .i64 (x 2), .int .i64 (x 3), .int .i64 (x 4), .int .i64 (x 5), .int .i64 (x 6), .int .i64 (x 7), .int .i64 (x 8), .int .i64 (x 9), .int .i64 (x 10), .int .i64 (x 11), .int .i64 (x 12)], v] w fun e w' => e = .returned (.bool true) ∧ Below w.heap.size w w' := by
  by_cases hn : es.length ≤ 100
  · by_cases hk : encK x es = 0
    · by_cases hx : okI x
      · cases hbs : encP es with
        | none => unfold encK at hk; rw [if_pos hx, if_pos hbs] at hk; cases hk
        | some bs => exact tells_yes x es hes hn hx bs hbs v w h
      · unfold encK at hk; rw [if_neg hx] at hk; cases hk
    · exact tells_no x es hes hn hk v w h
  · exact tells_long x es v w h hn
end Go.Proofs.YtdemhabgaimnmaaGreatDoor
/- What a row's proof opens: a configuration that came in; facts on the program. -/
namespace Go.Proofs.YtdemhabgaimnmaaGreatDoor
open Go.ChangeShapes Go.WideShapes Go.ChangeAt Go.RowKit
set_option maxRecDepth 100000

theorem prog_own : ownKnob Tryz.prog.godebug = none := by kernel_rfl
theorem prog_laidOut : laidOutB Tryz.prog = true := by kernel_rfl

/-- A configuration that came in is thirteen numbers. -/
theorem config_open {W : World} {r : Reach} {base : Nat} {v : Value} (h : Value.okWide Tryz.prog W r base 23 v) :
    ∃ x : Nat → Int, v = .agg #[.int .i64 (x 0), .int .i64 (x 1), .int .i64 (x 2), .int .i64 (x 3), .int .i64 (x 4), .int .i64 (x 5), .int .i64 (x 6), .int .i64 (x 7), .int .i64 (x 8), .int .i64 (x 9), .int .i64 (x 10), .int .i64 (x 11), .int .i64 (x 12)] := by
  have ht : Tryz.prog.cellTypes Tryz.prog.depth 23 = some (List.replicate 13 3) := by kernel_rfl
  have hn : Tryz.prog.cellsOf 23 = 13 := by kernel_rfl
  simp only [Value.okWide, Tryz.underlying23] at h
  obtain ⟨cs, rfl, hsz, ts, hts, _, hc⟩ := h
  rw [hn] at hsz
  obtain rfl : ts = List.replicate 13 3 := by rw [ht] at hts; exact (Option.some.inj hts).symm
  refine ⟨fun i => intOf (cs.getD i .nilFunc), ?_⟩
  have key : ∀ i, (hi : i < 13) → cs.getD i .nilFunc = .int .i64 (intOf (cs.getD i .nilFunc)) := by
    intro i hi
    have hg : cs[i]? = some (cs.getD i .nilFunc) := by
      rw [Array.getD_eq_getD_getElem?]
      simp [hsz, hi]
    obtain ⟨u, hu, hok⟩ := hc i _ hg
    have hu' : u = 3 := by
      rw [List.getElem?_replicate] at hu
      split at hu
      · exact (Option.some.inj hu).symm
      · cases hu
    subst hu'
    generalize cs.getD i .nilFunc = y at hok ⊢
    unfold Cell.okWide at hok
    simp only [Tryz.underlying3] at hok
    unfold Cell.ok at hok
    simp only [Tryz.underlying3] at hok
    cases y <;> simp_all [intOf]
  have e : cs = Array.ofFn (n := 13) fun i => cs.getD i.val .nilFunc := by
    apply Array.ext
    · simp [hsz]
    · intro i h1 h2
      simp [Array.getD, h1]
  have e2 : cs = Array.ofFn (n := 13) fun i => .int .i64 (intOf (cs.getD i.val .nilFunc)) := by
    conv => lhs; rw [e]
    congr 1
    funext i
    exact key i.val i.isLt
  conv => lhs; rw [e2]
  rfl
end Go.Proofs.YtdemhabgaimnmaaGreatDoor
/- Bytes among a law's arguments. -/
namespace Go.Proofs.YtdemhabgaimnmaaGreatDoor
open Go.ChangeShapes Go.WideShapes Go.ChangeAt Go.RowKit
set_option maxRecDepth 100000

section
variable {H : Type} {enc : TypeId × Value → H} {W : World} {base : Nat} {spare : Nat → Bool} {held : Bool}
theorem spot_none {r : Reach} {b0 : Nat} {t e : TypeId} {a : Addr} {n c : Nat} (ht : Tryz.prog.underlying t = some (.slice e)) (h : Value.okWide Tryz.prog W r b0 t (.slice (some a) n c)) : a.spot = none := by
  simp only [Value.okWide, ht, Cell.okWide, Cell.ok] at h
  exact h.2.2.2.1
end
end Go.Proofs.YtdemhabgaimnmaaGreatDoor
/- Entries among a law's arguments. -/
namespace Go.Proofs.YtdemhabgaimnmaaGreatDoor
open Go.ChangeShapes Go.WideShapes Go.ChangeAt Go.RowKit Go.Deep
set_option maxRecDepth 100000

section
variable {H : Type} {enc : TypeId × Value → H} {W : World} {base : Nat} {spare : Nat → Bool} {held : Bool}
theorem entry_cells {fuel : Nat} {cs : List Value} {x : DataW H × List MemPlace} (h : DataW.trod enc Tryz.prog W base spare held fuel 53 cs = some x) :
    ∃ e : Ent, cs = e.cells ∧ EntR e := by
  obtain ⟨xs, n, _, rfl, hl, hlen, hf⟩ := DataW.trod_struct Tryz.underlying53 h
  have hn : Tryz.prog.cellsOf 53 = 8 := by kernel_rfl
  have h1 : Tryz.prog.cellsOf 3 = 1 := by kernel_rfl
  have h2 : Tryz.prog.cellsOf 51 = 2 := by kernel_rfl
  rw [hn] at hl
  match xs, hlen, cs, hl with
  | [y0, y1, y2, y3, y4, y5, y6], _, [v0, v1, v2, v3, v4, v5, v6, v7], _ =>
    have g0 : DataW.trod enc Tryz.prog W base spare held n 3 (List.take (Tryz.prog.cellsOf 3) [v0, v1, v2, v3, v4, v5, v6, v7]) = some y0 := hf 0 _ rfl
    have g1 : DataW.trod enc Tryz.prog W base spare held n 3 (List.take (Tryz.prog.cellsOf 3) [v1, v2, v3, v4, v5, v6, v7]) = some y1 := hf 1 _ rfl
    have g2 : DataW.trod enc Tryz.prog W base spare held n 3 (List.take (Tryz.prog.cellsOf 3) [v2, v3, v4, v5, v6, v7]) = some y2 := hf 2 _ rfl
    have g3 : DataW.trod enc Tryz.prog W base spare held n 51 (List.take (Tryz.prog.cellsOf 51) [v3, v4, v5, v6, v7]) = some y3 := hf 3 _ rfl
    have g5 : DataW.trod enc Tryz.prog W base spare held n 3 (List.take (Tryz.prog.cellsOf 3) [v5, v6, v7]) = some y4 := hf 4 _ rfl
    have g6 : DataW.trod enc Tryz.prog W base spare held n 3 (List.take (Tryz.prog.cellsOf 3) [v6, v7]) = some y5 := hf 5 _ rfl
    have g7 : DataW.trod enc Tryz.prog W base spare held n 3 (List.take (Tryz.prog.cellsOf 3) [v7]) = some y6 := hf 6 _ rfl
    rw [h1] at g0 g1 g2 g5 g6 g7
    rw [h2] at g3
    obtain ⟨n0, e0, _, k0⟩ := DataW.trod_int Tryz.underlying3 (x := y0) (cs := [v0]) g0
    obtain ⟨n1, e1, _, k1⟩ := DataW.trod_int Tryz.underlying3 (x := y1) (cs := [v1]) g1
    obtain ⟨n2, e2, _, k2⟩ := DataW.trod_int Tryz.underlying3 (x := y2) (cs := [v2]) g2
    obtain ⟨a1, a2, m, _, _, q1, q2⟩ := trod_struct2 Tryz.underlying51 (x := y3) (cs := [v3, v4]) g3
    replace q1 : DataW.trod enc Tryz.prog W base spare held m 3 (List.take (Tryz.prog.cellsOf 3) [v3, v4]) = some a1 := q1
    replace q2 : DataW.trod enc Tryz.prog W base spare held m 3 (List.take (Tryz.prog.cellsOf 3) [v4]) = some a2 := q2
    rw [h1] at q1 q2
    obtain ⟨n3, e3, _, k3⟩ := DataW.trod_int Tryz.underlying3 (x := a1) (cs := [v3]) q1
    obtain ⟨n4, e4, _, k4⟩ := DataW.trod_int Tryz.underlying3 (x := a2) (cs := [v4]) q2
    obtain ⟨n5, e5, _, k5⟩ := DataW.trod_int Tryz.underlying3 (x := y4) (cs := [v5]) g5
    obtain ⟨n6, e6, _, k6⟩ := DataW.trod_int Tryz.underlying3 (x := y5) (cs := [v6]) g6
    obtain ⟨n7, e7, _, k7⟩ := DataW.trod_int Tryz.underlying3 (x := y6) (cs := [v7]) g7
    injection e0 with e0
    injection e1 with e1
    injection e2 with e2
    injection e3 with e3
    injection e4 with e4
    injection e5 with e5
    injection e6 with e6
    injection e7 with e7
    subst e0 e1 e2 e3 e4 e5 e6 e7
    refine ⟨⟨n0, n1, n2, n3, n4, n5, n6, n7⟩, rfl, fun i hi hj => ?_⟩
    have k3 := bounds_i64 k3
    have k4 := bounds_i64 k4
    have k5 := bounds_i64 k5
    have k6 := bounds_i64 k6
    have k7 := bounds_i64 k7
    match i, hi, hj with
    | 3, _, _ => show _ ≤ n3 ∧ n3 < _; omega
    | 4, _, _ => show _ ≤ n4 ∧ n4 < _; omega
    | 5, _, _ => show _ ≤ n5 ∧ n5 < _; omega
    | 6, _, _ => show _ ≤ n6 ∧ n6 < _; omega
    | 7, _, _ => show _ ≤ n7 ∧ n7 < _; omega
instance : Inhabited Ent := ⟨⟨0, 0, 0, 0, 0, 0, 0, 0⟩⟩
theorem entries_openK {v : Value} {r : Reach} {b0 : Nat} (hv : Value.okWide Tryz.prog W r b0 34 v) {fuel : Nat} {x : DataW H × List MemPlace} (h : DataW.trod enc Tryz.prog W base spare held fuel 34 [v] = some x) :
    ∃ es : List Ent, KEs W v es ∧ ∀ e ∈ es, EntR e := by
  have hn : Tryz.prog.cellsOf 53 = 8 := by kernel_rfl
  rcases open_slice Tryz.underlying34 h with ⟨hc, _⟩ | ⟨a, len, cap, m, n, D, Pl, hc, _, hl, _, hm, _, hx⟩
  · injection hc with hc _
    subst hc
    refine ⟨[], ⟨⟨none, 0, rfl, fun i r hi => by cases hi⟩, fun a n c e hn => absurd rfl hn, fun n c e => (by cases e; rfl), fun p n c e => (by cases e; exact Nat.le_refl _)⟩, fun d hd => by cases hd⟩
  · injection hc with hc _
    subst hc
    obtain ⟨g, off, sp⟩ := a
    obtain rfl : sp = none := spot_none Tryz.underlying34 hv
    have hadd : ∀ i, (⟨g, off, none⟩ : Addr).add i = ⟨g, off + i, none⟩ := by
      intro i
      unfold Addr.add
      split
      · rename_i e; subst e; rfl
      · rfl
    have hlm : len ≤ m := by rw [hm]; split <;> omega
    have each : ∀ i, i < len → ∃ d : Ent, (∀ (j : Nat) (u : Value), d.cells[j]? = some u → W.cell? ⟨g, off + i * 8 + j, none⟩ = some u) ∧ EntR d := by
      intro i hi
      obtain ⟨cs', h1, h2⟩ := hx i (by omega)
      rw [hn] at h1
      obtain ⟨hl8, _, hcell⟩ := World.cells?_some h1
      obtain ⟨d, rfl, hw⟩ := entry_cells h2
      refine ⟨d, fun j u hj => ?_, hw⟩
      have hj8 : j < 8 := (List.getElem?_eq_some_iff.1 hj).1
      have := hcell j hj8
      rw [hj, hadd] at this
      have e2 : ∀ j, (⟨g, off + i * 8, none⟩ : Addr).add j = ⟨g, off + i * 8 + j, none⟩ := by
        intro j
        unfold Addr.add
        split
        · rename_i e; subst e; rfl
        · rfl
      rw [e2] at this
      exact this
    obtain ⟨f, hf⟩ := choose_lt each
    have hll : ((List.range len).map f).length = len := by rw [List.length_map, List.length_range]
    refine ⟨(List.range len).map f, ⟨⟨some ⟨g, off, none⟩, cap, by rw [List.length_map, hll], fun i r hi => ?_⟩, fun a' n c e hn => ?_, fun n c e => (by cases e), fun p n c e => (by cases e; exact hl)⟩, fun d hd => ?_⟩
    · rw [List.getElem?_map, List.getElem?_map] at hi
      by_cases hlt : i < len
      · rw [List.getElem?_range hlt] at hi
        cases hi
        exact ⟨g, off, rfl, fun j u hj => (hf i hlt).1 j u hj⟩
      · rw [List.getElem?_eq_none (by rw [List.length_range]; omega)] at hi
        cases hi
    · cases e
      have h0 : 0 < len := by
        rcases Nat.eq_zero_or_pos len with q | q
        · subst q; exact absurd rfl hn
        · exact q
      exact cell_lt ((hf 0 h0).1 0 _ rfl)
    · obtain ⟨i, hi, rfl⟩ := List.mem_map.1 hd
      exact (hf i (List.mem_range.1 hi)).2
end
end Go.Proofs.YtdemhabgaimnmaaGreatDoor
