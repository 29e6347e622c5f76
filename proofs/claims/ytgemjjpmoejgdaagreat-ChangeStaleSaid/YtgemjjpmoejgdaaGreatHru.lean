/- Deeds in memory; deeds as Starts, Cancels and Rearms. -/
import Derived.Test.YtgemjjpmoejgdaaGreatHrt
import Derived.Deep.RegionHeld3
namespace Go.Proofs.YtgemjjpmoejgdaaGreat
open Go.RowKit
set_option maxRecDepth 100000
set_option linter.unusedVariables false

theorem Env.toDidP {t : Nat} {L L' : Lab} {w w' : World} {env : List (Nat × List Value)} (h : Env L w env) (hx : DidP (TP t) L w L' w') : Env L' w' env := fun p hp =>
  ⟨(hx.lab _ (h p hp).2.1).trans (h p hp).1, Nat.lt_of_lt_of_le (h p hp).2.1 hx.size, fun i v hi => hx.cell ((h p hp).2.2 i v hi) (by rw [(h p hp).1]; unfold TP; omega)⟩
/-- A deed's cells at an address. -/
structure DeedAt (w : World) (a : Addr) (d : DeedR) : Prop where
  c0 : w.cell? a = some (.int .i64 d.op)
  c1 : w.cell? ⟨a.block, a.off + 1, none⟩ = some (.int .i64 d.hn)
  c2 : w.cell? ⟨a.block, a.off + 2, none⟩ = some (.int .i64 d.hg)
  c3 : w.cell? ⟨a.block, a.off + 3, none⟩ = some (.int .i64 d.time)
  c4 : w.cell? ⟨a.block, a.off + 4, none⟩ = some (.int .i64 d.arg)
  c5 : w.cell? ⟨a.block, a.off + 5, none⟩ = some (.int .i64 d.user)
/-- A slice of deeds. -/
def DeedsRow (w : World) (v : Value) (ds : List DeedR) : Prop := ∃ p c, v = .slice p ds.length c ∧ ∀ i d, ds[i]? = some d → ∃ a, p = some a ∧ DeedAt w (a.add (i * 6)) d
/-- A slice of slices of deeds. -/
def DeedsTab (w : World) (base : Nat) (v : Value) (dss : List (List DeedR)) : Prop := ∃ p c, v = .slice p dss.length c ∧ ∀ i ds, dss[i]? = some ds → ∃ a u, p = some a ∧ w.cell? (a.add i) = some u ∧ DeedsRow w u ds ∧ ∀ g, u.ownBlock = some g → base ≤ g
theorem add_block (a : Addr) (n : Nat) : (a.add n).block = a.block := by unfold Addr.add; split <;> rfl
theorem DeedAt.lt {w : World} {a : Addr} {d : DeedR} (h : DeedAt w a d) : a.block < w.heap.size := cell_lt h.c0
theorem DeedAt.mono {w w' : World} {a : Addr} {d : DeedR} (h : DeedAt w a d) (hb : w'.heap[a.block]? = w.heap[a.block]?) : DeedAt w' a d :=
  ⟨(World.cell?_of_block hb).trans h.c0, (World.cell?_of_block (a := ⟨a.block, a.off + 1, none⟩) hb).trans h.c1, (World.cell?_of_block (a := ⟨a.block, a.off + 2, none⟩) hb).trans h.c2, (World.cell?_of_block (a := ⟨a.block, a.off + 3, none⟩) hb).trans h.c3, (World.cell?_of_block (a := ⟨a.block, a.off + 4, none⟩) hb).trans h.c4, (World.cell?_of_block (a := ⟨a.block, a.off + 5, none⟩) hb).trans h.c5⟩
theorem DeedsRow.mono {w w' : World} {v : Value} {ds : List DeedR} (h : DeedsRow w v ds) (hb : ∀ g, v.ownBlock = some g → g < w.heap.size → w'.heap[g]? = w.heap[g]?) : DeedsRow w' v ds := by
  obtain ⟨p, c, rfl, h1⟩ := h
  refine ⟨p, c, rfl, fun i d hi => ?_⟩
  obtain ⟨a, rfl, h2⟩ := h1 i d hi
  refine ⟨a, rfl, h2.mono ?_⟩
  have hlt := h2.lt
  rw [add_block] at hlt ⊢
  exact hb a.block rfl hlt
theorem DeedsRow.below {w w' : World} {v : Value} {ds : List DeedR} (h : DeedsRow w v ds) (hb : Below w.heap.size w w') : DeedsRow w' v ds := h.mono fun g _ hlt => hb.block g hlt
theorem DeedsTab.below {w w' : World} {base : Nat} {v : Value} {dss : List (List DeedR)} (h : DeedsTab w base v dss) (hb : Below w.heap.size w w') : DeedsTab w' base v dss := by
  obtain ⟨p, c, rfl, h1⟩ := h
  refine ⟨p, c, rfl, fun i ds hi => ?_⟩
  obtain ⟨a, u, rfl, h2, h3, h4⟩ := h1 i ds hi
  exact ⟨a, u, rfl, below_cell hb h2, h3.below hb, h4⟩
/-- A slice of deeds that is nobody's. -/
def DeedsRowL (L : Lab) (w : World) (v : Value) (ds : List DeedR) : Prop := ∃ p c, v = .slice p ds.length c ∧ ∀ i d, ds[i]? = some d → ∃ a, p = some a ∧ L a.block = 0 ∧ DeedAt w (a.add (i * 6)) d
theorem DeedsRow.lab {L : Lab} {w : World} {v : Value} {ds : List DeedR} (h : DeedsRow w v ds) (hl : ∀ g, v.ownBlock = some g → L g = 0) : DeedsRowL L w v ds := by
  obtain ⟨p, c, rfl, h1⟩ := h
  refine ⟨p, c, rfl, fun i d hi => ?_⟩
  obtain ⟨a, rfl, h2⟩ := h1 i d hi
  exact ⟨a, rfl, hl a.block rfl, h2⟩
theorem DeedsRowL.didP {t : Nat} {L L' : Lab} {w w' : World} {v : Value} {ds : List DeedR} (h : DeedsRowL L w v ds) (hd : DidP (TP t) L w L' w') : DeedsRowL L' w' v ds := by
  obtain ⟨p, c, rfl, h1⟩ := h
  refine ⟨p, c, rfl, fun i d hi => ?_⟩
  obtain ⟨a, rfl, h0, h2⟩ := h1 i d hi
  have hlt := h2.lt
  rw [add_block] at hlt
  exact ⟨a, rfl, (hd.lab _ hlt).trans h0, h2.mono (by rw [add_block]; exact hd.block _ hlt (by rw [h0]; unfold TP; omega))⟩
theorem DeedsRowL.below {L : Lab} {w w' : World} {v : Value} {ds : List DeedR} (h : DeedsRowL L w v ds) (hb : Below w.heap.size w w') : DeedsRowL L w' v ds := by
  obtain ⟨p, c, rfl, h1⟩ := h
  refine ⟨p, c, rfl, fun i d hi => ?_⟩
  obtain ⟨a, rfl, h0, h2⟩ := h1 i d hi
  exact ⟨a, rfl, h0, h2.mono (hb.block _ h2.lt)⟩
/-- A deed as a Start, a Cancel or a Rearm. -/
def fix3 (d : DeedR) : DeedR := if d.op ≠ 1 ∧ d.op ≠ 3 then { d with op := 2 } else d
theorem row_flat : ∀ (ds : List DeedR) (i : Nat) (d : DeedR), ds[i]? = some d → ∀ k, k < 6 → (ds.flatMap DeedR.cells)[i * 6 + k]? = d.cells[k]?
  | [], i, d, h, _, _ => by simp at h
  | x :: ds, 0, d, h, k, hk => by
    obtain rfl : x = d := by simpa using h
    rw [List.flatMap_cons, Nat.zero_mul, Nat.zero_add, List.getElem?_append_left (by show k < 6; exact hk)]
  | x :: ds, i + 1, d, h, k, hk => by
    have e2 : (i + 1) * 6 + k = 6 + (i * 6 + k) := by omega
    rw [List.flatMap_cons, e2, List.getElem?_append_right (show 6 ≤ 6 + (i * 6 + k) from Nat.le_add_right _ _)]
    show (ds.flatMap DeedR.cells)[6 + (i * 6 + k) - 6]? = _
    rw [Nat.add_sub_cancel_left]
    exact row_flat ds i d (by simpa using h) k hk
/-- A slice that is one's own holds its deeds. -/
theorem row_own {w : World} {base : Nat} {e : TypeId} {v : Value} {ds : List DeedR} (h : w.ownsRow base e 6 v ds.length (ds.flatMap DeedR.cells)) : DeedsRow w v ds := by
  obtain ⟨a, cap, rfl⟩ := own_form h
  rcases h.2 with ⟨e0, hn⟩ | ⟨g, cap', cur, e0, _, hb, h1, h2, h3, h4⟩
  · injection e0 with e1 e2 e3
    subst e1
    refine ⟨none, cap, by rw [hn], fun i d hi => ?_⟩
    have : ds = [] := List.length_eq_zero_iff.1 hn
    subst this
    simp at hi
  · injection e0 with e1 e2 e3
    subst e1
    refine ⟨some ⟨g, 0, none⟩, cap, by subst e3; rfl, fun i d hi => ⟨_, rfl, ?_⟩⟩
    have hil : i < ds.length := (List.getElem?_eq_some_iff.1 hi).1
    have hc : ∀ k, k < 6 → w.cell? ⟨g, i * 6 + k, none⟩ = d.cells[k]? := fun k hk => by
      rw [cell_of_row _ _ _ _ _ _ hb, ← row_flat ds i d hi k hk, ← h4, List.getElem?_take, if_pos (by omega)]
      simp
    have e' : (⟨g, 0, none⟩ : Addr).add (i * 6) = ⟨g, i * 6, none⟩ := by
      unfold Addr.add
      split <;> simp_all
    rw [e']
    exact ⟨hc 0 (by decide), hc 1 (by decide), hc 2 (by decide), hc 3 (by decide), hc 4 (by decide), hc 5 (by decide)⟩
set_option maxHeartbeats 4000000 in
theorem three_any (dss : List (List DeedR)) (v0 : Value) (w : World) (hin : DeedsTab w 0 v0 dss) (hn : dss.length ≤ 1000) (hns : ∀ ds ∈ dss, ds.length ≤ 1000) :
    Calls Tryz.prog 52 #[v0] w fun e w' => ∃ v, e = .returned v ∧ DeedsTab w' w.heap.size v (dss.map fun ds => ds.map fix3) ∧ Below w.heap.size w w' := by
  have hinfo : (Tryz.prog.info? 38).map (fun i => (i.zero, i.size, i.bytes)) = some (some (.agg #[.int .i64 0, .int .i64 0, .int .i64 0, .int .i64 0, .int .i64 0, .int .i64 0]), 6, 48) := by kernel_rfl
  have hund : Tryz.prog.underlying 24 = some (.slice 38) := by kernel_rfl
  obtain ⟨i0, hi0, hz0, hz1, hz2⟩ := info_parts hinfo
  have hinfo' : (Tryz.prog.info? 24).map (fun i => (i.zero, i.size, i.bytes)) = some (some (.slice none 0 0), 1, 24) := by kernel_rfl
  have hund' : Tryz.prog.underlying 97 = some (.slice 24) := by kernel_rfl
  obtain ⟨i1, hj0, hk0, hk1, hk2⟩ := info_parts hinfo'
  obtain ⟨p, c, rfl, htab⟩ := hin
  have HT := Go.Lib.hid htab
  clear htab
  go_enter Tryz.func52, Tryz.ntmps52
  go_wp2
  go_loopw [3, 5, 6, 8, 11] (fun out _ _ _ idx wr => ∃ (j : Nat) (vs : List Value), idx = .int .i64 j ∧ j ≤ dss.length ∧ vs.length = j ∧ wr.ownsRow w.heap.size 24 1 out j vs ∧ (∀ (i : Nat) (u : Value) (ds : List DeedR), vs[i]? = some u → dss[i]? = some ds → DeedsRow wr u (ds.map fix3)) ∧ (∀ u ∈ vs, ∀ g, u.ownBlock = some g → w.heap.size ≤ g ∧ g < wr.heap.size ∧ out.ownBlock ≠ some g) ∧ Below w.heap.size w wr) (fun _ _ _ _ idx _ => dss.length - (intOf idx).toNat)
  case atStart => exact ⟨0, [], rfl, Nat.zero_le _, rfl, World.ownsRow_nil _ _ _ _, fun i u ds h _ => (by simp at h), fun u h => (by cases h), Below.refl _ _⟩
  case round =>
    obtain ⟨j, vs, rfl, hj, hvl, hown, hrows, hblk, hbl⟩ := hrel
    generalize wr = wr0 at *
    have HB := Go.Lib.hid hbl; have HO := Go.Lib.hid hown; have HR := Go.Lib.hid hrows; have HK := Go.Lib.hid hblk; have HV := Go.Lib.hid hvl; have HJ := Go.Lib.hid hj
    by_cases hlt : j < dss.length
    · have hj1 : (0 : Int) ≤ (j : Int) := by omega
      have hj2 : (j : Int) < (dss.length : Int) := by omega
      have hge : dss[j]? = some dss[j] := List.getElem?_eq_getElem hlt
      generalize hdsq : dss[j] = ds at *
      obtain ⟨a, u, rfl, hcu, hru, _⟩ := HT.out j ds hge
      have q0 := below_cell hbl hcu
      have hru' := hru.below hbl
      obtain ⟨p2, c2, rfl, hin2⟩ := id hru'
      have HI := Go.Lib.hid hin2
      clear hbl hown hrows hblk hvl hj hru hru' hin2 hcu
      go_wp2
      have HDL : Hid (ds.length ≤ 1000) := Go.Lib.hid (hns ds (List.mem_of_getElem? hge))
      go_loopw [6, 8, 17] (fun own _ idx wr2 => ∃ (i : Nat), idx = .int .i64 i ∧ i ≤ ds.length ∧ wr2.ownsRow wr0.heap.size 38 6 own i (((ds.take i).map fix3).flatMap DeedR.cells) ∧ Below wr0.heap.size wr0 wr2) (fun _ _ idx _ => ds.length - (intOf idx).toNat)
      case atStart => exact ⟨0, rfl, Nat.zero_le _, World.ownsRow_nil _ _ _ _, Below.refl _ _⟩
      case round =>
        obtain ⟨i, rfl, hi, hown2, hb2⟩ := hrel
        by_cases hil : i < ds.length
        · have hi1 : (0 : Int) ≤ (i : Int) := by omega
          have hi2 : (i : Int) < (ds.length : Int) := by omega
          have hgi : ds[i]? = some ds[i] := List.getElem?_eq_getElem hil
          have htk : ((ds.take (i + 1)).map fix3).flatMap DeedR.cells = ((ds.take i).map fix3).flatMap DeedR.cells ++ (fix3 ds[i]).cells := by
            rw [List.take_add_one, hgi, List.map_append, List.flatMap_append]
            simp
          generalize ds[i] = d at *
          obtain ⟨a2, rfl, hda⟩ := HI.out i d hgi
          have hda' := hda.mono (hb2.block _ hda.lt)
          obtain ⟨c0, c1, c2, c3, c4, c5⟩ := hda'
          obtain ⟨op, hn', hg', tm, arg, us⟩ := d
          dsimp only at c0 c1 c2 c3 c4 c5
          have HTK := Go.Lib.hid htk; have HO2 := Go.Lib.hid hown2; have HB2 := Go.Lib.hid hb2; have hlen := HDL.out
          clear htk hown2 hb2 hgi hda
          by_cases h1 : op = 1
          · subst h1
            have hfx : (fix3 ⟨1, hn', hg', tm, arg, us⟩).cells = [.int .i64 1, .int .i64 hn', .int .i64 hg', .int .i64 tm, .int .i64 arg, .int .i64 us] := by unfold fix3; rw [if_neg (fun q => q.1 rfl)]; rfl
            have hnw : ∀ j u, ([.int .i64 1, .int .i64 hn', .int .i64 hg', .int .i64 tm, .int .i64 arg, .int .i64 us] : List Value)[j]? = some u → ((wr.alloc (.cells #[.int .i64 1, .int .i64 hn', .int .i64 hg', .int .i64 tm, .int .i64 arg, .int .i64 us] 38)).alloc (.cells #[.int .i64 1, .int .i64 hn', .int .i64 hg', .int .i64 tm, .int .i64 arg, .int .i64 us] 38)).cell? ((⟨wr.heap.size + 1, 0, none⟩ : Addr).add j) = some u := World.news_of_block (cs := #[.int .i64 1, .int .i64 hn', .int .i64 hg', .int .i64 tm, .int .i64 arg, .int .i64 us]) (t := 38) (fr := (0, 0)) (by have := heap_alloc_new (wr.alloc (.cells #[.int .i64 1, .int .i64 hn', .int .i64 hg', .int .i64 tm, .int .i64 arg, .int .i64 us] 38)) (.cells #[.int .i64 1, .int .i64 hn', .int .i64 hg', .int .i64 tm, .int .i64 arg, .int .i64 us] 38); simpa using this)
            have HFX := Go.Lib.hid hfx; have HNW := Go.Lib.hid hnw
            clear hfx hnw
            go_wp2_with (at_builtin; refine wpList_append_own _ rfl _ _ 24 rfl wr0.heap.size 38 i0 _ 6 48 hund hi0 hz0 hz1 hz2 rfl (by decide) _ _ _ rfl ((HO2.out.alloc _).alloc _) ⟨wr.heap.size + 1, 0, none⟩ 1 1 [.int .i64 1, .int .i64 hn', .int .i64 hg', .int .i64 tm, .int .i64 arg, .int .i64 us] rfl rfl HNW.out (by simp [Value.oneCell']) (by unfold maxLen; omega) (by omega) (by have := HB2.out.size; simp; omega) ?_; intro v1 w1 hown1 hgrow1 hnil1; have hb4 : Below wr0.heap.size wr0 w1 := ((HB2.out.alloc HB2.out.size _).alloc (by have := HB2.out.size; simp; omega) _).grown hgrow1 (by have := HB2.out.size; simp; omega) (fun k h => own_ge HO2.out h))
            go_roundw
            case rel =>
              refine ⟨i + 1, by first | rfl | simp, by omega, ?_, hb4⟩
              rw [HTK.out, HFX.out]
              exact hown1
            case measure => simp [intOf]; omega
          · by_cases h3 : op = 3
            · subst h3
              have hfx : (fix3 ⟨3, hn', hg', tm, arg, us⟩).cells = [.int .i64 3, .int .i64 hn', .int .i64 hg', .int .i64 tm, .int .i64 arg, .int .i64 us] := by unfold fix3; rw [if_neg (fun q => q.2 rfl)]; rfl
              have hnw : ∀ j u, ([.int .i64 3, .int .i64 hn', .int .i64 hg', .int .i64 tm, .int .i64 arg, .int .i64 us] : List Value)[j]? = some u → ((wr.alloc (.cells #[.int .i64 3, .int .i64 hn', .int .i64 hg', .int .i64 tm, .int .i64 arg, .int .i64 us] 38)).alloc (.cells #[.int .i64 3, .int .i64 hn', .int .i64 hg', .int .i64 tm, .int .i64 arg, .int .i64 us] 38)).cell? ((⟨wr.heap.size + 1, 0, none⟩ : Addr).add j) = some u := World.news_of_block (cs := #[.int .i64 3, .int .i64 hn', .int .i64 hg', .int .i64 tm, .int .i64 arg, .int .i64 us]) (t := 38) (fr := (0, 0)) (by have := heap_alloc_new (wr.alloc (.cells #[.int .i64 3, .int .i64 hn', .int .i64 hg', .int .i64 tm, .int .i64 arg, .int .i64 us] 38)) (.cells #[.int .i64 3, .int .i64 hn', .int .i64 hg', .int .i64 tm, .int .i64 arg, .int .i64 us] 38); simpa using this)
              have HFX := Go.Lib.hid hfx; have HNW := Go.Lib.hid hnw
              clear hfx hnw
              go_wp2_with (at_builtin; refine wpList_append_own _ rfl _ _ 24 rfl wr0.heap.size 38 i0 _ 6 48 hund hi0 hz0 hz1 hz2 rfl (by decide) _ _ _ rfl ((HO2.out.alloc _).alloc _) ⟨wr.heap.size + 1, 0, none⟩ 1 1 [.int .i64 3, .int .i64 hn', .int .i64 hg', .int .i64 tm, .int .i64 arg, .int .i64 us] rfl rfl HNW.out (by simp [Value.oneCell']) (by unfold maxLen; omega) (by omega) (by have := HB2.out.size; simp; omega) ?_; intro v1 w1 hown1 hgrow1 hnil1; have hb4 : Below wr0.heap.size wr0 w1 := ((HB2.out.alloc HB2.out.size _).alloc (by have := HB2.out.size; simp; omega) _).grown hgrow1 (by have := HB2.out.size; simp; omega) (fun k h => own_ge HO2.out h))
              go_roundw
              case rel =>
                refine ⟨i + 1, by first | rfl | simp, by omega, ?_, hb4⟩
                rw [HTK.out, HFX.out]
                exact hown1
              case measure => simp [intOf]; omega
            · have hfx : (fix3 ⟨op, hn', hg', tm, arg, us⟩).cells = [.int .i64 2, .int .i64 hn', .int .i64 hg', .int .i64 tm, .int .i64 arg, .int .i64 us] := by unfold fix3; rw [if_pos ⟨h1, h3⟩]; rfl
              have hnw : ∀ j u, ([.int .i64 2, .int .i64 hn', .int .i64 hg', .int .i64 tm, .int .i64 arg, .int .i64 us] : List Value)[j]? = some u → ((wr.alloc (.cells #[.int .i64 2, .int .i64 hn', .int .i64 hg', .int .i64 tm, .int .i64 arg, .int .i64 us] 38)).alloc (.cells #[.int .i64 2, .int .i64 hn', .int .i64 hg', .int .i64 tm, .int .i64 arg, .int .i64 us] 38)).cell? ((⟨wr.heap.size + 1, 0, none⟩ : Addr).add j) = some u := World.news_of_block (cs := #[.int .i64 2, .int .i64 hn', .int .i64 hg', .int .i64 tm, .int .i64 arg, .int .i64 us]) (t := 38) (fr := (0, 0)) (by have := heap_alloc_new (wr.alloc (.cells #[.int .i64 2, .int .i64 hn', .int .i64 hg', .int .i64 tm, .int .i64 arg, .int .i64 us] 38)) (.cells #[.int .i64 2, .int .i64 hn', .int .i64 hg', .int .i64 tm, .int .i64 arg, .int .i64 us] 38); simpa using this)
              have HFX := Go.Lib.hid hfx; have HNW := Go.Lib.hid hnw
              clear hfx hnw
              have d1 : (op != 1) = true := by simp [h1]
              have d3 : (op != 3) = true := by simp [h3]
              clear h1 h3
              go_wp2_with (at_builtin; refine wpList_append_own _ rfl _ _ 24 rfl wr0.heap.size 38 i0 _ 6 48 hund hi0 hz0 hz1 hz2 rfl (by decide) _ _ _ rfl ((HO2.out.alloc _).alloc _) ⟨wr.heap.size + 1, 0, none⟩ 1 1 [.int .i64 2, .int .i64 hn', .int .i64 hg', .int .i64 tm, .int .i64 arg, .int .i64 us] rfl rfl HNW.out (by simp [Value.oneCell']) (by unfold maxLen; omega) (by omega) (by have := HB2.out.size; simp; omega) ?_; intro v1 w1 hown1 hgrow1 hnil1; have hb4 : Below wr0.heap.size wr0 w1 := ((HB2.out.alloc HB2.out.size _).alloc (by have := HB2.out.size; simp; omega) _).grown hgrow1 (by have := HB2.out.size; simp; omega) (fun k h => own_ge HO2.out h))
              go_roundw
              case rel =>
                refine ⟨i + 1, by first | rfl | simp, by omega, ?_, hb4⟩
                rw [HTK.out, HFX.out]
                exact hown1
              case measure => simp [intOf]; omega
        · have hil' : i = ds.length := by omega
          subst hil'
          have hi2 : ((ds.length : Int) < (ds.length : Int)) = False := by simp
          rw [List.take_length] at hown2
          obtain ⟨sa, sc, rfl⟩ := own_form hown2
          have hlen2 : (ds.map fix3).length = ds.length := List.length_map ..
          have hrow := row_own (ds := ds.map fix3) (by rw [hlen2]; exact hown2)
          have hout2 := own_kept HO.out (fun g hg => hb2.block g (own_lt HO.out hg))
          have HRW := Go.Lib.hid hrow; have HOW := Go.Lib.hid hout2; have HW2 := Go.Lib.hid hown2; have HB2 := Go.Lib.hid hb2
          clear hrow hout2 hown2 hb2 hi
          have hjl := HJ.out
          go_wp2_with (at_builtin; (refine wpList_append_lies _ rfl _ _ 97 rfl w.heap.size 24 i1 _ 1 24 hund' hj0 hk0 hk1 hk2 rfl (by decide) _ _ _ rfl (HOW.out.alloc _) ⟨wr.heap.size, 0, none⟩ 1 1 [.slice sa ds.length sc] rfl rfl (cell_one_new _ _ _) (by intro u hu; simp at hu; subst hu; rfl) (by decide) (by unfold maxLen; omega) (by omega) (by have := HB.out.size; have := HB2.out.size; simp; omega) _ rfl ?_); intro gg cap w1 hown1 hgrow hat hlt2)
          go_roundw
          case rel =>
            have hsz := hgrow.size
            have hs2 := HB2.out.size
            have hs0 := HB.out.size
            rw [World.size_alloc] at hsz hat
            have hb4 : Below w.heap.size w w1 := ((HB.out.trans (HB2.out.mono hs0)).alloc (by omega) _).grown hgrow (by simp; omega) (fun k h => own_ge HOW.out h)
            refine ⟨j + 1, vs ++ [.slice sa ds.length sc], by first | rfl | simp, by omega, by simp [HV.out], hown1, ?_, ?_, hb4⟩
            · intro i' u ds' hu hd
              by_cases hij : i' < vs.length
              · rw [List.getElem?_append_left hij] at hu
                have hr := (HR.out i' u ds' hu hd).below HB2.out
                refine hr.mono fun g hg hlt => ?_
                have hk := HK.out u (List.mem_of_getElem? hu) g hg
                exact ((hgrow.block g (by simp; omega) (fun q => hk.2.2 q.symm)).trans (((Below.refl wr.heap.size wr).alloc (Nat.le_refl _) _).block g hlt))
              · have hi' : i' = j := by
                  have := (List.getElem?_eq_some_iff.1 hu).1
                  rw [List.length_append, List.length_singleton] at this
                  have := HV.out
                  omega
                subst hi'
                rw [List.getElem?_append_right (by omega)] at hu
                have hdq : ds' = ds := by rw [hge] at hd; exact (Option.some.inj hd).symm
                subst hdq
                have hu' : u = .slice sa ds'.length sc := by simp [HV.out] at hu; exact hu.symm
                subst hu'
                refine HRW.out.mono fun g hg hlt => ?_
                have h1 := own_ge HW2.out hg
                exact ((hgrow.block g (by simp; omega) (fun q => by have := own_lt HO.out q.symm; omega)).trans (((Below.refl wr.heap.size wr).alloc (Nat.le_refl _) _).block g hlt))
            · intro u hu g hg
              rcases List.mem_append.1 hu with hu | hu
              · have hk := HK.out u hu g hg
                refine ⟨hk.1, by omega, fun q => ?_⟩
                have hq : gg = g := by simpa [Value.ownBlock] using q
                subst hq
                rcases hat with h | h
                · exact hk.2.2 h
                · omega
              · obtain rfl : u = .slice sa ds.length sc := by simpa using hu
                have h1 := own_ge HW2.out hg
                have h2 := own_lt HW2.out hg
                refine ⟨by omega, by omega, fun q => ?_⟩
                have hq : gg = g := by simpa [Value.ownBlock] using q
                subst hq
                rcases hat with h | h
                · have := own_lt HO.out h; omega
                · omega
          case measure => simp [intOf]; omega
    · have hj' : j = dss.length := by omega
      subst hj'
      have hi2 : ((dss.length : Int) < (dss.length : Int)) = False := by simp
      clear hbl hown hrows hblk hvl hj
      go_wp2
      go_ret
      refine ⟨_, rfl, ?_, HB.out⟩
      obtain ⟨oa, oc, hoa⟩ := own_form HO.out
      have HO2 := HO.out
      show DeedsTab wr0 w.heap.size u3 _
      rw [hoa] at HO2 ⊢
      refine ⟨oa, oc, by rw [List.length_map], fun i ds' hi => ?_⟩
      rw [List.getElem?_map] at hi
      rcases hd : dss[i]? with _ | ds0
      · rw [hd] at hi; cases hi
      · rw [hd] at hi
        obtain rfl : ds0.map fix3 = ds' := Option.some.inj hi
        have hil := (List.getElem?_eq_some_iff.1 hd).1
        have hvi : i < vs.length := by rw [HV.out]; exact hil
        have hge : vs[i]? = some vs[i] := List.getElem?_eq_getElem hvi
        have hrow := HR.out i vs[i] ds0 hge hd
        rcases HO2.2 with ⟨e0, hn0⟩ | ⟨g, cap', cur, e0, _, hb, h1, h2, h3, h4⟩
        · omega
        · injection e0 with e1 e2 e3
          subst e1
          refine ⟨_, vs[i], rfl, ?_, hrow, fun g hg => (HK.out vs[i] (List.getElem_mem hvi) g hg).1⟩
          have e' : (⟨g, 0, none⟩ : Addr).add i = ⟨g, i, none⟩ := by
            unfold Addr.add
            split <;> simp_all
          rw [e', cell_of_row _ _ _ _ _ _ hb, ← hge, ← h4, List.getElem?_take, if_pos (by omega)]
          simp
end Go.Proofs.YtgemjjpmoejgdaaGreat
/- The example of chapter 17. -/
namespace Go.Proofs.YtgemjjpmoejgdaaGreat
open Go.RowKit
set_option maxRecDepth 100000
set_option linter.unusedVariables false

/-- A caller's continuation of a Bool: it puts it behind a slice of its own. -/
def gotR (b : Nat) (ty : TypeId) : Unit → Arg → St → St × Option (K (PR Unit))
  | _, .b y, S => match S.sl with
    | some s => if s.b = b ∧ s.o = 0 ∧ s.ty = ty ∧ s.sz = 1 ∧ s.n ≤ 1000 then ({ S with sl := some { s with n := s.n + 1, xs := s.xs ++ [.bool y] } }, none) else (S.burst, none)
    | none => (S.burst, none)
  | _, _, S => (S, none)
theorem gotR_mono (b : Nat) (ty : TypeId) : ∀ (r : Unit) (a : Arg) (S : St), S.cnt ≤ (gotR b ty r a S).1.cnt ∧ S.log.length ≤ (gotR b ty r a S).1.log.length := by
  intro r a S
  have hb : S.cnt ≤ S.burst.cnt := by unfold St.burst; dsimp only; omega
  unfold gotR
  split
  · split
    · split <;> first | exact ⟨Nat.le_refl _, Nat.le_refl _⟩ | exact ⟨hb, Nat.le_refl _⟩
    · exact ⟨hb, Nat.le_refl _⟩
  · exact ⟨Nat.le_refl _, Nat.le_refl _⟩
theorem gotR_b {b : Nat} {ty : TypeId} {S : St} {n : Nat} {xs : List Value} (y : Bool) (h : S.sl = some ⟨b, 0, ty, 1, n, xs⟩) (hn : n ≤ 1000) : gotR b ty () (.b y) S = ({ S with sl := some ⟨b, 0, ty, 1, n + 1, xs ++ [.bool y]⟩ }, none) := by
  unfold gotR
  simp only [h]
  rw [if_pos ⟨trivial, trivial, trivial, trivial, hn⟩]
theorem gotR_he (b : Nat) (ty : TypeId) (n g e : Int) (S : St) : gotR b ty () (.he n g e) S = (S, none) := rfl
theorem gotRS_mono (c : Cf) (b : Nat) (ty : TypeId) : RMono (prApp c (gotR b ty)) := prApp_mono c (gotR b ty) (gotR_mono b ty)
set_option maxHeartbeats 1000000 in
theorem law17_sp1 {E : G} {t n : Nat} {L : Lab} {w : World} (b : Nat) :
    ConSim E.cf (prApp E.cf (gotR b 4)) E t isB n L w (.func (.func 148) #[] #[.pointer (some ⟨b, 0, none⟩)]) (.ret (.user ())) := by
  refine ⟨_, _, rfl, enters_of Tryz.func148 (by kernel_rfl) rfl, ?_⟩
  intro a L' w' S ha hx hg hbd
  cases a with
  | b y =>
    rw [app_ret, prApp_user] at hbd ⊢
    by_cases hp : ∃ k xs, S.sl = some ⟨b, 0, 4, 1, k, xs⟩ ∧ k ≤ 1000
    · obtain ⟨k, xs, hsl, hk⟩ := hp
      rw [gotR_b y hsl hk]
      have hinfo : (Tryz.prog.info? 4).map (fun i => (i.zero, i.size, i.bytes)) = some (some (.bool false), 1, 1) := by kernel_rfl
      have hund : Tryz.prog.underlying 192 = some (.slice 4) := by kernel_rfl
      obtain ⟨i0, hi0, hz0, hz1, hz2⟩ := info_parts hinfo
      obtain ⟨hsa, _⟩ := hg.sv _ hsl
      obtain ⟨sv, hc, hown, hl⟩ := hsa.ex
      have hf := hsa.fz
      have hlb := hsa.lb
      have hlt := cell_lt hc
      dsimp only at hc hown hf hlb hlt
      have hne : sv.ownBlock ≠ some b := fun h => by have := hl _ h; omega
      have HG := Go.Lib.hid hg; have HL := Go.Lib.hid hl; have HOWN := Go.Lib.hid hown; have HS := Go.Lib.hid hsl; have HC := Go.Lib.hid hc
      show Calls _ _ #[_, _] _ _
      clear hg hbd hx ha hsa hl hown hsl
      go_enter Tryz.func148, Tryz.ntmps148
      go_wp2_with (at_builtin; refine wpList_append_lies _ rfl _ _ 192 rfl 0 4 i0 (.bool false) 1 1 hund hi0 hz0 hz1 hz2 rfl (by decide) sv k xs rfl (HOWN.out.alloc _) ⟨w'.heap.size, 0, none⟩ 1 1 [.bool y] rfl rfl (cell_one_new _ _ _) (by intro u hu; simp at hu; subst hu; rfl) (by decide) (by unfold maxLen; omega) (by omega) (Nat.zero_le _) _ rfl ?_; intro gg cap w2 hown1 hgrow hat hlt2; have k3 : w2.cell? ⟨b, 0, none⟩ = some sv := (hgrow.cell_far ⟨b, 0, none⟩ (by simp; omega) (Ne.symm hne)).trans (by go_simp); have k4 : w2.frozen? ⟨b, 0, none⟩ = false := (hgrow.frozen_far ⟨b, 0, none⟩ (by simp; omega) (Ne.symm hne)).trans (by go_simp))
      go_ret
      have hgs := HG.out.sled HS.out ((Below.refl _ _).alloc (Nat.le_refl _) _) HC.out HL.out gg cap hown1 hgrow hat hlt2
      refine ⟨_, _, rfl, hgs.2.did t, hgs.1, ?_⟩
      cases n with
      | zero => trivial
      | succ n => rfl
    · have : gotR b 4 () (.b y) S = (S.burst, none) := by
        unfold gotR
        dsimp only
        split
        · rename_i s hs
          rw [if_neg]
          rintro ⟨h1, h2, h3, h4, h5⟩
          refine hp ⟨s.n, s.xs, ?_, h5⟩
          obtain ⟨b', o', ty', sz', n', xs'⟩ := s
          dsimp only at h1 h2 h3 h4
          subst h1; subst h2; subst h3; subst h4
          exact hs
        · rfl
      rw [this] at hbd
      exact (St.burst_no hbd).elim
  | _ => exact absurd ha (by simp [isB])
set_option maxHeartbeats 1000000 in
theorem law17_sp2 {E : G} {t n : Nat} {L : Lab} {w : World} (b : Nat) (ty : TypeId) :
    ConSim E.cf (prApp E.cf (gotR b ty)) E t isHe n L w (.func (.func 149) #[] #[]) (.ret (.user ())) := by
  refine ⟨_, _, rfl, enters_of Tryz.func149 (by kernel_rfl) rfl, ?_⟩
  intro a L' w' S ha hx hg hbd
  cases a with
  | he nn gg ee =>
    rw [app_ret, prApp_user, gotR_he] at hbd ⊢
    have hb : Below w'.heap.size w' (w'.alloc (.cells #[.int .i64 nn, .int .i64 gg] 46)) := (Below.refl _ _).alloc (Nat.le_refl _) _
    have HG := Go.Lib.hid (hg.below hb)
    have HD := Go.Lib.hid (below_did hb t L')
    show Calls _ _ #[_, _] _ _
    clear hg hbd hx ha
    go_enter Tryz.func149, Tryz.ntmps149
    go_wp2
    go_ret
    refine ⟨_, L', rfl, HD.out, HG.out, ?_⟩
    cases n with
    | zero => trivial
    | succ n => rfl
  | _ => exact absurd ha (by simp [isHe])
/-- The three codes of the example, one after the other. -/
def sp17 (b : Nat) (ty : TypeId) : St := { S0 c16 with sl := some ⟨b, 0, ty, 1, 0, []⟩ }
theorem sp17_runs (b : Nat) (ty : TypeId) : ∃ m1 S1 m2 S2 m3 S3, m1 ≤ 80 ∧ RunsF c16 (prApp c16 (gotR b ty)) (startK c16 0 5 0 0 (.user ())) (sp17 b ty) m1 S1 ∧ m2 ≤ 80 ∧ RunsF c16 (prApp c16 (gotR b ty)) (cancelK c16 0 0 1 (.user ())) S1 m2 S2 ∧
    m3 ≤ 80 ∧ RunsF c16 (prApp c16 (gotR b ty)) (cancelK c16 0 0 1 (.user ())) S2 m3 S3 ∧ S3.sl = some ⟨b, 0, ty, 1, 2, [.bool true, .bool false]⟩ := by
  have ht : 8 * c16.tickets + 17 = 33 := rfl
  obtain ⟨d1, T1, fn1, ft1, bx1, _, h2, hr1, hn1, hg1, hs1, hc1, ⟨e1, hl1⟩, hrun1⟩ := (start_rel (R0 := gotR b ty) (k := .user ()) (wk := 0) (ticks := 5) (shard := 0) (user := 0) (S := sp17 b ty) c16_ok rfl (rel_fresh c16_ok) (by decide)).runs (gotRS_mono c16 b ty)
  have hl1' : T1.log.length = 1 := by rw [hl1]; rfl
  have hc1' : T1.cnt ≤ 33 := by have : T1.cnt ≤ 0 + d1 := hc1; omega
  obtain ⟨m1, _, hm1, r1⟩ := hrun1 T1 (gotR_he _ _ _ _ _ _) ⟨by omega, by omega⟩
  obtain ⟨d2, T2, fn2, ft2, bx2, _, h4, hr2, hn2, hg2, hs2, hc2, ⟨e2, hl2⟩, hrun2⟩ := (cancel_rel (R0 := gotR b ty) (k := .user ()) (w := 0) (n := 0) (g := 1) (S := T1) c16_ok (hn1.trans rfl) hr1).runs (gotRS_mono c16 b ty)
  have hsl2 : T2.sl = some ⟨b, 0, ty, 1, 0, []⟩ := hs2.trans hs1
  have hl2' : T2.log.length = 2 := by rw [hl2, List.length_append, hl1']; rfl
  have hc2' : T2.cnt ≤ 66 := by omega
  have hy2 : (cancelR (startR c16.slack (freshR c16) 5 0 0).1 0 1).2 = true := by decide
  rw [hy2] at hrun2
  obtain ⟨m2, _, hm2, r2⟩ := hrun2 _ (gotR_b true hsl2 (by omega)) ⟨by show T2.cnt ≤ _; omega, by show T2.log.length ≤ _; omega⟩
  obtain ⟨d3, T3, fn3, ft3, bx3, _, h6, hr3, hn3, hg3, hs3, hc3, ⟨e3, hl3⟩, hrun3⟩ := (cancel_rel (R0 := gotR b ty) (k := .user ()) (w := 0) (n := 0) (g := 1) (S := { T2 with sl := some ⟨b, 0, ty, 1, 1, [] ++ [.bool true]⟩ }) c16_ok (hn2.trans (hn1.trans rfl)) hr2).runs (gotRS_mono c16 b ty)
  have hl3' : T3.log.length = 3 := by rw [hl3, List.length_append]; show T2.log.length + 1 = 3; omega
  have hc3' : T3.cnt ≤ 99 := by have : T3.cnt ≤ T2.cnt + d3 := hc3; omega
  have hy3 : (cancelR (cancelR (startR c16.slack (freshR c16) 5 0 0).1 0 1).1 0 1).2 = false := by decide
  rw [hy3] at hrun3
  obtain ⟨m3, _, hm3, r3⟩ := hrun3 _ (gotR_b false hs3 (by omega)) ⟨by show T3.cnt ≤ _; omega, by show T3.log.length ≤ _; omega⟩
  exact ⟨m1, T1, m2, _, m3, _, by omega, r1, by omega, r2, by omega, r3, rfl⟩
set_option maxHeartbeats 8000000 in
theorem law17_speaks (w : World) : Calls Tryz.prog 51 #[] w fun e w' => e = .returned (.bool true) ∧ Below w.heap.size w w' := by
  have HN : Hid (∀ w, Calls Tryz.prog 75 #[.agg #[.int .i64 1, .int .i64 1, .int .i64 1, .int .i64 2, .int .i64 2, .int .i64 0, .int .i64 0, .int .i64 0, .int .i64 1, .int .i64 1, .int .i64 1, .int .i64 0, .int .i64 0]] w fun e w' => ∃ E L, e = .returned (.tuple #[.pointer (some ⟨E.k, 0, none⟩), .int .i64 0]) ∧ Born c16 w E L w') := fun w => core_new c16 c16_ok w
  go_enter Tryz.func51, Tryz.ntmps51
  go_wp2_with fail
  refine (HN.out _).mono ?_
  rintro e w1 ⟨E, L, rfl, hborn⟩
  obtain ⟨hcf, hg, hbl, hold, hnr, hek⟩ := hborn
  obtain ⟨k, p, a, cc, cf⟩ := E
  obtain rfl : cf = c16 := hcf
  -- the slice, its variable, the handle
  have hb1 : Below w1.heap.size w1 (((w1.alloc (.cells #[] 4)).alloc (.cells #[.slice (some ⟨w1.heap.size, 0, none⟩) 0 0] 192)).alloc (.cells #[.int .i64 0, .int .i64 1] 46)) := (((Below.refl _ _).alloc (Nat.le_refl _) _).alloc (by simp) _).alloc (by simp; omega) _
  have hg1 := hg.below hb1
  have q1 : (((w1.alloc (.cells #[] 4)).alloc (.cells #[.slice (some ⟨w1.heap.size, 0, none⟩) 0 0] 192)).alloc (.cells #[.int .i64 0, .int .i64 1] 46)).cell? ⟨w1.heap.size + 1, 0, none⟩ = some (.slice (some ⟨w1.heap.size, 0, none⟩) 0 0) := by go_simp
  -- REGION7
  have HL1 : Hid (∀ b, L b ≠ 0 → (fun b => if b = w1.heap.size then 6 else if b = w1.heap.size + 1 then 5 else L b) b = L b) := by
    refine Go.Lib.hid fun b hb => ?_
    have hlt : b < w1.heap.size := by
      rcases Nat.lt_or_ge b w1.heap.size with h | h
      · exact h
      · exact absurd (hg.new b h) hb
    dsimp only
    rw [if_neg (by omega), if_neg (by omega)]
  have HLP : (fun b => if b = w1.heap.size then 6 else if b = w1.heap.size + 1 then 5 else L b) p = 0 := by
    have h1 := cell_lt hg.pl.c0
    have h2 := hg.lp
    dsimp only at h1 h2 ⊢
    rw [if_neg (by omega), if_neg (by omega)]
    exact h2
  have hs1 : (w1.alloc (.cells #[] 4)).heap.size = w1.heap.size + 1 := by simp
  have hA : (w1.alloc (.cells #[] 4)).heap[w1.heap.size]? = some (.cells #[] 4) := heap_alloc_new _ _
  have hbA : Below (w1.heap.size + 1) (w1.alloc (.cells #[] 4)) (((w1.alloc (.cells #[] 4)).alloc (.cells #[.slice (some ⟨w1.heap.size, 0, none⟩) 0 0] 192)).alloc (.cells #[.int .i64 0, .int .i64 1] 46)) := ((Below.refl _ _).alloc (by simp) _).alloc (by simp) _
  have hA2 : (((w1.alloc (.cells #[] 4)).alloc (.cells #[.slice (some ⟨w1.heap.size, 0, none⟩) 0 0] 192)).alloc (.cells #[.int .i64 0, .int .i64 1] 46)).heap[w1.heap.size]? = some (.cells #[] 4) := (hbA.block _ (by omega)).trans hA
  have hfB : ((w1.alloc (.cells #[] 4)).alloc (.cells #[.slice (some ⟨w1.heap.size, 0, none⟩) 0 0] 192)).frozen? ⟨w1.heap.size + 1, 0, none⟩ = false := by
    rw [← hs1]
    simp
  have hbB : Below (w1.heap.size + 2) ((w1.alloc (.cells #[] 4)).alloc (.cells #[.slice (some ⟨w1.heap.size, 0, none⟩) 0 0] 192)) (((w1.alloc (.cells #[] 4)).alloc (.cells #[.slice (some ⟨w1.heap.size, 0, none⟩) 0 0] 192)).alloc (.cells #[.int .i64 0, .int .i64 1] 46)) := (Below.refl _ _).alloc (by simp) _
  have hfz : (((w1.alloc (.cells #[] 4)).alloc (.cells #[.slice (some ⟨w1.heap.size, 0, none⟩) 0 0] 192)).alloc (.cells #[.int .i64 0, .int .i64 1] 46)).frozen? ⟨w1.heap.size + 1, 0, none⟩ = false := (hbB.frozen (p := ⟨w1.heap.size + 1, 0, none⟩) (by show w1.heap.size + 1 < _; omega)).trans hfB
  have hgs := hg1.newSl HL1.out HLP (fun b hb => by simp at hb; show (if b = w1.heap.size then 6 else if b = w1.heap.size + 1 then 5 else L b) = 0; rw [if_neg (by omega), if_neg (by omega)]; exact hg.new b (by omega)) ⟨w1.heap.size + 1, 0, 4, 1, 0, []⟩ ⟨hfz, by simp, .slice (some ⟨w1.heap.size, 0, none⟩) 0 0, q1, ?_, fun g hg => by simp [Value.ownBlock] at hg; subst hg; simp⟩ (by simp [S0])
  rotate_left
  · exact ⟨by simp, .inr ⟨w1.heap.size, 0, #[], rfl, Nat.zero_le _, hA2, by simp, by simp, by simp, by simp⟩⟩
  have HG1 := Go.Lib.hid hgs
  have hE1 : Env (fun b => if b = w1.heap.size then 6 else if b = w1.heap.size + 1 then 5 else L b) (((w1.alloc (.cells #[] 4)).alloc (.cells #[.slice (some ⟨w1.heap.size, 0, none⟩) 0 0] 192)).alloc (.cells #[.int .i64 0, .int .i64 1] 46)) [(w1.heap.size + 1 + 1, [.int .i64 0, .int .i64 1])] := (Env.nil _ _).cons (by show (if _ then 6 else if _ then 5 else L _) = 0; rw [if_neg (by omega), if_neg (by omega)]; exact hg.new _ (by omega)) (by simp) (by intro i v hi; match i, hi with | 0, hi => (obtain rfl := Option.some.inj hi; go_simp) | 1, hi => (obtain rfl := Option.some.inj hi; go_simp))
  have HE1 := Go.Lib.hid hE1
  have HB1 := Go.Lib.hid (hbl.trans (hb1.mono hbl.size))
  have HOLD0 := Go.Lib.hid hold; have HSZ1 := Go.Lib.hid hbl.size
  obtain ⟨m1, S1, m2, S2, m3, S3, h1, r1, h2, r2, h3, r3, hsl3⟩ := sp17_runs (w1.heap.size + 1) 4
  have HM1 := Go.Lib.hid h1; have HM2 := Go.Lib.hid h2; have HM3 := Go.Lib.hid h3; have HR1 := Go.Lib.hid r1; have HR2 := Go.Lib.hid r2; have HR3 := Go.Lib.hid r3; have HSL := Go.Lib.hid hsl3
  clear hgs hE1 HL1 HLP h1 h2 h3 r1 r2 r3 hsl3 hg hbl hold hnr hek HN hg1 hb1 q1 hs1 hA hbA hA2 hfB hbB hfz
  go_wp2
  generalize (((w1.alloc (.cells #[] 4)).alloc (.cells #[.slice (some ⟨w1.heap.size, 0, none⟩) 0 0] 192)).alloc (.cells #[.int .i64 0, .int .i64 1] 46)) = W1 at *
  generalize hLq : (fun b => if b = w1.heap.size then 6 else if b = w1.heap.size + 1 then 5 else L b) = L1 at *
  have HOLD1 : Hid (∀ b, b < w.heap.size → L1 b = 0) := Go.Lib.hid (fun b hb => by have := HSZ1.out; rw [← hLq]; dsimp only; rw [if_neg (by omega), if_neg (by omega)]; exact HOLD0.out b hb)
  clear hLq HOLD0 HSZ1
  generalize w1.heap.size + 1 + 1 = hb at *
  generalize w1.heap.size + 1 = ob at *
  have HRM := Go.Lib.hid (gotRS_mono c16 ob 4)
  have e0 : W1.cell? ⟨hb, 0, none⟩ = some (.int .i64 0) := HE1.out.cell 0 0 rfl rfl
  have e1 : W1.cell? ⟨hb, 1, none⟩ = some (.int .i64 1) := HE1.out.cell 0 1 rfl rfl
  go_region_held3 (fun w' => w'.cell? ⟨hb, 0, none⟩ = some (.int .i64 0) ∧ w'.cell? ⟨hb, 1, none⟩ = some (.int .i64 1))
    (first | exact ⟨e0, e1⟩ | exact ⟨below_cell ((Below.refl _ _).alloc (Nat.le_refl _) _) e0, below_cell ((Below.refl _ _).alloc (Nat.le_refl _) _) e1⟩)
    (first
    | (go_at_call 65; have hd3' := hd3; refine (cancel_any (t := 2) (m := 90) (wk := 0) (n := 0) (g := 1) HRM.out hg3 (law17_sp1 (n := 90) ob) (by decide)).mono ?_; rintro e w4 ⟨v3, L4, rfl, hd4, hg4, hc4⟩; obtain ⟨f3, cap3, rfl, _, _⟩ := id hc4; have hE4 := hE3.did hd4; have e0 : w4.cell? ⟨hb, 0, none⟩ = some (.int .i64 0) := hE4.cell 0 0 rfl rfl; have e1 : w4.cell? ⟨hb, 1, none⟩ = some (.int .i64 1) := hE4.cell 0 1 rfl rfl)
    | (go_at_call 65; refine (cancel_any (t := 1) (m := 90) (wk := 0) (n := 0) (g := 1) HRM.out hg2 (law17_sp1 (n := 90) ob) (by decide)).mono ?_; rintro e w3 ⟨v2, L3, rfl, hd3, hg3, hc3⟩; obtain ⟨f2, cap2, rfl, _, _⟩ := id hc3; have hE3 := hE2.did hd3; have e0 : w3.cell? ⟨hb, 0, none⟩ = some (.int .i64 0) := hE3.cell 0 0 rfl rfl; have e1 : w3.cell? ⟨hb, 1, none⟩ = some (.int .i64 1) := hE3.cell 0 1 rfl rfl)
    | (go_at_call 18; refine (start_any (t := 0) (m := 90) (wk := 0) (ticks := 5) (shard := 0) (user := 0) HRM.out HG1.out.drew (law17_sp2 (n := 90) ob _) (by decide) (by decide)).mono ?_; rintro e w2 ⟨v1, L2, rfl, hd2, hg2, hc2⟩; obtain ⟨f1, cap1, rfl, _, _⟩ := id hc2; have hE2 := (HE1.out.below ((Below.refl _ _).drew)).did hd2; have e0 : w2.cell? ⟨hb, 0, none⟩ = some (.int .i64 0) := hE2.cell 0 0 rfl rfl; have e1 : w2.cell? ⟨hb, 1, none⟩ = some (.int .i64 1) := hE2.cell 0 1 rfl rfl))
  have HC1 := Go.Lib.hid (CodeSim.ext c16 (prApp c16 (gotR ob 4)) _ 0 (CodeSim.ext c16 (prApp c16 (gotR ob 4)) _ 0 hc2 (hd3.ext (by decide))) (hd4.ext (by decide)))
  have HC2 := Go.Lib.hid (CodeSim.ext c16 (prApp c16 (gotR ob 4)) _ 1 hc3 (hd4.ext (by decide)))
  have HC3 := Go.Lib.hid hc4
  have HG4 := Go.Lib.hid hg4
  have hold2 : ∀ b, b < w.heap.size → L2 b = 0 := fun b hb => (hd2.lab b (Nat.lt_of_lt_of_le hb HB1.out.drew.size)).trans (HOLD1.out b hb)
  have hb2 := hd2.below_old HB1.out.drew (Nat.le_refl _) HOLD1.out
  have hold3 : ∀ b, b < w.heap.size → L3 b = 0 := fun b hb => (hd3.lab b (Nat.lt_of_lt_of_le hb hb2.size)).trans (hold2 b hb)
  have hb3 := hd3.below_old hb2 (Nat.le_refl _) hold2
  have HOLD4 : Hid (∀ b, b < w.heap.size → L4 b = 0) := Go.Lib.hid (fun b hb => (hd4.lab b (Nat.lt_of_lt_of_le hb hb3.size)).trans (hold3 b hb))
  have HB4 := Go.Lib.hid (hd4.below_old hb3 (Nat.le_refl _) hold3)
  clear hb2 hb3 hold2 hold3 hd2 hd3 hd4 hg2 hg3 hg4 hc2 hc3 hc4 hE2 hE3 hE4 HG1 HE1 HB1 HOLD1 e0 e1
  have hal : Below w4.heap.size w4 (w4.alloc (.cells #[.func (.func f1) #[] cap1, .func (.func f2) #[] cap2, .func (.func f3) #[] cap3] 44)) := (Below.refl _ _).alloc (Nat.le_refl _) _
  have HES : Hid (Env L4 (w4.alloc (.cells #[.func (.func f1) #[] cap1, .func (.func f2) #[] cap2, .func (.func f3) #[] cap3] 44)) [(w4.heap.size, [.func (.func f1) #[] cap1, .func (.func f2) #[] cap2, .func (.func f3) #[] cap3])]) := Go.Lib.hid (Env.alloc_at (Env.nil L4 w4) (fun b hb => HG4.out.new b hb) [.func (.func f1) #[] cap1, .func (.func f2) #[] cap2, .func (.func f3) #[] cap3] 44 (b := w4.heap.size) rfl)
  replace HG4 := Go.Lib.hid (HG4.out.below hal)
  replace HC1 := Go.Lib.hid (CodeSim.ext c16 (prApp c16 (gotR ob 4)) _ 0 HC1.out (below_ext hal 0 L4))
  replace HC2 := Go.Lib.hid (CodeSim.ext c16 (prApp c16 (gotR ob 4)) _ 1 HC2.out (below_ext hal 1 L4))
  replace HC3 := Go.Lib.hid (CodeSim.ext c16 (prApp c16 (gotR ob 4)) _ 2 HC3.out (below_ext hal 2 L4))
  replace HB4 := Go.Lib.hid (HB4.out.trans (hal.mono HB4.out.size))
  clear hal
  go_wp2
  generalize (w4.alloc (.cells #[.func (.func f1) #[] cap1, .func (.func f2) #[] cap2, .func (.func f3) #[] cap3] 44)) = W4 at *
  generalize w4.heap.size = sl at *
  go_loopw [7, 8, 35] (fun _ _ i wr => ∃ L, Below w.heap.size w wr ∧ (∀ b, b < w.heap.size → L b = 0) ∧ Env L wr [(sl, [.func (.func f1) #[] cap1, .func (.func f2) #[] cap2, .func (.func f3) #[] cap3])] ∧ ((i = .int .i64 0 ∧ Good ⟨k, p, a, cc, c16⟩ L (sp17 ob 4) wr ∧ CodeSim c16 (prApp c16 (gotR ob 4)) ⟨k, p, a, cc, c16⟩ 0 90 L wr (.func (.func f1) #[] cap1) (some (startK c16 0 5 0 0 (.user ()))) ∧ CodeSim c16 (prApp c16 (gotR ob 4)) ⟨k, p, a, cc, c16⟩ 1 90 L wr (.func (.func f2) #[] cap2) (some (cancelK c16 0 0 1 (.user ()))) ∧ CodeSim c16 (prApp c16 (gotR ob 4)) ⟨k, p, a, cc, c16⟩ 2 90 L wr (.func (.func f3) #[] cap3) (some (cancelK c16 0 0 1 (.user ())))) ∨ (i = .int .i64 1 ∧ Good ⟨k, p, a, cc, c16⟩ L S1 wr ∧ CodeSim c16 (prApp c16 (gotR ob 4)) ⟨k, p, a, cc, c16⟩ 1 90 L wr (.func (.func f2) #[] cap2) (some (cancelK c16 0 0 1 (.user ()))) ∧ CodeSim c16 (prApp c16 (gotR ob 4)) ⟨k, p, a, cc, c16⟩ 2 90 L wr (.func (.func f3) #[] cap3) (some (cancelK c16 0 0 1 (.user ())))) ∨ (i = .int .i64 2 ∧ Good ⟨k, p, a, cc, c16⟩ L S2 wr ∧ CodeSim c16 (prApp c16 (gotR ob 4)) ⟨k, p, a, cc, c16⟩ 2 90 L wr (.func (.func f3) #[] cap3) (some (cancelK c16 0 0 1 (.user ())))) ∨ (i = .int .i64 3 ∧ Good ⟨k, p, a, cc, c16⟩ L S3 wr))) (fun _ _ i _ => 3 - (intOf i).toNat)
  case atStart => exact ⟨L4, HB4.out, HOLD4.out, HES.out, .inl ⟨rfl, HG4.out, HC1.out, HC2.out, HC3.out⟩⟩
  case round =>
    obtain ⟨L5, hb5, hold5, henv5, hcase⟩ := hrel
    have HB5 := Go.Lib.hid hb5; have HOLD5 := Go.Lib.hid hold5; have HE5 := Go.Lib.hid henv5
    clear hb5 hold5 henv5
    rcases hcase with ⟨rfl, hg, hc1, hc2, hc3⟩ | ⟨rfl, hg, hc2, hc3⟩ | ⟨rfl, hg, hc3⟩ | ⟨rfl, hg⟩
    · have HG5 := Go.Lib.hid hg
      have HK0 := Go.Lib.hid hc1
      have HK1 := Go.Lib.hid hc2
      have HK2 := Go.Lib.hid hc3
      clear hg hc1 hc2 hc3
      have q0 : wr.cell? ⟨sl, 0, none⟩ = some (.func (.func f1) #[] cap1) := HE5.out.cell 0 0 rfl rfl
      have q1 : wr.cell? ⟨sl, 1, none⟩ = some (.func (.func f2) #[] cap2) := HE5.out.cell 0 1 rfl rfl
      have q2 : wr.cell? ⟨sl, 2, none⟩ = some (.func (.func f3) #[] cap3) := HE5.out.cell 0 2 rfl rfl
      have HSZ := Go.Lib.hid HB5.out.size
      have HT := Go.Lib.hid (HG5.out.task 0 (.func (.func f1) #[] cap1) 142)
      go_wp2_with fail
      refine (step_New f1 #[] cap1 wr).mono ?_
      rintro e w6 ⟨rfl, rfl⟩
      clear q0 q1 q2
      have hal : Below wr.heap.size wr (wr.alloc (.cells #[.func (.func f1) #[] cap1, .int .i64 0] 142)) := (Below.refl _ _).alloc (Nat.le_refl _) _
      have HX : Hid (Ext 0 L5 wr (fun b => if b = wr.heap.size then 5000 + 0 else L5 b) (wr.alloc (.cells #[.func (.func f1) #[] cap1, .int .i64 0] 142))) := Go.Lib.hid HT.out.2.2
      replace HB5 := Go.Lib.hid (HB5.out.trans (hal.mono HB5.out.size))
      replace HE5 := Go.Lib.hid (HE5.out.ext HX.out)
      replace HK0 := Go.Lib.hid (CodeSim.ext c16 (prApp c16 (gotR ob 4)) _ 0 HK0.out HX.out)
      have HX1 : Hid (Ext 1 L5 wr (fun b => if b = wr.heap.size then 5000 + 0 else L5 b) (wr.alloc (.cells #[.func (.func f1) #[] cap1, .int .i64 0] 142))) := Go.Lib.hid ⟨hal.os, hal.tape, hal.output, hal.size, fun b hb _ => hal.block b hb, HX.out.lab⟩
      replace HK1 := Go.Lib.hid (CodeSim.ext c16 (prApp c16 (gotR ob 4)) _ 1 HK1.out HX1.out)
      clear HX1
      have HX2 : Hid (Ext 2 L5 wr (fun b => if b = wr.heap.size then 5000 + 0 else L5 b) (wr.alloc (.cells #[.func (.func f1) #[] cap1, .int .i64 0] 142))) := Go.Lib.hid ⟨hal.os, hal.tape, hal.output, hal.size, fun b hb _ => hal.block b hb, HX.out.lab⟩
      replace HK2 := Go.Lib.hid (CodeSim.ext c16 (prApp c16 (gotR ob 4)) _ 2 HK2.out HX2.out)
      clear HX2
      generalize (fun b => if b = wr.heap.size then 5000 + 0 else L5 b) = L6 at *
      replace HOLD5 : Hid (∀ b, b < w.heap.size → L6 b = 0) := Go.Lib.hid (fun b hb => (HX.out.lab b (Nat.lt_of_lt_of_le hb HSZ.out)).trans (HOLD5.out b hb))
      clear hal HX HSZ
      generalize (wr.alloc (.cells #[.func (.func f1) #[] cap1, .int .i64 0] 142)) = W6 at *
      generalize wr.heap.size = tb at *
      go_wp2_with fail
      have HF : Calls Tryz.prog 20 #[.pointer (some ⟨tb, 0, none⟩), .int .i64 80] W6 _ := task_finish (most := 80) HT.out.1 HT.out.2.1 (by decide) HM1.out (by decide) (by decide) (CodeSim.le c16 (prApp c16 (gotR ob 4)) _ 0 HK0.out (by have := HM1.out; omega)) HR1.out
      refine HF.mono ?_
      rintro e w7 ⟨v7, L7, rfl, hg7, hd7, ht7⟩
      have HG7 := Go.Lib.hid hg7
      have HB7 := Go.Lib.hid (hd7.below_old HB5.out (Nat.le_refl _) HOLD5.out)
      have HOLD7 : Hid (∀ b, b < w.heap.size → L7 b = 0) := Go.Lib.hid (fun b hb => (hd7.lab b (Nat.lt_of_lt_of_le hb HB5.out.size)).trans (HOLD5.out b hb))
      have HE7 := Go.Lib.hid (HE5.out.ext (hd7.ext (u := 7) (by decide) (by decide) (by decide)))
      have HK17 := Go.Lib.hid (CodeSim.ext c16 (prApp c16 (gotR ob 4)) _ 1 HK1.out (hd7.ext (u := 1) (by decide) (by decide) (by decide)))
      have HK27 := Go.Lib.hid (CodeSim.ext c16 (prApp c16 (gotR ob 4)) _ 2 HK2.out (hd7.ext (u := 2) (by decide) (by decide) (by decide)))
      clear hg7 hd7 ht7 HF HT
      go_wp2
      refine ⟨⟨L7, HB7.out, HOLD7.out, HE7.out, .inr (.inl ⟨by go_num, HG7.out, HK17.out, HK27.out⟩)⟩, by decide⟩
    · have HG5 := Go.Lib.hid hg
      have HK1 := Go.Lib.hid hc2
      have HK2 := Go.Lib.hid hc3
      clear hg hc2 hc3
      have q0 : wr.cell? ⟨sl, 0, none⟩ = some (.func (.func f1) #[] cap1) := HE5.out.cell 0 0 rfl rfl
      have q1 : wr.cell? ⟨sl, 1, none⟩ = some (.func (.func f2) #[] cap2) := HE5.out.cell 0 1 rfl rfl
      have q2 : wr.cell? ⟨sl, 2, none⟩ = some (.func (.func f3) #[] cap3) := HE5.out.cell 0 2 rfl rfl
      have HSZ := Go.Lib.hid HB5.out.size
      have HT := Go.Lib.hid (HG5.out.task 1 (.func (.func f2) #[] cap2) 142)
      go_wp2_with fail
      refine (step_New f2 #[] cap2 wr).mono ?_
      rintro e w6 ⟨rfl, rfl⟩
      clear q0 q1 q2
      have hal : Below wr.heap.size wr (wr.alloc (.cells #[.func (.func f2) #[] cap2, .int .i64 0] 142)) := (Below.refl _ _).alloc (Nat.le_refl _) _
      have HX : Hid (Ext 1 L5 wr (fun b => if b = wr.heap.size then 5000 + 1 else L5 b) (wr.alloc (.cells #[.func (.func f2) #[] cap2, .int .i64 0] 142))) := Go.Lib.hid HT.out.2.2
      replace HB5 := Go.Lib.hid (HB5.out.trans (hal.mono HB5.out.size))
      replace HE5 := Go.Lib.hid (HE5.out.ext HX.out)
      replace HK1 := Go.Lib.hid (CodeSim.ext c16 (prApp c16 (gotR ob 4)) _ 1 HK1.out HX.out)
      have HX2 : Hid (Ext 2 L5 wr (fun b => if b = wr.heap.size then 5000 + 1 else L5 b) (wr.alloc (.cells #[.func (.func f2) #[] cap2, .int .i64 0] 142))) := Go.Lib.hid ⟨hal.os, hal.tape, hal.output, hal.size, fun b hb _ => hal.block b hb, HX.out.lab⟩
      replace HK2 := Go.Lib.hid (CodeSim.ext c16 (prApp c16 (gotR ob 4)) _ 2 HK2.out HX2.out)
      clear HX2
      generalize (fun b => if b = wr.heap.size then 5000 + 1 else L5 b) = L6 at *
      replace HOLD5 : Hid (∀ b, b < w.heap.size → L6 b = 0) := Go.Lib.hid (fun b hb => (HX.out.lab b (Nat.lt_of_lt_of_le hb HSZ.out)).trans (HOLD5.out b hb))
      clear hal HX HSZ
      generalize (wr.alloc (.cells #[.func (.func f2) #[] cap2, .int .i64 0] 142)) = W6 at *
      generalize wr.heap.size = tb at *
      go_wp2_with fail
      have HF : Calls Tryz.prog 20 #[.pointer (some ⟨tb, 0, none⟩), .int .i64 80] W6 _ := task_finish (most := 80) HT.out.1 HT.out.2.1 (by decide) HM2.out (by decide) (by decide) (CodeSim.le c16 (prApp c16 (gotR ob 4)) _ 1 HK1.out (by have := HM2.out; omega)) HR2.out
      refine HF.mono ?_
      rintro e w7 ⟨v7, L7, rfl, hg7, hd7, ht7⟩
      have HG7 := Go.Lib.hid hg7
      have HB7 := Go.Lib.hid (hd7.below_old HB5.out (Nat.le_refl _) HOLD5.out)
      have HOLD7 : Hid (∀ b, b < w.heap.size → L7 b = 0) := Go.Lib.hid (fun b hb => (hd7.lab b (Nat.lt_of_lt_of_le hb HB5.out.size)).trans (HOLD5.out b hb))
      have HE7 := Go.Lib.hid (HE5.out.ext (hd7.ext (u := 7) (by decide) (by decide) (by decide)))
      have HK27 := Go.Lib.hid (CodeSim.ext c16 (prApp c16 (gotR ob 4)) _ 2 HK2.out (hd7.ext (u := 2) (by decide) (by decide) (by decide)))
      clear hg7 hd7 ht7 HF HT
      go_wp2
      refine ⟨⟨L7, HB7.out, HOLD7.out, HE7.out, .inr (.inr (.inl ⟨by go_num, HG7.out, HK27.out⟩))⟩, by decide⟩
    · have HG5 := Go.Lib.hid hg
      have HK2 := Go.Lib.hid hc3
      clear hg hc3
      have q0 : wr.cell? ⟨sl, 0, none⟩ = some (.func (.func f1) #[] cap1) := HE5.out.cell 0 0 rfl rfl
      have q1 : wr.cell? ⟨sl, 1, none⟩ = some (.func (.func f2) #[] cap2) := HE5.out.cell 0 1 rfl rfl
      have q2 : wr.cell? ⟨sl, 2, none⟩ = some (.func (.func f3) #[] cap3) := HE5.out.cell 0 2 rfl rfl
      have HSZ := Go.Lib.hid HB5.out.size
      have HT := Go.Lib.hid (HG5.out.task 2 (.func (.func f3) #[] cap3) 142)
      go_wp2_with fail
      refine (step_New f3 #[] cap3 wr).mono ?_
      rintro e w6 ⟨rfl, rfl⟩
      clear q0 q1 q2
      have hal : Below wr.heap.size wr (wr.alloc (.cells #[.func (.func f3) #[] cap3, .int .i64 0] 142)) := (Below.refl _ _).alloc (Nat.le_refl _) _
      have HX : Hid (Ext 2 L5 wr (fun b => if b = wr.heap.size then 5000 + 2 else L5 b) (wr.alloc (.cells #[.func (.func f3) #[] cap3, .int .i64 0] 142))) := Go.Lib.hid HT.out.2.2
      replace HB5 := Go.Lib.hid (HB5.out.trans (hal.mono HB5.out.size))
      replace HE5 := Go.Lib.hid (HE5.out.ext HX.out)
      replace HK2 := Go.Lib.hid (CodeSim.ext c16 (prApp c16 (gotR ob 4)) _ 2 HK2.out HX.out)
      generalize (fun b => if b = wr.heap.size then 5000 + 2 else L5 b) = L6 at *
      replace HOLD5 : Hid (∀ b, b < w.heap.size → L6 b = 0) := Go.Lib.hid (fun b hb => (HX.out.lab b (Nat.lt_of_lt_of_le hb HSZ.out)).trans (HOLD5.out b hb))
      clear hal HX HSZ
      generalize (wr.alloc (.cells #[.func (.func f3) #[] cap3, .int .i64 0] 142)) = W6 at *
      generalize wr.heap.size = tb at *
      go_wp2_with fail
      have HF : Calls Tryz.prog 20 #[.pointer (some ⟨tb, 0, none⟩), .int .i64 80] W6 _ := task_finish (most := 80) HT.out.1 HT.out.2.1 (by decide) HM3.out (by decide) (by decide) (CodeSim.le c16 (prApp c16 (gotR ob 4)) _ 2 HK2.out (by have := HM3.out; omega)) HR3.out
      refine HF.mono ?_
      rintro e w7 ⟨v7, L7, rfl, hg7, hd7, ht7⟩
      have HG7 := Go.Lib.hid hg7
      have HB7 := Go.Lib.hid (hd7.below_old HB5.out (Nat.le_refl _) HOLD5.out)
      have HOLD7 : Hid (∀ b, b < w.heap.size → L7 b = 0) := Go.Lib.hid (fun b hb => (hd7.lab b (Nat.lt_of_lt_of_le hb HB5.out.size)).trans (HOLD5.out b hb))
      have HE7 := Go.Lib.hid (HE5.out.ext (hd7.ext (u := 7) (by decide) (by decide) (by decide)))
      clear hg7 hd7 ht7 HF HT
      go_wp2
      refine ⟨⟨L7, HB7.out, HOLD7.out, HE7.out, .inr (.inr (.inr (⟨by go_num, HG7.out⟩)))⟩, by decide⟩
    · have HG5 := Go.Lib.hid hg
      clear hg
      obtain ⟨hsa, _⟩ := HG5.out.sv _ HSL.out
      obtain ⟨sv, hc, hown, hl⟩ := hsa.ex
      dsimp only at hc hown
      obtain ⟨g, cap, rfl, hcell⟩ := own_cell hown (by decide)
      have c0 : wr.cell? ⟨g, 0, none⟩ = some (.bool true) := hcell 0 (by decide)
      have c1 : wr.cell? ⟨g, 1, none⟩ = some (.bool false) := hcell 1 (by decide)
      clear hsa hown hl hcell
      go_wp2
      go_ret
      exact ⟨rfl, HB5.out⟩
end Go.Proofs.YtgemjjpmoejgdaaGreat
