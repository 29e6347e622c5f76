/- knellref22.Entry of an Invoke, of any entry. -/
import Derived.Test.YtdemhabgaimnmaaGreatDoorJsto
namespace Go.Proofs.YtdemhabgaimnmaaGreatDoor
open Go.RowKit
set_option maxRecDepth 100000
set_option linter.unusedVariables false

theorem step_append_kb {ops : Array Oper} {o : Oper} {a : Act} {K : Act → World → Prop} {E : Prop} {w : World} {Q : Exit → Act → World → Prop} (hgd : o.guard = none) (s x : Operand)
    (ho : o.op = .call { callee := .builtin .append, args := #[s, x], argTypes := #[24, 24] })
    (base : Nat) (v : Value) (l : List Nat) (hs : a.eval s = v) (hown : OwnB base w v l) (xv : Value) (Kd : Nat → Prop) (m : List Nat) (hxv : a.eval x = xv) (hx : KB Kd w xv m)
    (hn : l.length + m.length ≤ 1000000) (hbase : base ≤ w.heap.size)
    (h : ∀ v' w', OwnB base w' v' (l ++ m) → OntoT base 5 w w' → K (a.put o.dst v') w') : if Region.wanted o (yielded ops a.tmps) = true then Oper.wp Tryz.prog o a w K Q else E := by
  have hinfo : (Tryz.prog.info? 5).map (fun i => (i.zero, i.size, i.bytes)) = some (some (.int .u8 0), 1, 1) := by kernel_rfl
  obtain ⟨i0, hi0, hz0, hz1, hz2⟩ := info_parts hinfo
  have hund : Tryz.prog.underlying 24 = some (.slice 5) := by kernel_rfl
  refine step_append_rows hgd s x 24 ho base 5 i0 _ 1 1 hund hi0 hz0 hz1 hz2 rfl (by decide) v l.length _ hs hown xv Kd (m.map fun (z : Nat) => [Value.int .u8 (z : Int)]) hxv hx
    (fun r hr => by obtain ⟨y, _, rfl⟩ := List.mem_map.1 hr; rfl) (fun r hr u hu => by obtain ⟨y, _, rfl⟩ := List.mem_map.1 hr; rw [List.mem_singleton.1 hu]; rfl)
    (by rw [List.length_map]; unfold maxLen; omega) (by rw [List.length_map]; omega) hbase ?_
  intro v' w' h1 h2
  refine h v' w' ?_ ((OntoT.refl base 5 w).grown hown h2 hbase (Nat.le_refl _))
  unfold OwnB
  rw [List.length_append, List.map_append]
  rwa [List.length_map, bytes_rows] at h1
theorem cell_keep {B : Nat} {w w' : World} {b o : Nat} {v : Value} (hb : Below B w w') (h : b < B) (q : w.cell? ⟨b, o, none⟩ = some v) : w'.cell? ⟨b, o, none⟩ = some v := (World.cell?_of_block (hb.block b h)).trans q
theorem fill_snoc {ps : List (Nat × Nat)} {j i k : Nat} (e b : Ent) (h : ps[j]? = some (i, k)) : fillE (ps.take (j + 1)) e b = (fillE (ps.take j) e b).set i (e.get i) := by
  rw [List.take_add_one, h]
  unfold fillE
  rw [List.foldl_append]
  rfl

set_option maxHeartbeats 4000000 in
theorem ref22_Entry1no (a o n g t r u : Int) (hno : ¬ ((0 ≤ o ∧ o < 64) ∧ 0 ≤ a ∧ a < 256)) (w : World) : Calls Tryz.prog 21 #[.agg #[.int .i64 1, .int .i64 a, .int .i64 o, .int .i64 n, .int .i64 g, .int .i64 t, .int .i64 r, .int .i64 u]] w (EntPost ⟨1, a, o, n, g, t, r, u⟩ w) := by
  have HI1 := Go.Lib.hid (fun W => ref22_in o 64 W)
  have HI2 := Go.Lib.hid (fun W => ref22_in a 256 W)
  have HNO : Hid (layP ⟨1, a, o, n, g, t, r, u⟩ = none) := Go.Lib.hid (by rw [layP1, if_neg (fun q => hno q.1)])
  have hor : ¬ (0 ≤ o ∧ o < 64) ∨ ((0 ≤ o ∧ o < 64) ∧ ¬ (0 ≤ a ∧ a < 256)) := by
    by_cases h : 0 ≤ o ∧ o < 64
    · exact .inr ⟨h, fun q => hno ⟨h, q⟩⟩
    · exact .inl h
  clear hno
  have HB := Go.Lib.hid (((Below.refl w.heap.size w).alloc (Nat.le_refl _) (.cells #[.int .i64 1, .int .i64 a, .int .i64 o, .int .i64 n, .int .i64 g, .int .i64 t, .int .i64 r, .int .i64 u] 53)).alloc (by rw [World.size_alloc]; omega) (.cells #[.int .i64 1, .int .i64 a, .int .i64 o, .int .i64 0, .int .i64 0, .int .i64 0, .int .i64 0, .int .i64 0] 53))
  have HA := Go.Lib.hid (row_below ((Below.refl _ (w.alloc (.cells #[.int .i64 1, .int .i64 a, .int .i64 o, .int .i64 n, .int .i64 g, .int .i64 t, .int .i64 r, .int .i64 u] 53))).alloc (Nat.le_refl _) (.cells #[.int .i64 1, .int .i64 a, .int .i64 o, .int .i64 0, .int .i64 0, .int .i64 0, .int .i64 0, .int .i64 0] 53)) (heap_alloc_new w (.cells #[.int .i64 1, .int .i64 a, .int .i64 o, .int .i64 n, .int .i64 g, .int .i64 t, .int .i64 r, .int .i64 u] 53)))
  have hbb := heap_alloc_new (w.alloc (.cells #[.int .i64 1, .int .i64 a, .int .i64 o, .int .i64 n, .int .i64 g, .int .i64 t, .int .i64 r, .int .i64 u] 53)) (.cells #[.int .i64 1, .int .i64 a, .int .i64 o, .int .i64 0, .int .i64 0, .int .i64 0, .int .i64 0, .int .i64 0] 53)
  rw [World.size_alloc] at hbb
  have HBB := Go.Lib.hid hbb
  clear hbb
  go_enter Tryz.func21, Tryz.ntmps21
  go_wp2_with fail
  generalize ((w.alloc (.cells #[.int .i64 1, .int .i64 a, .int .i64 o, .int .i64 n, .int .i64 g, .int .i64 t, .int .i64 r, .int .i64 u] 53)).alloc (.cells #[.int .i64 1, .int .i64 a, .int .i64 o, .int .i64 0, .int .i64 0, .int .i64 0, .int .i64 0, .int .i64 0] 53)) = W0 at *
  rcases hor with h1 | ⟨h1, h2⟩
  · rw [decide_eq_false h1] at HI1
    refine (HI1.out _).mono ?_
    rintro e w' ⟨rfl, rfl⟩
    go_wp2
    go_ret2
    exact EntPost.no HB.out HNO.out
  · rw [decide_eq_true h1] at HI1
    rw [decide_eq_false h2] at HI2
    have q1 : W0.cell? ⟨w.heap.size, 1, none⟩ = some (.int .i64 a) := cell_of_row _ _ _ _ _ _ HA.out
    clear h1 h2
    refine (HI1.out _).mono ?_
    rintro e w' ⟨rfl, hw'⟩
    obtain rfl : W0 = w' := hw'.symm
    go_wp2_with fail
    refine (HI2.out _).mono ?_
    rintro e w' ⟨rfl, rfl⟩
    go_wp2
    go_ret2
    exact EntPost.no HB.out HNO.out

set_option maxHeartbeats 4000000 in
theorem ref22_Entry1 (A : Nat) (hA : A < 256) (O : Nat) (hO : O < 64) (n g t r u : Int) (hrg : EntR ⟨1, (A : Nat), (O : Nat), n, g, t, r, u⟩) (w : World) : Calls Tryz.prog 21 #[.agg #[.int .i64 1, .int .i64 (A : Nat), .int .i64 (O : Nat), .int .i64 n, .int .i64 g, .int .i64 t, .int .i64 r, .int .i64 u]] w (EntPost ⟨1, (A : Nat), (O : Nat), n, g, t, r, u⟩ w) := by
  have HI1 : Hid (∀ W, Calls Tryz.prog 42 #[.int .i64 (O : Nat), .int .i64 64] W fun e w' => e = .returned (.bool true) ∧ w' = W) := Go.Lib.hid (fun W => by have := ref22_in (O : Nat) 64 W; rwa [decide_eq_true (show 0 ≤ (O : Int) ∧ (O : Int) < 64 by omega)] at this)
  have HI2 : Hid (∀ W, Calls Tryz.prog 42 #[.int .i64 (A : Nat), .int .i64 256] W fun e w' => e = .returned (.bool true) ∧ w' = W) := Go.Lib.hid (fun W => by have := ref22_in (A : Nat) 256 W; rwa [decide_eq_true (show 0 ≤ (A : Int) ∧ (A : Int) < 256 by omega)] at this)
  obtain ⟨y, hy⟩ : ∃ y, y = O * 4 + 3 := ⟨_, rfl⟩
  have g1 : IntKind.i64.wrap ((O : Int) * 4) = (O : Int) * 4 := IntWalk.i64_in _ (by omega)
  have g2 : IntKind.i64.wrap ((O : Int) * 4 + 3) = (y : Int) := by rw [IntWalk.i64_in _ (by omega)]; omega
  have HBY := Go.Lib.hid (fun W => bytes1 y (by omega) W)
  have HBA := Go.Lib.hid (fun W => bytes1 A hA W)
  have HRG := Go.Lib.hid hrg
  obtain ⟨E0, hE0⟩ : ∃ E0 : Ent, E0 = ⟨1, (A : Nat), (O : Nat), n, g, t, r, u⟩ := ⟨_, rfl⟩
  have HE0 := Go.Lib.hid hE0
  have HLP : Hid (∀ e w', EntPost E0 w e w' → EntPost ⟨1, (A : Nat), (O : Nat), n, g, t, r, u⟩ w e w') := Go.Lib.hid (fun e w' h => by rwa [hE0] at h)
  have HLY : Hid (layP E0 = if fitsE (shapeP O) E0 ∧ E0 = fillE (shapeP O) E0 (invE (A : Nat) (O : Nat)) then some (y :: A :: putsE (shapeP O) E0) else none) := Go.Lib.hid (by
    rw [hE0, layP1]
    have e1 : ((O : Nat) : Int).toNat = O := by omega
    have e2 : ((A : Nat) : Int).toNat = A := by omega
    have e3 : ((O : Int) * 4 + 3).toNat = y := by omega
    rw [e1, e2, e3]
    by_cases h : fitsE (shapeP O) ⟨1, (A : Nat), (O : Nat), n, g, t, r, u⟩ ∧ (⟨1, (A : Nat), (O : Nat), n, g, t, r, u⟩ : Ent) = fillE (shapeP O) ⟨1, (A : Nat), (O : Nat), n, g, t, r, u⟩ (invE (A : Nat) (O : Nat))
    · rw [if_pos h, if_pos ⟨⟨⟨by omega, by omega⟩, by omega, by omega⟩, h.1, h.2⟩]
    · rw [if_neg h, if_neg (fun q => h q.2)])
  have HGET : Hid (∀ i, 3 ≤ i → i ≤ 7 → ∀ W, Calls Tryz.prog 43 #[.agg #[.int .i64 1, .int .i64 (A : Nat), .int .i64 (O : Nat), .int .i64 n, .int .i64 g, .int .i64 t, .int .i64 r, .int .i64 u], .int .u8 (chrE i : Nat)] W fun e w' => e = .returned (.int .i64 (E0.get i)) ∧ Below W.heap.size W w') := Go.Lib.hid (fun i h3 h7 W => by rw [hE0]; exact ref22_get ⟨1, (A : Nat), (O : Nat), n, g, t, r, u⟩ i h3 h7 W)
  have HSH := Go.Lib.hid (fun W => ref22_Shape O W)
  have f5 : (0 : Int) ≤ (A : Int) := by omega
  have f7 : (0 : Int) ≤ (O : Int) := by omega
  clear hy hrg hE0
  have HB := Go.Lib.hid (((Below.refl w.heap.size w).alloc (Nat.le_refl _) (.cells #[.int .i64 1, .int .i64 (A : Nat), .int .i64 (O : Nat), .int .i64 n, .int .i64 g, .int .i64 t, .int .i64 r, .int .i64 u] 53)).alloc (by rw [World.size_alloc]; omega) (.cells #[.int .i64 1, .int .i64 (A : Nat), .int .i64 (O : Nat), .int .i64 0, .int .i64 0, .int .i64 0, .int .i64 0, .int .i64 0] 53))
  have HA := Go.Lib.hid (row_below ((Below.refl _ (w.alloc (.cells #[.int .i64 1, .int .i64 (A : Nat), .int .i64 (O : Nat), .int .i64 n, .int .i64 g, .int .i64 t, .int .i64 r, .int .i64 u] 53))).alloc (Nat.le_refl _) (.cells #[.int .i64 1, .int .i64 (A : Nat), .int .i64 (O : Nat), .int .i64 0, .int .i64 0, .int .i64 0, .int .i64 0, .int .i64 0] 53)) (heap_alloc_new w (.cells #[.int .i64 1, .int .i64 (A : Nat), .int .i64 (O : Nat), .int .i64 n, .int .i64 g, .int .i64 t, .int .i64 r, .int .i64 u] 53)))
  have hbb := heap_alloc_new (w.alloc (.cells #[.int .i64 1, .int .i64 (A : Nat), .int .i64 (O : Nat), .int .i64 n, .int .i64 g, .int .i64 t, .int .i64 r, .int .i64 u] 53)) (.cells #[.int .i64 1, .int .i64 (A : Nat), .int .i64 (O : Nat), .int .i64 0, .int .i64 0, .int .i64 0, .int .i64 0, .int .i64 0] 53)
  rw [World.size_alloc] at hbb
  have HBB := Go.Lib.hid hbb
  clear hbb
  go_enter Tryz.func21, Tryz.ntmps21
  go_wp2_with fail
  generalize ((w.alloc (.cells #[.int .i64 1, .int .i64 (A : Nat), .int .i64 (O : Nat), .int .i64 n, .int .i64 g, .int .i64 t, .int .i64 r, .int .i64 u] 53)).alloc (.cells #[.int .i64 1, .int .i64 (A : Nat), .int .i64 (O : Nat), .int .i64 0, .int .i64 0, .int .i64 0, .int .i64 0, .int .i64 0] 53)) = W0 at *
  have q1 : W0.cell? ⟨w.heap.size, 1, none⟩ = some (.int .i64 (A : Nat)) := cell_of_row _ _ _ _ _ _ HA.out
  have q2 : W0.cell? ⟨w.heap.size, 2, none⟩ = some (.int .i64 (O : Nat)) := cell_of_row _ _ _ _ _ _ HA.out
  refine (HI1.out _).mono ?_
  rintro e w' ⟨rfl, hw'⟩
  obtain rfl : W0 = w' := hw'.symm
  go_wp2_with fail
  refine (HI2.out _).mono ?_
  rintro e w' ⟨rfl, hw'⟩
  obtain rfl : W0 = w' := hw'.symm
  go_wp2_with fail
  have HBZ : Hid (w.heap.size + 2 ≤ W0.heap.size) := Go.Lib.hid (by have := heap_lt0 HBB.out; omega)
  have HB0 := Go.Lib.hid ((Below.refl W0.heap.size W0).drew)
  go_cut [5] from 53 to 61 (fun x wx => ∃ v, x = v ∧ OwnB W0.heap.size wx v [y, A] ∧ Below W0.heap.size W0 wx)
  case first =>
    rename_i J1 K1 hJ1 hK1
    go_region_held3 (fun w' => w'.cell? ⟨w.heap.size, 1, none⟩ = some (.int .i64 (A : Nat)) ∧ w'.cell? ⟨w.heap.size, 2, none⟩ = some (.int .i64 (O : Nat)))
      (first | exact ⟨q1, q2⟩)
      (first
        | (go_at_call 20; have hx := HSEEN.out; refine (HBA.out _).mono ?_; rintro e w2 ⟨v2, rfl, hk2, _, hb2⟩; have HK2 := Go.Lib.hid hk2; have HO2 := Go.Lib.hid (own_below HO1.out hb2); have HB2 := Go.Lib.hid (HB1.out.trans (hb2.mono HB1.out.size)); have q1 := below_cell hb2 q1; have q2 := below_cell hb2 q2)
        | (go_at_call 20; refine (HBY.out _).mono ?_; rintro e w1 ⟨v1, rfl, _, ho1, hb1⟩; have HSEEN : Hid True := Go.Lib.hid trivial; have HO1 := Go.Lib.hid (own_mono ho1 HB0.out.size); have HB1 := Go.Lib.hid (HB0.out.trans (hb1.mono HB0.out.size)); have q1 := below_cell hb1 q1; have q2 := below_cell hb1 q2)
        | (refine step_append_kb (by rfl) _ _ (by rfl) W0.heap.size _ [y] (by rfl) HO2.out _ _ [A] (by rfl) HK2.out (by show 1 + 1 ≤ 1000000; decide) HB2.out.size ?_; intro v3 w3 hown3 hto3; have HO3 := Go.Lib.hid hown3; have HB3 := Go.Lib.hid (HB2.out.trans hto3.below); have q1 := cell_keep hto3.below (by have := HBZ.out; omega) q1; have q2 := cell_keep hto3.below (by have := HBZ.out; omega) q2))
    all_goals
      exact hK1 _ _ (Met.intro (hJ1 _ _ ⟨v3, _, _, _, _, _, _, _, _, _, ⟨v3, rfl, HO3.out, HB3.out⟩, rfl⟩))
  case rest =>
    obtain ⟨v3, rfl, ho3, hb3⟩ := hcut
    have HO3 := Go.Lib.hid ho3
    have HB3 := Go.Lib.hid (HB.out.trans (hb3.mono HB.out.size))
    have HA3 := Go.Lib.hid (row_below hb3 HA.out)
    have HQ3 := Go.Lib.hid (row_below hb3 HBB.out)
    have hbz3 : W0.heap.size ≤ wc.heap.size := hb3.size
    have hbz : w.heap.size + 2 ≤ W0.heap.size := HBZ.out
    have p2 : wc.cell? ⟨w.heap.size, 2, none⟩ = some (.int .i64 (O : Nat)) := cell_of_row _ _ _ _ _ _ HA3.out
    clear ho3 hb3 HA HBB HB HB0 HBZ HI1 HI2 HBY HBA g1 g2 q1 q2
    generalize hB0 : W0.heap.size = B0 at *
    clear hB0
    go_wp2_with fail
    generalize wc = W3 at *
    refine (HSH.out _).mono ?_
    rintro e w' ⟨rfl, hw'⟩
    obtain rfl : W3 = w' := hw'.symm
    obtain ⟨st, hst⟩ : ∃ st, st = strE O := ⟨_, rfl⟩
    have HSA : Hid (∀ i, i < (shapeP O).length → ∃ f, 3 ≤ f ∧ f ≤ 7 ∧ (shapeP O)[i]? = some (f, widE f) ∧ st.data[i]? = some (UInt8.ofNat (chrE f))) := Go.Lib.hid (fun i hi => by rw [hst]; exact strE_at O i hi)
    have HSS : Hid (st.size = (shapeP O).length) := Go.Lib.hid (by rw [hst]; exact strE_size O)
    rw [← hst]
    have HTK : Hid ((shapeP O).take (shapeP O).length = shapeP O) := Go.Lib.hid List.take_length
    have hlen := shape_len O
    generalize hN : (shapeP O).length = N at *
    have HN := Go.Lib.hid hN
    have hss : st.size = N := by have := HSS.out; rw [this]
    clear hst hN p2 HSH
    go_wp2
    go_loopw [5, 7] (fun u5 u7 wr => ∃ (j : Nat) (cur : List Nat) (E1 : Ent), u7 = .int .i64 (j : Nat) ∧ j ≤ N ∧ wr.heap[w.heap.size]? = some (.cells #[.int .i64 1, .int .i64 (A : Nat), .int .i64 (O : Nat), .int .i64 n, .int .i64 g, .int .i64 t, .int .i64 r, .int .i64 u] 53) ∧ wr.heap[w.heap.size + 1]? = some (.cells #[.int .i64 E1.kind, .int .i64 E1.worker, .int .i64 E1.op, .int .i64 E1.node, .int .i64 E1.gen, .int .i64 E1.time, .int .i64 E1.arg, .int .i64 E1.user] 53) ∧ OwnB B0 wr u5 cur ∧ Below w.heap.size w wr ∧ B0 ≤ wr.heap.size ∧ cur = y :: A :: putsE ((shapeP O).take j) E0 ∧ cur.length ≤ 2 + 4 * j ∧ fitsE ((shapeP O).take j) E0 ∧ E1 = fillE ((shapeP O).take j) E0 (invE (A : Nat) (O : Nat))) (fun _ i _ => N - (intOf i).toNat)
    case atStart => exact ⟨0, [y, A], invE (A : Nat) (O : Nat), rfl, Nat.zero_le _, HA3.out, HQ3.out, HO3.out, HB3.out, hbz3, rfl, (by show 2 ≤ 2 + 4 * 0; decide), (fun p hp => by cases hp), rfl⟩
    case round =>
      obtain ⟨j, cur, E1, rfl, hj, hra, hrb, hown, hbw, hbs, hcur, hcl, hfit, hz⟩ := hrel
      obtain ⟨a5, q5, rfl⟩ := own_form hown
      have HRA := Go.Lib.hid hra
      have HRB := Go.Lib.hid hrb
      have HOW := Go.Lib.hid hown
      have HBW := Go.Lib.hid hbw
      have HCU := Go.Lib.hid hcur
      have HCL := Go.Lib.hid hcl
      have HFT := Go.Lib.hid hfit
      have HZ := Go.Lib.hid hz
      clear hra hrb hown hbw hcur hcl hfit hz HO3 HB3 HA3 HQ3
      by_cases hlt : j < N
      · obtain ⟨f, hf3, hf7, hat, hch⟩ := HSA.out j hlt
        have HAT := Go.Lib.hid hat
        have hkk := widE_in f
        have hc256 := chrE_lt f
        have hidx := fun W => idx_str st j (chrE f) hch hc256 W
        have HGE := Go.Lib.hid (HGET.out f hf3 hf7)
        have HWD := Go.Lib.hid (fun W => ref22_width f hf3 hf7 W)
        have HLM := Go.Lib.hid (fun W => ref22_limit f hf3 hf7 W)
        have HSE := Go.Lib.hid (fun W => ref22_set E1 f (E0.get f) hf3 hf7 W)
        have hri : -9223372036854775808 ≤ E0.get f ∧ E0.get f ≤ 9223372036854775807 := by rw [HE0.out]; have := HRG.out f hf3 hf7; omega
        have HIN := Go.Lib.hid (fun W => ref22_in (E0.get f) (limE (widE f) : Nat) W)
        have HBT : Hid (∀ W, Calls Tryz.prog 20 #[.int .i64 (E0.get f), .int .i64 (widE f : Nat)] W fun e w' => ∃ (v : Value) (bs : List Nat), e = .returned v ∧ bs.length = widE f ∧ (0 ≤ E0.get f → bs = bytesL (E0.get f).toNat (widE f)) ∧ OwnB W.heap.size w' v bs ∧ Below W.heap.size W w') := Go.Lib.hid (fun W => ref22_Bytes (E0.get f) hri (widE f) (by omega) W)
        have HPS := Go.Lib.hid (puts_snoc E0 hat)
        have HFS := Go.Lib.hid (fun h => fits_snoc hat HFT.out h)
        have HFI : Hid (E1.set f (E0.get f) = fillE ((shapeP O).take (j + 1)) E0 (invE (A : Nat) (O : Nat))) := Go.Lib.hid (by rw [HZ.out]; exact (fill_snoc E0 _ hat).symm)
        have HLI : Hid (((limE (widE f) : Nat) : Int) = ((256 ^ widE f : Nat) : Int)) := Go.Lib.hid rfl
        have HNF : Hid (¬ (0 ≤ E0.get f ∧ E0.get f < (limE (widE f) : Nat)) → layP E0 = none) := Go.Lib.hid (fun h => by rw [HLY.out, if_neg (fun q => h (q.1 (f, widE f) (List.mem_of_getElem? hat)))])
        have HFL : Hid (0 ≤ E0.get f ∧ E0.get f < (limE (widE f) : Nat) → fitsE ((shapeP O).take (j + 1)) E0) := Go.Lib.hid (fun h => HFS.out h)
        have hi8 : (Tryz.prog.info? 53).map (·.size) = some 8 := by kernel_rfl
        have HI8 := Go.Lib.hid hi8
        obtain ⟨E2, hE2⟩ : ∃ E2 : Ent, E2 = E1.set f (E0.get f) := ⟨_, rfl⟩
        rw [← hE2] at HSE HFI
        have hRO : ∀ i, i < 8 → True := fun _ _ => trivial
        have q0 : wr.cell? ⟨w.heap.size, 0, none⟩ = some (.int .i64 1) := cell_of_row _ _ _ _ _ _ HRA.out
        have q1 : wr.cell? ⟨w.heap.size, 1, none⟩ = some (.int .i64 (A : Nat)) := cell_of_row _ _ _ _ _ _ HRA.out
        have q2 : wr.cell? ⟨w.heap.size, 2, none⟩ = some (.int .i64 (O : Nat)) := cell_of_row _ _ _ _ _ _ HRA.out
        have q3 : wr.cell? ⟨w.heap.size, 3, none⟩ = some (.int .i64 n) := cell_of_row _ _ _ _ _ _ HRA.out
        have q4 : wr.cell? ⟨w.heap.size, 4, none⟩ = some (.int .i64 g) := cell_of_row _ _ _ _ _ _ HRA.out
        have q5 : wr.cell? ⟨w.heap.size, 5, none⟩ = some (.int .i64 t) := cell_of_row _ _ _ _ _ _ HRA.out
        have q6 : wr.cell? ⟨w.heap.size, 6, none⟩ = some (.int .i64 r) := cell_of_row _ _ _ _ _ _ HRA.out
        have q7 : wr.cell? ⟨w.heap.size, 7, none⟩ = some (.int .i64 u) := cell_of_row _ _ _ _ _ _ HRA.out
        have r0 : wr.cell? ⟨w.heap.size + 1, 0, none⟩ = some (.int .i64 E1.kind) := cell_of_row _ _ _ _ _ _ HRB.out
        have r1 : wr.cell? ⟨w.heap.size + 1, 1, none⟩ = some (.int .i64 E1.worker) := cell_of_row _ _ _ _ _ _ HRB.out
        have r2 : wr.cell? ⟨w.heap.size + 1, 2, none⟩ = some (.int .i64 E1.op) := cell_of_row _ _ _ _ _ _ HRB.out
        have r3 : wr.cell? ⟨w.heap.size + 1, 3, none⟩ = some (.int .i64 E1.node) := cell_of_row _ _ _ _ _ _ HRB.out
        have r4 : wr.cell? ⟨w.heap.size + 1, 4, none⟩ = some (.int .i64 E1.gen) := cell_of_row _ _ _ _ _ _ HRB.out
        have r5 : wr.cell? ⟨w.heap.size + 1, 5, none⟩ = some (.int .i64 E1.time) := cell_of_row _ _ _ _ _ _ HRB.out
        have r6 : wr.cell? ⟨w.heap.size + 1, 6, none⟩ = some (.int .i64 E1.arg) := cell_of_row _ _ _ _ _ _ HRB.out
        have r7 : wr.cell? ⟨w.heap.size + 1, 7, none⟩ = some (.int .i64 E1.user) := cell_of_row _ _ _ _ _ _ HRB.out
        have b5 : (0 : Int) ≤ (j : Int) := by omega
        have b6 : (j : Int) < (N : Int) := by omega
        clear hat hch hc256 hri hE2 hRO HFS HLI hi8 HFT HZ
        generalize chrE f = ch at *
        generalize E0.get f = X at *
        generalize hk : widE f = k at *
        generalize limE k = lm at *
        have HK := Go.Lib.hid hk
        clear hk
        go_wp2_with fail
        go_still_tail 4, (by kernel_rfl)
        change wpList _ _ _ _ _ (World.drew _)
        go_wp2_with fail
        refine (HGE.out _).mono ?_
        rintro e w4 ⟨rfl, hb4⟩
        have hbd : Below wr.heap.size wr w4 := (Below.refl _ _).drew.trans hb4
        replace HRA := Go.Lib.hid (row_below hbd HRA.out)
        replace HRB := Go.Lib.hid (row_below hbd HRB.out)
        replace HOW := Go.Lib.hid (own_below HOW.out hbd)
        replace HBW := Go.Lib.hid (HBW.out.trans (hbd.mono HBW.out.size))
        replace hbs := Nat.le_trans hbs hbd.size
        clear hb4 hbd q0 q1 q2 q3 q4 q5 q6 q7 r0 r1 r2 r3 r4 r5 r6 r7
        go_wp2_with fail
        refine (HWD.out _).mono ?_
        rintro e w' ⟨rfl, hw'⟩
        obtain rfl : w4 = w' := hw'.symm
        go_wp2_with fail
        refine (HLM.out _).mono ?_
        rintro e w' ⟨rfl, hw'⟩
        obtain rfl : w4 = w' := hw'.symm
        go_wp2_with fail
        by_cases hf : 0 ≤ X ∧ X < (lm : Int)
        · rw [decide_eq_true hf] at HIN
          refine (HIN.out _).mono ?_
          rintro e w' ⟨rfl, hw'⟩
          obtain rfl : w4 = w' := hw'.symm
          have HX0 := Go.Lib.hid hf.1
          have HFT2 := Go.Lib.hid (HFL.out hf)
          clear hf HNF HFL HIN HLM HGE
          go_wp2_with fail
          refine (HWD.out _).mono ?_
          rintro e w' ⟨rfl, hw'⟩
          obtain rfl : w4 = w' := hw'.symm
          go_wp2_with fail
          refine (HBT.out _).mono ?_
          rintro e w5 ⟨v5, bs, rfl, hlb, hbx, ho5, hb5⟩
          obtain rfl := hbx HX0.out
          have HKB := Go.Lib.hid (KBb.own ho5)
          replace HRA := Go.Lib.hid (row_below hb5 HRA.out)
          replace HRB := Go.Lib.hid (row_below hb5 HRB.out)
          replace HOW := Go.Lib.hid (own_below HOW.out hb5)
          replace HBW := Go.Lib.hid (HBW.out.trans (hb5.mono HBW.out.size))
          replace hbs := Nat.le_trans hbs hb5.size
          have HLB : Hid (cur.length + (bytesL X.toNat k).length ≤ 1000000) := Go.Lib.hid (by rw [bytesL_len]; have := HCL.out; have := hkk; omega)
          clear ho5 hb5 hlb hbx HBT
          generalize hbb : bytesL X.toNat k = bb at *
          have HBB2 := Go.Lib.hid hbb
          clear hbb
          go_wp2_with (first
            | (at_builtin; refine wpList_append_kb rfl _ _ rfl B0 _ cur rfl HOW.out _ _ bb rfl HKB.out HLB.out hbs ?_; intro v6 w6 hown6 hto6; have HOW6 : Hid (OwnB B0 w6 v6 (cur ++ bb)) := Go.Lib.hid hown6; have HRA6 := Go.Lib.hid (hto6.keep _ _ _ _ (by decide) HRA.out); have HRB6 := Go.Lib.hid (hto6.keep _ _ _ _ (by decide) HRB.out); have HBW6 := Go.Lib.hid (HBW.out.trans (hto6.below.mono (by omega))); have hbs6 := Nat.le_trans hbs hto6.below.size; clear hown6 hto6 HOW HRA HRB HBW HKB)
            | fail)
          have r0 : w6.cell? ⟨w.heap.size + 1, 0, none⟩ = some (.int .i64 E1.kind) := cell_of_row _ _ _ _ _ _ HRB6.out
          have r1 : w6.cell? ⟨w.heap.size + 1, 1, none⟩ = some (.int .i64 E1.worker) := cell_of_row _ _ _ _ _ _ HRB6.out
          have r2 : w6.cell? ⟨w.heap.size + 1, 2, none⟩ = some (.int .i64 E1.op) := cell_of_row _ _ _ _ _ _ HRB6.out
          have r3 : w6.cell? ⟨w.heap.size + 1, 3, none⟩ = some (.int .i64 E1.node) := cell_of_row _ _ _ _ _ _ HRB6.out
          have r4 : w6.cell? ⟨w.heap.size + 1, 4, none⟩ = some (.int .i64 E1.gen) := cell_of_row _ _ _ _ _ _ HRB6.out
          have r5 : w6.cell? ⟨w.heap.size + 1, 5, none⟩ = some (.int .i64 E1.time) := cell_of_row _ _ _ _ _ _ HRB6.out
          have r6 : w6.cell? ⟨w.heap.size + 1, 6, none⟩ = some (.int .i64 E1.arg) := cell_of_row _ _ _ _ _ _ HRB6.out
          have r7 : w6.cell? ⟨w.heap.size + 1, 7, none⟩ = some (.int .i64 E1.user) := cell_of_row _ _ _ _ _ _ HRB6.out
          go_still_tail 5, (by kernel_rfl)
          change wpList _ _ _ _ _ (World.drew _)
          go_wp2_with fail
          refine (HSE.out _).mono ?_
          rintro e w8 ⟨rfl, hb8⟩
          have hbd : Below w6.heap.size w6 w8 := (Below.refl _ _).drew.trans hb8
          replace HRA6 := Go.Lib.hid (row_below hbd HRA6.out)
          replace HRB6 := Go.Lib.hid (row_below hbd HRB6.out)
          replace HOW6 := Go.Lib.hid (own_below HOW6.out hbd)
          replace HBW6 := Go.Lib.hid (HBW6.out.trans (hbd.mono HBW6.out.size))
          replace hbs6 := Nat.le_trans hbs6 hbd.size
          clear hb8 hbd r0 r1 r2 r3 r4 r5 r6 r7
          go_wp2_with (first
            | ((with_reducible refine wpList_store_rowTo (o := ⟨_, .store _ _ _, _, _, _, _⟩) rfl _ _ _ rfl ?_ (w.heap.size + 1) #[.int .i64 E2.kind, .int .i64 E2.worker, .int .i64 E2.op, .int .i64 E2.node, .int .i64 E2.gen, .int .i64 E2.time, .int .i64 E2.arg, .int .i64 E2.user] ?_ ?_ 53 #[.int .i64 E1.kind, .int .i64 E1.worker, .int .i64 E1.op, .int .i64 E1.node, .int .i64 E1.gen, .int .i64 E1.time, .int .i64 E1.arg, .int .i64 E1.user] ?_ ?_ ?_ ?_ ?_); rfl; rfl; rfl; exact HRB6.out; exact HI8.out; rfl; exact (by simp [show ∀ k n, (Value.int k n).oneCell' = true from fun _ _ => rfl]); refine Hid.out ?_)
            | fail)
          have HREL : Hid ((w8.setRow (w.heap.size + 1) #[.int .i64 E2.kind, .int .i64 E2.worker, .int .i64 E2.op, .int .i64 E2.node, .int .i64 E2.gen, .int .i64 E2.time, .int .i64 E2.arg, .int .i64 E2.user]).heap[w.heap.size]? = some (.cells #[.int .i64 1, .int .i64 (A : Nat), .int .i64 (O : Nat), .int .i64 n, .int .i64 g, .int .i64 t, .int .i64 r, .int .i64 u] 53) ∧ (w8.setRow (w.heap.size + 1) #[.int .i64 E2.kind, .int .i64 E2.worker, .int .i64 E2.op, .int .i64 E2.node, .int .i64 E2.gen, .int .i64 E2.time, .int .i64 E2.arg, .int .i64 E2.user]).heap[w.heap.size + 1]? = some (.cells #[.int .i64 E2.kind, .int .i64 E2.worker, .int .i64 E2.op, .int .i64 E2.node, .int .i64 E2.gen, .int .i64 E2.time, .int .i64 E2.arg, .int .i64 E2.user] 53) ∧ OwnB B0 (w8.setRow (w.heap.size + 1) #[.int .i64 E2.kind, .int .i64 E2.worker, .int .i64 E2.op, .int .i64 E2.node, .int .i64 E2.gen, .int .i64 E2.time, .int .i64 E2.arg, .int .i64 E2.user]) v6 (cur ++ bb) ∧ Below w.heap.size w (w8.setRow (w.heap.size + 1) #[.int .i64 E2.kind, .int .i64 E2.worker, .int .i64 E2.op, .int .i64 E2.node, .int .i64 E2.gen, .int .i64 E2.time, .int .i64 E2.arg, .int .i64 E2.user]) ∧ B0 ≤ (w8.setRow (w.heap.size + 1) #[.int .i64 E2.kind, .int .i64 E2.worker, .int .i64 E2.op, .int .i64 E2.node, .int .i64 E2.gen, .int .i64 E2.time, .int .i64 E2.arg, .int .i64 E2.user]).heap.size) := Go.Lib.hid ⟨(setRow_ne (by omega)).trans HRA6.out, setRow_heap w8 (w.heap.size + 1) _ _ _ _ HRB6.out, own_setRow HOW6.out HRB6.out (by decide) _, below_setRow HBW6.out (by omega) _, by simpa [World.setRow] using hbs6⟩
          unfold Hid
          clear HRA6 HRB6 HOW6 HBW6 hbs6
          generalize (w8.setRow (w.heap.size + 1) #[.int .i64 E2.kind, .int .i64 E2.worker, .int .i64 E2.op, .int .i64 E2.node, .int .i64 E2.gen, .int .i64 E2.time, .int .i64 E2.arg, .int .i64 E2.user]) = w9 at *
          go_wp2_with fail
          go_roundw
          case rel => exact ⟨j + 1, cur ++ bb, E2, by go_num, by omega, HREL.out.1, HREL.out.2.1, HREL.out.2.2.1, HREL.out.2.2.2.1, HREL.out.2.2.2.2, by rw [HPS.out, HCU.out]; rfl, by rw [List.length_append, ← HBB2.out, bytesL_len]; have := HCL.out; have := hkk; omega, HFT2.out, HFI.out⟩
          case measure => simp [intOf]; omega
        · rw [decide_eq_false hf] at HIN
          have HNN := Go.Lib.hid (HNF.out hf)
          refine (HIN.out _).mono ?_
          rintro e w' ⟨rfl, hw'⟩
          obtain rfl : w4 = w' := hw'.symm
          clear hf HNF HFL HIN HLM HGE
          go_wp2
          go_ret2
          exact HLP.out _ _ (EntPost.no HBW.out HNN.out)
      · have hjn : j = N := by omega
        subst hjn
        have HE1 : Hid (E1 = fillE (shapeP O) E0 (invE (A : Nat) (O : Nat))) := Go.Lib.hid (by rw [HZ.out, HTK.out])
        have HFA : Hid (fitsE (shapeP O) E0) := Go.Lib.hid (by have := HFT.out; rwa [HTK.out] at this)
        have HCA : Hid (cur = y :: A :: putsE (shapeP O) E0) := Go.Lib.hid (by rw [HCU.out, HTK.out])
        obtain ⟨D, hD⟩ := bool_of ((⟨1, (A : Nat), (O : Nat), n, g, t, r, u⟩ : Ent) = ⟨E1.kind, E1.worker, E1.op, E1.node, E1.gen, E1.time, E1.arg, E1.user⟩)
        have HD := Go.Lib.hid hD
        have heq := fun W => eql_ent2 1 (A : Nat) (O : Nat) n g t r u E1.kind E1.worker E1.op E1.node E1.gen E1.time E1.arg E1.user D hD W
        have b1 : ((j : Int) < (j : Int)) = False := by simp
        clear hD HZ HFT HCU
        have q0 : wr.cell? ⟨w.heap.size, 0, none⟩ = some (.int .i64 1) := cell_of_row _ _ _ _ _ _ HRA.out
        have q1 : wr.cell? ⟨w.heap.size, 1, none⟩ = some (.int .i64 (A : Nat)) := cell_of_row _ _ _ _ _ _ HRA.out
        have q2 : wr.cell? ⟨w.heap.size, 2, none⟩ = some (.int .i64 (O : Nat)) := cell_of_row _ _ _ _ _ _ HRA.out
        have q3 : wr.cell? ⟨w.heap.size, 3, none⟩ = some (.int .i64 n) := cell_of_row _ _ _ _ _ _ HRA.out
        have q4 : wr.cell? ⟨w.heap.size, 4, none⟩ = some (.int .i64 g) := cell_of_row _ _ _ _ _ _ HRA.out
        have q5 : wr.cell? ⟨w.heap.size, 5, none⟩ = some (.int .i64 t) := cell_of_row _ _ _ _ _ _ HRA.out
        have q6 : wr.cell? ⟨w.heap.size, 6, none⟩ = some (.int .i64 r) := cell_of_row _ _ _ _ _ _ HRA.out
        have q7 : wr.cell? ⟨w.heap.size, 7, none⟩ = some (.int .i64 u) := cell_of_row _ _ _ _ _ _ HRA.out
        have r0 : wr.cell? ⟨w.heap.size + 1, 0, none⟩ = some (.int .i64 E1.kind) := cell_of_row _ _ _ _ _ _ HRB.out
        have r1 : wr.cell? ⟨w.heap.size + 1, 1, none⟩ = some (.int .i64 E1.worker) := cell_of_row _ _ _ _ _ _ HRB.out
        have r2 : wr.cell? ⟨w.heap.size + 1, 2, none⟩ = some (.int .i64 E1.op) := cell_of_row _ _ _ _ _ _ HRB.out
        have r3 : wr.cell? ⟨w.heap.size + 1, 3, none⟩ = some (.int .i64 E1.node) := cell_of_row _ _ _ _ _ _ HRB.out
        have r4 : wr.cell? ⟨w.heap.size + 1, 4, none⟩ = some (.int .i64 E1.gen) := cell_of_row _ _ _ _ _ _ HRB.out
        have r5 : wr.cell? ⟨w.heap.size + 1, 5, none⟩ = some (.int .i64 E1.time) := cell_of_row _ _ _ _ _ _ HRB.out
        have r6 : wr.cell? ⟨w.heap.size + 1, 6, none⟩ = some (.int .i64 E1.arg) := cell_of_row _ _ _ _ _ _ HRB.out
        have r7 : wr.cell? ⟨w.heap.size + 1, 7, none⟩ = some (.int .i64 E1.user) := cell_of_row _ _ _ _ _ _ HRB.out
        go_wp2
        go_quiet (fail)
        go_wp2
        go_ret2
        have HDE : Hid (D = true ↔ E0 = fillE (shapeP O) E0 (invE (A : Nat) (O : Nat))) := Go.Lib.hid (by rw [← HE1.out, HE0.out]; exact HD.out)
        refine HLP.out _ _ ⟨_, D, rfl, HBW.out.trans ((below_drewN nq).mono HBW.out.size), ?_, fun bs hbs2 => ?_⟩
        · rw [HDE.out, HLY.out]
          by_cases h : E0 = fillE (shapeP O) E0 (invE (A : Nat) (O : Nat))
          · rw [if_pos ⟨HFA.out, h⟩]; exact ⟨fun _ => rfl, fun _ => h⟩
          · rw [if_neg (fun q => h q.2)]; exact ⟨fun q => absurd q h, fun q => by cases q⟩
        · rw [HLY.out] at hbs2
          by_cases h : fitsE (shapeP O) E0 ∧ E0 = fillE (shapeP O) E0 (invE (A : Nat) (O : Nat))
          · rw [if_pos h] at hbs2
            cases hbs2
            rw [← HCA.out]
            exact (KBb.own HOW.out).drewN nq
          · rw [if_neg h] at hbs2; cases hbs2

end Go.Proofs.YtdemhabgaimnmaaGreatDoor
