/- Steps over whole blocks: a guarded load; a way out that hands two structs and a number back. -/
import Derived.Test.YtgemjjpmoejgdaaGreatJoinr
namespace Go.Proofs.YtgemjjpmoejgdaaGreat
open Go.RowKit
set_option maxRecDepth 100000
set_option linter.unusedVariables false

section
variable {P : Program} {ops : Array Oper} {Q : Exit → Act → World → Prop}
theorem wpList_load_row_g {rest : List Oper} {o : Oper} {a : Act} {w : World} (hw : Region.wanted o (yielded ops a.tmps) = true) (ty : TypeId) (x : Operand) (ho : o.op = .load ty x)
    (g : Nat) (hx : a.eval x = .pointer (some ⟨g, 0, none⟩)) (t : TypeId) (cs : Array Value) (fr : Nat × Nat) (d : TypeDesc) (hg : w.heap[g]? = some (.cells cs t fr))
    (hu : P.underlying ty = some d) (hd : (match d with | .struct _ | .array _ _ => true | _ => false) = true) (hi : (P.info? ty).map (·.size) = some cs.size)
    (h : wpList P ops Q rest (a.put o.dst (.agg cs)) w) : wpList P ops Q (o :: rest) a w :=
  wpList_step fun _ hK => by rw [if_pos hw]; exact wp_load_row ty x ho g hx t cs fr d hg hu hd hi (hK _ _ h)
end
section
variable {P : Program} {ops : Array Oper}
/-- Every operation waits for earlier ones alone. -/
def backG (ops : Array Oper) : Bool := (List.range ops.size).all fun i => ((ops[i]?).map fun o => o.after.all fun e => decide (e.on < i) || !Region.binds .any e).getD true
theorem ready_nilG (hb : backG ops = true) {listed : Array Bool} (h : Region.ready .any ops listed = []) : ∀ (n i : Nat), i < n → i < ops.size → listed.getD i true = true := by
  intro n
  induction n with
  | zero => intro i hi; omega
  | succ n ih =>
    intro i hi hlt
    by_cases hin : i < n
    · exact ih i hin hlt
    · obtain rfl : i = n := by omega
      cases hl : listed.getD i true with
      | true => rfl
      | false =>
        have ho : ops[i]? = some ops[i] := Array.getElem?_eq_getElem hlt
        have hmem : i ∈ Region.ready .any ops listed := by
          refine mem_ready.2 ⟨hl, ops[i], ho, fun e he hbd => ?_⟩
          have h1 := List.all_eq_true.1 hb i (List.mem_range.2 hlt)
          rw [ho] at h1
          have h2 : e.on < i := by
            have := Array.all_eq_true_iff_forall_mem.1 h1 e he
            rw [hbd, Bool.not_true, Bool.or_false] at this
            exact of_decide_eq_true this
          have h3 := ih e.on h2 (by omega)
          cases h4 : listed.getD e.on false with
          | true => rfl
          | false =>
            exfalso
            rcases Nat.lt_or_ge e.on listed.size with h5 | h5
            · simp [h5] at h3 h4; rw [h4] at h3; cases h3
            · have h6 : listed.size ≤ i := by omega
              simp [Array.getElem?_eq_none h6] at hl
        rw [h] at hmem
        cases hmem
/-- The law: what holds at first, is kept by each operation whose turn may come, and hands over at the end. -/
theorem wp_region_invG {id : Nat} {Q : Exit → Act → World → Prop} {a : Act} {w : World} {l : List Oper} (INV : Array Bool → Act → World → Prop) (hm : P.follows .mixedOrders = true) (hb : backG l.toArray = true)
    (h0 : INV (Array.replicate l.toArray.size false) a { w with drawn := w.drawn + 1 })
    (hstep : ∀ (i : Nat) (listed : Array Bool) (a : Act) (w : World) (o : Oper), l.toArray[i]? = some o → listed.size = l.toArray.size → INV listed a w → listed.getD i true = false → (∀ e ∈ o.after, Region.binds .any e = true → listed.getD e.on false = true) →
      ∀ K : Act → World → Prop, (∀ a' w', INV (listed.setIfInBounds i true) a' w' → K a' w') → wpOp P l.toArray Q i K a w)
    (hend : ∀ (listed : Array Bool) (a : Act) (w : World), listed.size = l.toArray.size → INV listed a w → (∀ i, i < l.toArray.size → listed.getD i true = true) → Q .normal a w) :
    (Code.region id l.toArray true).wp P Q a w := by
  refine wp_region_any hm ?_
  have key : ∀ (f : Nat) (listed : Array Bool) (a : Act) (w : World), listed.size = l.toArray.size → (listed.toList.countP fun b => !b) ≤ f → INV listed a w → wpAny P .any l.toArray Q f listed a w := by
    intro f
    induction f with
    | zero =>
      intro listed a w hs hc hi
      have hall : ∀ i, i < l.toArray.size → listed.getD i true = true := by
        intro i hlt
        have h1 : (listed.toList.countP fun b => !b) = 0 := by omega
        have h2 := List.countP_eq_zero.1 h1
        have h3 : i < listed.size := by omega
        have h4 := h2 listed[i] (by simp)
        simp [h3]
        simpa using h4
      refine ⟨?_, hend listed a w hs hi hall⟩
      refine List.eq_nil_iff_forall_not_mem.2 fun i hmem => ?_
      obtain ⟨h1, o, ho, _⟩ := mem_ready.1 hmem
      have := hall i (Array.getElem?_eq_some_iff.1 ho).1
      rw [this] at h1
      cases h1
    | succ f ih =>
      intro listed a w hs hc hi
      refine ⟨fun hnil => hend listed a w hs hi fun i hlt => ready_nilG hb hnil (i + 1) i (by omega) hlt, fun i hmem => ?_⟩
      obtain ⟨h1, o, ho, h2⟩ := mem_ready.1 hmem
      refine hstep i listed a w o ho hs hi h1 h2 _ fun a' w' hi' => ih _ a' w' (by simpa using hs) ?_ hi'
      have hlt : i < listed.size := by rw [hs]; exact (Array.getElem?_eq_some_iff.1 ho).1
      have hset : (listed.setIfInBounds i true).toList = listed.toList.set i true := by simp
      rw [hset, List.countP_set (by simpa using hlt)]
      have hfi : listed.toList[i]'(by simpa using hlt) = false := by simp [hlt] at h1; simpa using h1
      rw [hfi]
      show (listed.toList.countP fun b => !b) - 1 + 0 ≤ f
      omega
  exact key _ _ a _ (by simp) (by have := List.countP_le_length (p := fun b => !b) (l := (Array.replicate l.toArray.size false).toList); simpa using this) h0
end
section
variable {P : Program} {ops : Array Oper} {Q : Exit → Act → World → Prop}
theorem wp_region_frG {id : Nat} {a : Act} {w : World} {l : List Oper} (S : List Nat) (tab : List (Nat × Nat × Value)) (J : Array Bool → Act → World → Prop) (hm : P.follows .mixedOrders = true) (hb : backG l.toArray = true) (htab : tab.all (fun p => decide (p.1 < l.toArray.size)) = true)
    (h0 : J (Array.replicate l.toArray.size false) a { w with drawn := w.drawn + 1 })
    (hstep : StepsOk P l.toArray Q S tab J a l 0)
    (hend : ∀ (listed : Array Bool) (a' : Act) (w' : World), Fr S a a' → Vals tab listed a' → J listed a' w' → (∀ i, i < l.toArray.size → listed.getD i true = true) → Q .normal a' w') :
    (Code.region id l.toArray true).wp P Q a w := by
  refine wp_region_invG (fun listed a' w' => Fr S a a' ∧ Vals tab listed a' ∧ J listed a' w') hm hb ⟨Fr.refl _ _, Vals.none htab, h0⟩ ?_ ?_
  · intro i listed a' w' o ho hs hi hun hdep K hK
    have := StepsOk.at l 0 hstep i o (by simpa using ho)
    rw [Nat.zero_add] at this
    refine this listed a' w' hi.1 hi.2.1 hi.2.2 hun (fun j hj => ?_) K fun a'' w'' h1 h2 h3 => hK a'' w'' ⟨h1, h2, h3⟩
    obtain ⟨x, hx, hb'⟩ := Array.any_eq_true.1 hj
    simp only [Bool.and_eq_true, beq_iff_eq] at hb'
    have := hdep _ (Array.getElem_mem hx) hb'.2
    rw [hb'.1] at this
    exact getD_both' this
  · intro listed a' w' hs hi hall
    exact hend listed a' w' hi.1 hi.2.1 hi.2.2 hall
end
theorem setRow_comm (w : World) {g k : Nat} (cs ds : Array Value) (h : g ≠ k) : (w.setRow g cs).setRow k ds = (w.setRow k ds).setRow g cs := by
  unfold World.setRow
  congr 1
  refine Array.ext (by simp) fun i h1 h2 => ?_
  simp only [Array.getElem_modify]
  by_cases e1 : k = i
  · by_cases e2 : g = i
    · omega
    · simp [e1, e2]
  · by_cases e2 : g = i
    · simp [e1, e2]
    · simp [e1, e2]
/-- The world behind some of two stores. -/
def exW (w : World) (b1 b2 : Nat) (r1 r2 : Array Value) : Bool → Bool → World
  | false, false => w
  | true, false => w.setRow b1 r1
  | false, true => w.setRow b2 r2
  | true, true => (w.setRow b1 r1).setRow b2 r2
theorem exW_heap (w : World) {b1 b2 b : Nat} (r1 r2 : Array Value) (h1 : b ≠ b1) (h2 : b ≠ b2) (x y : Bool) : (exW w b1 b2 r1 r2 x y).heap[b]? = w.heap[b]? := by
  cases x <;> cases y <;> simp [exW, setRow_other _ _ _ _ h1, setRow_other _ _ _ _ h2]
theorem exW_one (w : World) {b1 b2 : Nat} (r1 r2 : Array Value) (h : b1 ≠ b2) (y : Bool) : (exW w b1 b2 r1 r2 false y).heap[b1]? = w.heap[b1]? := by
  cases y <;> simp [exW, setRow_other _ _ _ _ h]
theorem exW_two (w : World) {b1 b2 : Nat} (r1 r2 : Array Value) (h : b1 ≠ b2) (x : Bool) : (exW w b1 b2 r1 r2 x false).heap[b2]? = w.heap[b2]? := by
  cases x <;> simp [exW, setRow_other _ _ _ _ (Ne.symm h)]
theorem exW_set1 (w : World) {b1 b2 : Nat} (r1 r2 : Array Value) (h : b1 ≠ b2) (y : Bool) : (exW w b1 b2 r1 r2 false y).setRow b1 r1 = exW w b1 b2 r1 r2 true y := by
  cases y
  · rfl
  · exact setRow_comm w _ _ (Ne.symm h)
theorem exW_set2 (w : World) {b1 b2 : Nat} (r1 r2 : Array Value) (x : Bool) : (exW w b1 b2 r1 r2 x false).setRow b2 r2 = exW w b1 b2 r1 r2 x true := by
  cases x <;> rfl
theorem any_on {e : Array Edge} {j : Nat} (h : (e.any fun x => x.on == j && Region.binds .any x) = true) {listed : Array Bool} (hd : ∀ x ∈ e, Region.binds .any x = true → listed.getD x.on false = true) : listed.getD j true = true := by
  obtain ⟨i, hx, hb⟩ := Array.any_eq_true.1 h
  simp only [Bool.and_eq_true, beq_iff_eq] at hb
  have := hd _ (Array.getElem_mem hx) hb.2
  rw [hb.1] at this
  exact getD_both' this
/-- Two structs are loaded and stored, a number is handed on: in whatever order. -/
theorem exit5 {P : Program} {Q : Exit → Act → World → Prop} {id : Nat} {a : Act} {w : World} {t4 t11 t8 t9 s1 s2 d : Nat} {T1 T2 ty0 ty1 ty2 ty3 ty4 : TypeId} {p0 p1 p2 p3 p4 : String} {e0 e1 e2 e3 e4 : Array Edge} {cv : Value} (hm : P.follows .mixedOrders = true)
    (hb : backG [(⟨some s1, .load T1 (.tmp t4), ty0, p0, e0, none⟩ : Oper), ⟨some s2, .load T2 (.tmp t11), ty1, p1, e1, none⟩, ⟨none, .store T1 (.tmp t8) (.tmp s1), ty2, p2, e2, none⟩, ⟨none, .store T2 (.tmp t9) (.tmp s2), ty3, p3, e3, none⟩, ⟨some d, .assign (.const cv), ty4, p4, e4, none⟩].toArray = true)
    (h2 : (e2.any fun x => x.on == 0 && Region.binds .any x) = true) (h3 : (e3.any fun x => x.on == 1 && Region.binds .any x) = true)
    (hd : s1 < a.tmps.size ∧ s2 < a.tmps.size ∧ d < a.tmps.size ∧ s1 ≠ s2 ∧ s1 ≠ d ∧ s2 ≠ d ∧ t4 ∉ [s1, s2, d] ∧ t11 ∉ [s1, s2, d] ∧ t8 ∉ [s1, s2, d] ∧ t9 ∉ [s1, s2, d])
    {b0 b1 b2 b3 : Nat} {r1 o1 : Array Value} {r2 o2 : Array Value} {q0 q1 q2 q3 : TypeId} {d1 d2 : TypeDesc} (hu1 : P.underlying T1 = some d1) (hk1 : (match d1 with | .struct _ | .array _ _ => true | _ => false) = true) (hi1 : (P.info? T1).map (·.size) = some r1.size)
    (hu2 : P.underlying T2 = some d2) (hk2 : (match d2 with | .struct _ | .array _ _ => true | _ => false) = true) (hi2 : (P.info? T2).map (·.size) = some r2.size)
    (hv : a.eval (.tmp t4) = .pointer (some ⟨b0, 0, none⟩) ∧ a.eval (.tmp t11) = .pointer (some ⟨b3, 0, none⟩) ∧ a.eval (.tmp t8) = .pointer (some ⟨b1, 0, none⟩) ∧ a.eval (.tmp t9) = .pointer (some ⟨b2, 0, none⟩))
    (hne : b0 ≠ b1 ∧ b0 ≠ b2 ∧ b3 ≠ b1 ∧ b3 ≠ b2 ∧ b1 ≠ b2) (B0 : w.heap[b0]? = some (.cells r1 q0)) (B3 : w.heap[b3]? = some (.cells r2 q3)) (B1 : w.heap[b1]? = some (.cells o1 q1)) (B2 : w.heap[b2]? = some (.cells o2 q2))
    (hs1 : o1.size = r1.size) (hs2 : o2.size = r2.size) (hc1 : r1.all (·.oneCell') = true) (hc2 : r2.all (·.oneCell') = true)
    (h : Q .normal (((a.put (some s1) (.agg r1)).put (some s2) (.agg r2)).put (some d) cv) ((w.drew.setRow b1 r1).setRow b2 r2)) :
    (Code.region id [(⟨some s1, .load T1 (.tmp t4), ty0, p0, e0, none⟩ : Oper), ⟨some s2, .load T2 (.tmp t11), ty1, p1, e1, none⟩, ⟨none, .store T1 (.tmp t8) (.tmp s1), ty2, p2, e2, none⟩, ⟨none, .store T2 (.tmp t9) (.tmp s2), ty3, p3, e3, none⟩, ⟨some d, .assign (.const cv), ty4, p4, e4, none⟩].toArray true).wp P Q a w := by
  obtain ⟨z1, z2, z3, n12, n1d, n2d, m4, m11, m8, m9⟩ := hd
  obtain ⟨v4, v11, v8, v9⟩ := hv
  obtain ⟨c1, c2, c3, c4, c5⟩ := hne
  have f0 : ∀ n j : Nat, j < n → (Array.replicate n false).getD j true = false := fun n j hj => by simp [hj]
  refine wp_region_invG (fun listed a' w' => Fr [s1, s2, d] a a' ∧ (listed.getD 0 true = true → slotOf a' s1 = .agg r1) ∧ (listed.getD 1 true = true → slotOf a' s2 = .agg r2) ∧ (listed.getD 4 true = true → slotOf a' d = cv) ∧ w' = exW w.drew b1 b2 r1 r2 (listed.getD 2 true) (listed.getD 3 true)) hm hb ?_ ?_ ?_
  · refine ⟨Fr.refl _ _, fun q => ?_, fun q => ?_, fun q => ?_, ?_⟩
    · rw [f0 _ _ (by simp)] at q; cases q
    · rw [f0 _ _ (by simp)] at q; cases q
    · rw [f0 _ _ (by simp)] at q; cases q
    · rw [f0 _ _ (by simp), f0 _ _ (by simp)]; rfl
  · intro i listed a' w' o ho hs hi hun hdep K hK
    obtain ⟨hf, i0, i1, i4, rfl⟩ := hi
    have hsz := hf.size
    have g : ∀ j, j ≠ i → (listed.setIfInBounds i true).getD j true = listed.getD j true := fun j hj => getD_set_other listed hj
    have hi5 : i < 5 := by
      have := (Array.getElem?_eq_some_iff.1 ho).1
      simpa using this
    match i, hi5 with
    | 0, _ =>
      refine st_load_row (ops := _) rfl b0 ((hf.rest t4 m4).trans v4) q0 r1 (0, 0) d1 ((exW_heap _ _ _ c1 c2 _ _).trans B0) hu1 hk1 hi1 (hK _ _ ⟨hf.put (by simp), fun _ => slot_put_same (by omega), fun q => ?_, fun q => ?_, ?_⟩)
      · rw [slot_put_other (Ne.symm n12)]; exact i1 (by rw [← g 1 (by decide)]; exact q)
      · rw [slot_put_other (Ne.symm n1d)]; exact i4 (by rw [← g 4 (by decide)]; exact q)
      · rw [g 2 (by decide), g 3 (by decide)]
    | 1, _ =>
      refine st_load_row (ops := _) rfl b3 ((hf.rest t11 m11).trans v11) q3 r2 (0, 0) d2 ((exW_heap _ _ _ c3 c4 _ _).trans B3) hu2 hk2 hi2 (hK _ _ ⟨hf.put (by simp), fun q => ?_, fun _ => slot_put_same (by omega), fun q => ?_, ?_⟩)
      · rw [slot_put_other n12]; exact i0 (by rw [← g 0 (by decide)]; exact q)
      · rw [slot_put_other (Ne.symm n2d)]; exact i4 (by rw [← g 4 (by decide)]; exact q)
      · rw [g 2 (by decide), g 3 (by decide)]
    | 2, _ =>
      obtain rfl : o = ⟨none, .store T1 (.tmp t8) (.tmp s1), ty2, p2, e2, none⟩ := (Option.some.inj ho).symm
      have hl := any_on h2 hdep
      rw [hun]
      refine st_store_row (ops := _) rfl b1 r1 ((hf.rest t8 m8).trans v8) (i0 hl) q1 o1 ((exW_one _ _ _ c5 _).trans B1) hi1 hs1 hc1 (hK _ _ ⟨hf, fun q => i0 hl, fun q => i1 (by rw [← g 1 (by decide)]; exact q), fun q => i4 (by rw [← g 4 (by decide)]; exact q), ?_⟩)
      rw [g 3 (by decide), getD_set_true, exW_set1 _ _ _ c5]
    | 3, _ =>
      obtain rfl : o = ⟨none, .store T2 (.tmp t9) (.tmp s2), ty3, p3, e3, none⟩ := (Option.some.inj ho).symm
      have hl := any_on h3 hdep
      rw [hun]
      refine st_store_row (ops := _) rfl b2 r2 ((hf.rest t9 m9).trans v9) (i1 hl) q2 o2 ((exW_two _ _ _ c5 _).trans B2) hi2 hs2 hc2 (hK _ _ ⟨hf, fun q => i0 (by rw [← g 0 (by decide)]; exact q), fun q => i1 hl, fun q => i4 (by rw [← g 4 (by decide)]; exact q), ?_⟩)
      rw [g 2 (by decide), getD_set_true, exW_set2]
    | 4, _ =>
      refine st_gen (ops := _) rfl ?_
      unfold Oper.wp
      have e : (execOp a'.eval ⟨some d, .assign (.const cv), ty4, p4, e4, none⟩).run P (exW w.drew b1 b2 r1 r2 (listed.getD 2 true) (listed.getD 3 true)) = .ok (.value cv) (exW w.drew b1 b2 r1 r2 (listed.getD 2 true) (listed.getD 3 true)) := rfl
      rw [e]
      refine hK _ _ ⟨hf.put (by simp), fun q => ?_, fun q => ?_, fun _ => slot_put_same (by omega), ?_⟩
      · rw [slot_put_other n1d]; exact i0 (by rw [← g 0 (by decide)]; exact q)
      · rw [slot_put_other n2d]; exact i1 (by rw [← g 1 (by decide)]; exact q)
      · rw [g 2 (by decide), g 3 (by decide)]
  · intro listed a' w' hs hi hall
    obtain ⟨hf, i0, i1, i4, rfl⟩ := hi
    have e := hf.lit
    simp only [List.foldl] at e
    rw [i0 (hall 0 (by simp)), i1 (hall 1 (by simp)), i4 (hall 4 (by simp))] at e
    rw [e, hall 2 (by simp), hall 3 (by simp)]
    exact h
theorem results_cct {fn : Func} {p q u : Tmp} {T1 T2 : TypeId} (h : fn.results = #[.cell p T1, .cell q T2, .tmp u]) (tmps : Array Value) (P : Program) (w : World) {b1 b2 : Nat} {r1 r2 : Array Value} {q1 q2 : TypeId} {v : Value} {d1 d2 : TypeDesc}
    (hp : tmps.getD p undef = .pointer (some ⟨b1, 0, none⟩)) (hq : tmps.getD q undef = .pointer (some ⟨b2, 0, none⟩)) (hv : tmps.getD u undef = v)
    (B1 : w.heap[b1]? = some (.cells r1 q1)) (B2 : w.heap[b2]? = some (.cells r2 q2))
    (hk1 : (match d1 with | .struct _ | .array _ _ => true | _ => false) = true) (hu1 : P.underlying T1 = some d1) (hi1 : (P.info? T1).map (·.size) = some r1.size)
    (hk2 : (match d2 with | .struct _ | .array _ _ => true | _ => false) = true) (hu2 : P.underlying T2 = some d2) (hi2 : (P.info? T2).map (·.size) = some r2.size) :
    (results fn tmps).run P w = .ok (.tuple #[.agg r1, .agg r2, v]) w := by
  have hp' : tmps[p]?.getD undef = .pointer (some ⟨b1, 0, none⟩) := by simpa using hp
  have hq' : tmps[q]?.getD undef = .pointer (some ⟨b2, 0, none⟩) := by simpa using hq
  have hv' : tmps[u]?.getD undef = v := by simpa using hv
  simp [results, h, hp', hq', hv', asAddr, run_loadVar_row w b1 q1 T1 r1 (0, 0) d1 B1 hu1 (by cases d1 <;> first | rfl | cases hk1) hi1, run_loadVar_row w b2 q2 T2 r2 (0, 0) d2 B2 hu2 (by cases d2 <;> first | rfl | cases hk2) hi2]
theorem Vals.setAt {tab : List (Nat × Nat × Value)} {listed : Array Bool} {a : Act} {i d : Nat} {v : Value} (h : Vals tab listed a) (k : Nat) (hk : tab[k]? = some (i, d, v)) (hn : (tab.map Prod.fst).Nodup) (hchk : tab.all (fun p => decide (p.1 = i ↔ p.2.1 = d)) = true) (hd : d < a.tmps.size) :
    Vals tab (listed.setIfInBounds i true) (a.put (some d) v) :=
  h.set hd hchk fun p hp e => by
    obtain ⟨j, hj, rfl⟩ := List.mem_iff_getElem.1 hp
    obtain ⟨hkl, hke⟩ := List.getElem?_eq_some_iff.1 hk
    have hjk : j = k := by
      rcases Nat.lt_trichotomy j k with q | q | q
      · have := List.pairwise_iff_getElem.1 hn j k (by simpa using hj) (by simpa using hkl) q
        simp [e, hke] at this
      · exact q
      · have := List.pairwise_iff_getElem.1 hn k j (by simpa using hkl) (by simpa using hj) q
        simp [e, hke] at this
    subst hjk
    rw [hke]
theorem st_assign {P : Program} {ops : Array Oper} {Q : Exit → Act → World → Prop} {i : Nat} {dst : Option Tmp} {x : Operand} {ty : TypeId} {pos : String} {after : Array Edge} {K : Act → World → Prop} {a : Act} {w : World} (v : Value) (ho : ops[i]? = some ⟨dst, .assign x, ty, pos, after, none⟩) (hx : a.eval x = v) (h : K (a.put dst v) w) : wpOp P ops Q i K a w :=
  st_gen ho (by subst hx; exact h)
theorem KRows.below {K : Nat → Prop} {w w' : World} {k : Nat} {v : Value} {rows : List (List Value)} (h : KRows K w k v rows) (hr : ∀ r ∈ rows, r ≠ []) (hb : Below w.heap.size w w') : KRows K w' k v rows :=
  ((h.lt hr).keep fun b hk => hb.block b hk.2).mono fun _ hk => hk.1
theorem KTicks.below {K : Nat → Prop} {w w' : World} {v : Value} {ts : List TickR} (h : KTicks K w v ts) (hb : Below w.heap.size w w') : KTicks K w' v ts :=
  KRows.below h (fun r hr => by obtain ⟨n, _, rfl⟩ := List.mem_map.1 hr; simp [TickR.cells]) hb
theorem KNodes.below {K : Nat → Prop} {w w' : World} {v : Value} {ts : List NodeR} (h : KNodes K w v ts) (hb : Below w.heap.size w w') : KNodes K w' v ts :=
  KRows.below h (fun r hr => by obtain ⟨n, _, rfl⟩ := List.mem_map.1 hr; simp [NodeR.cells]) hb
theorem KFree.below {K : Nat → Prop} {w w' : World} {v : Value} {ts : List Nat} (h : KFree K w v ts) (hb : Below w.heap.size w w') : KFree K w' v ts :=
  KRows.below h (fun r hr => by obtain ⟨n, _, rfl⟩ := List.mem_map.1 hr; simp) hb
theorem KBoxes.below {K : Nat → Prop} {w w' : World} {v : Value} {bs : List (List TickR)} {us : List Value} (h : KBoxes K w v bs us) (hb : Below w.heap.size w w') : KBoxes K w' v bs us :=
  ⟨h.len, h.outer.below (fun r hr => by obtain ⟨n, _, rfl⟩ := List.mem_map.1 hr; simp) hb, fun i u b hu hi => (h.box i u b hu hi).below hb⟩

theorem KNodes.keep6 {K : Nat → Prop} {w w' : World} {v : Value} {ts : List NodeR} (h : KNodes K w v ts) (hb : ∀ b, K b → b < w.heap.size → w'.heap[b]? = w.heap[b]?) : KNodes K w' v ts :=
  ((KRows.lt h (fun r hr => by obtain ⟨n, _, rfl⟩ := List.mem_map.1 hr; simp [NodeR.cells])).keep fun b hk => hb b hk.1 hk.2).mono fun _ hk => hk.1
/-- A way out through Lay: what is held while its region's operations are done in whatever order. -/
structure LayJ (i0 i1 i2 s : Nat) (W : World) (b1 b2 : Nat) (z1 z2 h2 : Array Value) (T1 T2 : TypeId) (r3 : Value → Array Value) (K : Nat → Prop) (B : List (List TickR)) (listed : Array Bool) (a : Act) (w : World) : Prop where
  ex : ∃ vb us, (listed.getD i0 true = true → slotOf a s = .agg (r3 vb) ∧ KBoxes K w vb B us) ∧ w.heap[b1]? = some (.cells (if listed.getD i1 true = true then r3 vb else z1) T1) ∧ w.heap[b2]? = some (.cells (if listed.getD i2 true = true then h2 else z2) T2)
  imp : listed.getD i1 true = true → listed.getD i0 true = true
  oth : ∀ b, b < W.heap.size → b ≠ b1 → b ≠ b2 → w.heap[b]? = W.heap[b]?
  os : w.os = W.os
  tape : w.tape = W.tape
  output : w.output = W.output
  size : W.heap.size ≤ w.heap.size
section
variable {i0 i1 i2 s : Nat} {W : World} {b1 b2 : Nat} {z1 z2 h2 : Array Value} {T1 T2 : TypeId} {r3 : Value → Array Value} {K : Nat → Prop} {B : List (List TickR)} {listed : Array Bool} {a a' : Act} {w w' : World}
theorem LayJ.quiet (h : LayJ i0 i1 i2 s W b1 b2 z1 z2 h2 T1 T2 r3 K B listed a w) {i : Nat} (hi : i0 ≠ i ∧ i1 ≠ i ∧ i2 ≠ i) (ha : slotOf a' s = slotOf a s) (hb : Below w.heap.size w w') : LayJ i0 i1 i2 s W b1 b2 z1 z2 h2 T1 T2 r3 K B (listed.setIfInBounds i true) a' w' := by
  obtain ⟨vb, us, e1, e2, e3⟩ := h.ex
  have g0 := getD_set_other listed (i := i) hi.1
  have g1 := getD_set_other listed (i := i) hi.2.1
  have g2 := getD_set_other listed (i := i) hi.2.2
  refine ⟨⟨vb, us, fun q => ?_, ?_, ?_⟩, ?_, fun b hb' n1 n2 => (hb.block b (Nat.lt_of_lt_of_le hb' h.size)).trans (h.oth b hb' n1 n2), hb.os.trans h.os, hb.tape.trans h.tape, hb.output.trans h.output, Nat.le_trans h.size hb.size⟩
  · rw [g0] at q
    exact ⟨ha.trans (e1 q).1, (e1 q).2.below hb⟩
  · rw [g1]; exact Below.row hb e2
  · rw [g2]; exact Below.row hb e3
  · rw [g0, g1]; exact h.imp
theorem LayJ.lay (h : LayJ i0 i1 i2 s W b1 b2 z1 z2 h2 T1 T2 r3 K B listed a w) (hne : i0 ≠ i1 ∧ i0 ≠ i2) (hun : listed.getD i0 true = false) {vb : Value} {us : List Value} (ha : slotOf a' s = .agg (r3 vb)) (hx : KBoxes K w' vb B us) (hb : Below w.heap.size w w') : LayJ i0 i1 i2 s W b1 b2 z1 z2 h2 T1 T2 r3 K B (listed.setIfInBounds i0 true) a' w' := by
  obtain ⟨vb0, us0, e1, e2, e3⟩ := h.ex
  have g1 := getD_set_other listed (i := i0) (Ne.symm hne.1)
  have g2 := getD_set_other listed (i := i0) (Ne.symm hne.2)
  have h1 : listed.getD i1 true = false := by
    cases q : listed.getD i1 true with
    | false => rfl
    | true => have := h.imp q; rw [hun] at this; cases this
  refine ⟨⟨vb, us, fun _ => ⟨ha, hx⟩, ?_, ?_⟩, fun _ => getD_set_true _ _, fun b hb' n1 n2 => (hb.block b (Nat.lt_of_lt_of_le hb' h.size)).trans (h.oth b hb' n1 n2), hb.os.trans h.os, hb.tape.trans h.tape, hb.output.trans h.output, Nat.le_trans h.size hb.size⟩
  · rw [g1, h1]; rw [h1] at e2; exact Below.row hb e2
  · rw [g2]; exact Below.row hb e3
theorem LayJ.st1 (h : LayJ i0 i1 i2 s W b1 b2 z1 z2 h2 T1 T2 r3 K B listed a w) (hne : i0 ≠ i1 ∧ i1 ≠ i2 ∧ b1 ≠ b2) (hl : listed.getD i0 true = true) (hun : listed.getD i1 true = false) (hk : ∀ b, K b → b ≠ b1) :
    ∃ vb, slotOf a s = .agg (r3 vb) ∧ w.heap[b1]? = some (.cells z1 T1) ∧ LayJ i0 i1 i2 s W b1 b2 z1 z2 h2 T1 T2 r3 K B (listed.setIfInBounds i1 true) a (w.setRow b1 (r3 vb)) := by
  obtain ⟨vb, us, e1, e2, e3⟩ := h.ex
  obtain ⟨f1, f2⟩ := e1 hl
  rw [hun] at e2
  have g0 := getD_set_other listed (i := i1) hne.1
  have g2 := getD_set_other listed (i := i1) (Ne.symm hne.2.1)
  refine ⟨vb, f1, e2, ⟨vb, us, fun _ => ⟨f1, f2.keep fun b hb => setRow_other _ _ _ _ (hk b hb)⟩, ?_, ?_⟩, fun _ => by rw [g0]; exact hl, fun b hb' n1 n2 => (setRow_other _ _ _ _ n1).trans (h.oth b hb' n1 n2), h.os, h.tape, h.output, by rw [size_setRow]; exact h.size⟩
  · rw [getD_set_true]; exact setRow_heap _ _ _ _ _ _ e2
  · rw [g2]; exact (setRow_other _ _ _ _ (Ne.symm hne.2.2)).trans e3
theorem LayJ.one (h : LayJ i0 i1 i2 s W b1 b2 z1 z2 h2 T1 T2 r3 K B listed a w) (hl : listed.getD i0 true = true) {vb : Value} (e : slotOf a s = .agg (r3 vb)) (hinj : ∀ u, Value.agg (r3 u) = .agg (r3 vb) → u = vb) : vb.oneCell' = true := by
  obtain ⟨vb0, us, e1, e2, e3⟩ := h.ex
  obtain ⟨f1, f2⟩ := e1 hl
  have := hinj vb0 (f1.symm.trans e)
  subst this
  exact f2.outer.one
theorem LayJ.st2 (h : LayJ i0 i1 i2 s W b1 b2 z1 z2 h2 T1 T2 r3 K B listed a w) (hne : i0 ≠ i2 ∧ i1 ≠ i2 ∧ b1 ≠ b2) (hun : listed.getD i2 true = false) (hk : ∀ b, K b → b ≠ b2) :
    w.heap[b2]? = some (.cells z2 T2) ∧ LayJ i0 i1 i2 s W b1 b2 z1 z2 h2 T1 T2 r3 K B (listed.setIfInBounds i2 true) a (w.setRow b2 h2) := by
  obtain ⟨vb, us, e1, e2, e3⟩ := h.ex
  rw [hun] at e3
  have g0 := getD_set_other listed (i := i2) hne.1
  have g1 := getD_set_other listed (i := i2) hne.2.1
  refine ⟨e3, ⟨vb, us, fun q => ?_, ?_, ?_⟩, ?_, fun b hb' n1 n2 => (setRow_other _ _ _ _ n2).trans (h.oth b hb' n1 n2), h.os, h.tape, h.output, by rw [size_setRow]; exact h.size⟩
  · rw [g0] at q
    exact ⟨(e1 q).1, (e1 q).2.keep fun b hb => setRow_other _ _ _ _ (hk b hb)⟩
  · rw [g1]; exact (setRow_other _ _ _ _ hne.2.2).trans e2
  · rw [getD_set_true]; exact setRow_heap _ _ _ _ _ _ e3
  · rw [g0, g1]; exact h.imp
theorem LayJ.start {a : Act} (h1 : W.heap[b1]? = some (.cells z1 T1)) (h2' : W.heap[b2]? = some (.cells z2 T2)) (n : Nat) (hi : i0 < n ∧ i1 < n ∧ i2 < n) : LayJ i0 i1 i2 s W b1 b2 z1 z2 h2 T1 T2 r3 K B (Array.replicate n false) a W.drew := by
  have f0 : ∀ j, j < n → (Array.replicate n false).getD j true = false := fun j hj => by simp [hj]
  refine ⟨⟨undef, [], fun q => ?_, ?_, ?_⟩, fun q => ?_, fun _ _ _ _ => rfl, rfl, rfl, rfl, Nat.le_refl _⟩
  · rw [f0 _ hi.1] at q; cases q
  · rw [f0 _ hi.2.1]; exact h1
  · rw [f0 _ hi.2.2]; exact h2'
  · rw [f0 _ hi.2.1] at q; cases q
end
end Go.Proofs.YtgemjjpmoejgdaaGreat
/- Deeds that are done alone, with a caller; a shop in which nothing has happened. -/
namespace Go.Proofs.YtgemjjpmoejgdaaGreat
open Go.RowKit
set_option maxRecDepth 100000
set_option linter.unusedVariables false

theorem Alone.runs {ρ : Type} {R0 : ρ → Arg → St → St × Option (K (PR ρ))} {c : Cf} {κ : K (PR ρ)} {r : ρ} {S : St} {a : Arg} {R' : ShopR} (hR : RMono (prApp c R0)) (h : Alone R0 c κ (.user r) S a R') :
    ∃ d T fn' ft' bx', 1 ≤ d ∧ d ≤ 8 * c.tickets + 17 ∧ RelR c T.m R' fn' ft' bx' ∧ T.n = S.n ∧ T.reg = S.reg ∧ T.sl = S.sl ∧ T.cnt ≤ S.cnt + d ∧ (∃ e, T.log = S.log ++ [e]) ∧
      ∀ T', R0 r a T = (T', none) → Bd T' → ∃ m, 1 ≤ m ∧ m ≤ d ∧ RunsF c (prApp c R0) κ S m T' := by
  obtain ⟨d, q, m', e, fn', ft', bx', hi, h1, h2, h3, hrel⟩ := h.ex
  refine ⟨d, (S.w q m').note e, fn', ft', bx', h1, h2, hrel, rfl, rfl, rfl, by show S.cnt + q ≤ _; omega, ⟨e, rfl⟩, fun T' hT hb => ?_⟩
  have hrun := hi 0
  rw [prApp_user, hT, iterR_none, Nat.zero_add] at hrun
  obtain ⟨m, hm, hr⟩ := runs_of_iter hR d _ _ _ hrun hb
  refine ⟨m, ?_, hm, hr⟩
  cases hr <;> omega

theorem freshM_node {c : Cf} (hok : c.Ok) (i j : Nat) (h : i < c.nodes) (hj : j = 1 ∨ j = 2) : freshM c (c.nodesAt + 4 * i + j) = 0 := by
  have h1 := hok.nodesAt_le
  have h2 : c.ticketsAt = c.nodesAt + 4 * c.nodes := rfl
  unfold freshM chains
  rw [stateM_off _ _ _ _ (fun i' _ => by omega), chainM_off _ _ _ _ (fun i' _ => by omega)]
  unfold upd
  rw [if_neg (by omega), chainM_off _ _ _ _ (fun i' hi' => by omega), if_neg (by omega)]
/-- A shop in which nothing has happened. -/
def freshR (c : Cf) : ShopR := { clock := 0, free := List.range' 0 c.nodes, tickets := c.tickets, nodes := List.replicate c.nodes { gen := c.first, time := 0, status := 0, user := 0, hgen := 0, hver := 0, hshard := 0 }, boxes := List.replicate c.workers [] }
theorem freshW_parts {c : Cf} (hok : c.Ok) : part (freshW c) 32 32 = c.first ∧ part (freshW c) 0 2 = 0 := by
  have h := hok.f2
  have h3 := state_parts3 c.first 0 0 (by omega) (by decide) (by decide)
  exact ⟨h3.1, h3.2.2⟩
theorem rel_fresh {c : Cf} (hok : c.Ok) : RelR c (freshM c) (freshR c) (List.range' 0 c.nodes) (List.range' 0 c.tickets) (fun _ => []) where
  shop := shop_fresh hok
  clock := freshM_zero hok
  cl := by show 0 ≤ _; omega
  free := rfl
  tickets := by show c.tickets = _; simp
  nl := by show (List.replicate _ _).length = _; simp
  node := fun x n h => by
    have h' : (List.replicate c.nodes ({ gen := c.first, time := 0, status := 0, user := 0, hgen := 0, hver := 0, hshard := 0 } : NodeR))[x]? = some n := h
    rw [List.getElem?_replicate] at h'
    split at h'
    · rename_i hx
      cases h'
      have hp := freshW_parts hok
      have h1 := freshM_node hok x 1 hx (.inl rfl)
      refine ⟨by rw [freshM_state x hx]; exact hp.1, by rw [freshM_state x hx]; exact hp.2, fun q => absurd (show (0 : Nat) = 1 from q) (by decide), fun q => absurd (show (0 : Nat) = 1 from q) (by decide), ?_, ?_, ?_⟩ <;> rw [h1] <;> simp [part]
    · cases h'
  bl := by show (List.replicate _ _).length = _; simp
  box := fun s hs => by show (List.replicate _ _).getD s [] = _; simp [hs]
  idle := fun x hx => by
    have hx' : x < c.nodes := by have := List.mem_range'_1.1 hx; omega
    rw [freshM_state x hx', (freshW_parts hok).2]
    decide
end Go.Proofs.YtgemjjpmoejgdaaGreat
/- The clock goes on by one: the document's shop, too. Without a program. -/
namespace Go.Proofs.YtgemjjpmoejgdaaGreat
open Go.RowKit
set_option maxRecDepth 100000
set_option linter.unusedVariables false

theorem rel_tick {c : Cf} {m m' : Nat → Nat} {R : ShopR} {fn ft : List Nat} {bx : Nat → List Nat} (hok : c.Ok) (h : RelR c m R fn ft bx) (h0 : m' 0 = m 0 + 1) (hm : ∀ j, j ≠ 0 → m' j = m j) (hc : R.clock + 1 ≤ 1073741823) : RelR c m' { R with clock := R.clock + 1 } fn ft bx := by
  have n9 := hok.nodesAt_le
  have ht9 : 9 ≤ c.ticketsAt := by unfold Cf.ticketsAt; omega
  refine ⟨⟨?_, ?_, ?_, h.shop.nlt, h.shop.tlt, h.shop.blt, h.shop.nnd, h.shop.tnd, h.shop.bnd, h.shop.tb, h.shop.bb, ?_⟩, ?_, hc, h.free, h.tickets, h.nl, ?_, h.bl, ?_, ?_⟩
  · rw [hm 1 (by omega)]
    exact h.shop.nodes.same fun x hx => hm _ (by have := nlk_lt (h.shop.nlt x hx); omega)
  · rw [hm 2 (by omega)]
    exact h.shop.tickets.same fun x hx => hm _ (by have := tlk_lt (h.shop.tlt x hx); omega)
  · intro s hs
    have hb := inb_bd hs
    rw [hm _ (by omega)]
    exact (h.shop.boxes s hs).same fun x hx => hm _ (by have := tlk_lt (h.shop.blt s hs x hx); omega)
  · intro s hs x hx
    rw [hm _ (by omega)]
    exact h.shop.key s hs x hx
  · rw [h0, h.clock]
  · intro x n hx
    exact (h.node x n hx).same (hm _ (by omega)) (hm _ (by omega)) (hm _ (by omega))
  · intro s hs
    show R.boxes.getD s [] = _
    rw [h.box s hs]
    refine List.map_congr_left fun t ht => ?_
    unfold tickOf
    rw [hm _ (by omega), hm _ (by omega)]
  · intro x hx
    rw [hm _ (by omega)]
    exact h.idle x hx
theorem dueR_int (slack d : Nat) : ((dueR slack d : Nat) : Int) = upI (d : Int) (slack : Int) := by
  have h := upI_bd (d := (d : Int)) (slack := (slack : Int))
  unfold dueR
  rw [toU_nat h.1 h.2]
  omega
/-- What a Start answers where it takes effect: the parts of its way, as the document's text takes them. -/
theorem startR_parts (slack : Nat) (R : ShopR) (ticks shard user : Int) (h1 : ¬ (ticks < 0 ∨ user < 0 ∨ ¬ shardR R shard)) (h2 : ¬ 1073741823 - (R.clock : Int) < ticks) {x : Nat} {fs : List Nat} (h3 : R.free = x :: fs) (h4 : ¬ (R.nodes.getD x default).gen = 4294967295) (h5 : ¬ R.tickets = 0) :
    startR slack R ticks shard user = (layR { R with free := fs, tickets := R.tickets - 1, nodes := R.nodes.set x { R.nodes.getD x default with gen := (R.nodes.getD x default).gen + 1, time := R.clock + ticks.toNat, status := 1, user := user.toNat } } shard.toNat
          ⟨x, (R.nodes.getD x default).gen + 1, 0, dueR slack (R.clock + ticks.toNat)⟩, (x : Int), (((R.nodes.getD x default).gen + 1 : Nat) : Int), (0 : Int)) := by
  unfold startR
  rw [if_neg h1, if_neg h2, h3]
  dsimp only
  rw [if_neg h4, if_neg h5]
end Go.Proofs.YtgemjjpmoejgdaaGreat
