/- A region by an invariant: what its slots hold, by a table. -/
import Derived.Test.YtdemhabgaimnmaaGreatDoorJstd
import Derived.Deep.Cut
import Derived.Deep.MidRow
import Derived.Deep.Heap
import Derived.Great.BuildSlice
import Derived.Laws.CopyOwn
import Derived.Laws.OwnMore
import Derived.Maps.AppendAt
import Derived.Laws.BitsAllLaws
namespace Go.Proofs.YtdemhabgaimnmaaGreatDoor
open Go
set_option linter.unusedVariables false

/-- What a slot holds. -/
def slotOf (a : Act) (s : Nat) : Value := a.tmps.getD s undef
theorem slot_eval (a : Act) (s : Nat) : a.eval (.tmp s) = slotOf a s := rfl
theorem slot_put_same {a : Act} {d : Nat} {v : Value} (h : d < a.tmps.size) : slotOf (a.put (some d) v) d = v := by
  unfold slotOf Act.put
  dsimp only
  simp [h]
theorem slot_put_other {a : Act} {d s : Nat} {v : Value} (h : s ≠ d) : slotOf (a.put (some d) v) s = slotOf a s := by
  unfold slotOf Act.put
  dsimp only
  by_cases hs : s < a.tmps.size
  · simp [hs, Ne.symm h]
  · simp [hs]
/-- Only these slots were turned. -/
structure Fr (S : List Nat) (a0 a : Act) : Prop where
  size : a.tmps.size = a0.tmps.size
  defers : a.defers = a0.defers
  rest : ∀ s, s ∉ S → slotOf a s = slotOf a0 s
theorem Fr.refl (S : List Nat) (a : Act) : Fr S a a := ⟨rfl, rfl, fun _ _ => rfl⟩
theorem Fr.put {S : List Nat} {a0 a : Act} {d : Nat} {v : Value} (h : Fr S a0 a) (hd : d ∈ S) : Fr S a0 (a.put (some d) v) :=
  ⟨by rw [← h.size]; unfold Act.put; simp, h.defers, fun s hs => by rw [slot_put_other (fun e => hs (by rw [e]; exact hd))]; exact h.rest s hs⟩
theorem foldl_put_size (S : List Nat) (f : Nat → Value) : ∀ a : Act, (S.foldl (fun x d => x.put (some d) (f d)) a).tmps.size = a.tmps.size := by
  induction S with
  | nil => intro a; rfl
  | cons d S ih => intro a; rw [List.foldl_cons, ih]; unfold Act.put; simp
theorem foldl_put_defers (S : List Nat) (f : Nat → Value) : ∀ a : Act, (S.foldl (fun x d => x.put (some d) (f d)) a).defers = a.defers := by
  induction S with
  | nil => intro a; rfl
  | cons d S ih => intro a; rw [List.foldl_cons, ih]; rfl
theorem foldl_put_slot (S : List Nat) (f : Nat → Value) (s : Nat) : ∀ a : Act, s < a.tmps.size → slotOf (S.foldl (fun x d => x.put (some d) (f d)) a) s = if s ∈ S then f s else slotOf a s := by
  induction S with
  | nil => intro a _; rfl
  | cons d S ih =>
    intro a hs
    rw [List.foldl_cons, ih _ (by unfold Act.put; simpa using hs)]
    by_cases h1 : s ∈ S
    · rw [if_pos h1, if_pos (List.mem_cons_of_mem _ h1)]
    · rw [if_neg h1]
      by_cases h2 : s = d
      · subst h2
        rw [if_pos (List.mem_cons_self ..), slot_put_same hs]
      · rw [if_neg (by intro q; rcases List.mem_cons.1 q with q | q; exact h2 q; exact h1 q), slot_put_other h2]
/-- The frame, written out. -/
theorem act_ext {a b : Act} (h1 : a.tmps.size = b.tmps.size) (h2 : a.defers = b.defers) (h : ∀ s, s < a.tmps.size → slotOf a s = slotOf b s) : a = b := by
  rcases a with ⟨t, df⟩
  rcases b with ⟨t2, df2⟩
  dsimp only at h1 h2
  rw [Act.mk.injEq]
  refine ⟨Array.ext h1 fun i hi hi2 => ?_, h2⟩
  have e := h i hi
  unfold slotOf at e
  simpa [hi, hi2] using e
theorem Fr.lit {S : List Nat} {a0 a : Act} (h : Fr S a0 a) : a = S.foldl (fun x d => x.put (some d) (slotOf a d)) a0 := by
  refine act_ext (by rw [foldl_put_size]; exact h.size) (by rw [foldl_put_defers]; exact h.defers) fun s hs => ?_
  rw [foldl_put_slot S (slotOf a) s a0 (by rw [← h.size]; exact hs)]
  split
  · rfl
  · rename_i hn; exact h.rest s hn
/-- What has been done has left its value: (operation, slot, value). -/
def Vals (tab : List (Nat × Nat × Value)) (listed : Array Bool) (a : Act) : Prop := ∀ p ∈ tab, listed.getD p.1 true = true → slotOf a p.2.1 = p.2.2
theorem getD_set_other (listed : Array Bool) {i j : Nat} (h : j ≠ i) : (listed.setIfInBounds i true).getD j true = listed.getD j true := by
  by_cases hj : j < listed.size
  · simp [hj, Ne.symm h]
  · simp [hj]
theorem Vals.none {tab : List (Nat × Nat × Value)} {n : Nat} {a : Act} (h : tab.all (fun p => decide (p.1 < n)) = true) : Vals tab (Array.replicate n false) a := by
  intro p hp hl
  have := of_decide_eq_true (List.all_eq_true.1 h p hp)
  simp [this] at hl
theorem Vals.set {tab : List (Nat × Nat × Value)} {listed : Array Bool} {a : Act} {i d : Nat} {v : Value} (h : Vals tab listed a) (hd : d < a.tmps.size) (hchk : tab.all (fun p => decide (p.1 = i ↔ p.2.1 = d)) = true) (hv : ∀ p ∈ tab, p.1 = i → p.2.2 = v) :
    Vals tab (listed.setIfInBounds i true) (a.put (some d) v) := by
  intro p hp hl
  have hc := of_decide_eq_true (List.all_eq_true.1 hchk p hp)
  by_cases e : p.1 = i
  · rw [hc.1 e, slot_put_same hd, hv p hp e]
  · rw [slot_put_other (fun q => e (hc.2 q))]
    exact h p hp (by rw [getD_set_other _ e] at hl; exact hl)
theorem Vals.other {tab : List (Nat × Nat × Value)} {listed : Array Bool} {a : Act} {i d : Nat} {v : Value} (h : Vals tab listed a) (hchk : tab.all (fun p => decide (p.1 ≠ i ∧ p.2.1 ≠ d)) = true) : Vals tab (listed.setIfInBounds i true) (a.put (some d) v) := by
  intro p hp hl
  have hc := of_decide_eq_true (List.all_eq_true.1 hchk p hp)
  rw [slot_put_other hc.2]
  exact h p hp (by rw [getD_set_other _ hc.1] at hl; exact hl)

section
variable {P : Program} {ops : Array Oper} {Q : Exit → Act → World → Prop}
theorem st_gen {i : Nat} {dst : Option Tmp} {op : Op} {ty : TypeId} {pos : String} {after : Array Edge} {K : Act → World → Prop} {a : Act} {w : World} (ho : ops[i]? = some ⟨dst, op, ty, pos, after, none⟩) (h : Oper.wp P ⟨dst, op, ty, pos, after, none⟩ a w K Q) : wpOp P ops Q i K a w := by
  unfold wpOp
  rw [ho]
  exact .inl h
theorem st_move {i : Nat} {dst : Option Tmp} {x : Operand} {ty : TypeId} {pos : String} {after : Array Edge} {K : Act → World → Prop} {a : Act} {w : World} (v : Value) (ho : ops[i]? = some ⟨dst, .move x, ty, pos, after, none⟩) (hx : a.eval x = v) (h : K (a.put dst v) w) : wpOp P ops Q i K a w :=
  st_gen ho (by subst hx; exact h)
theorem st_call {i : Nat} {dst : Option Tmp} {f : FuncId} {args : Array Operand} {ats : Array TypeId} {ty : TypeId} {pos : String} {after : Array Edge} {K : Act → World → Prop} {a : Act} {w : World} (vs : Array Value) (ho : ops[i]? = some ⟨dst, .call ⟨.value (.func f), args, ats⟩, ty, pos, after, none⟩)
    (hen : ∀ args w, (callFunc f args).run P w = .ok (.enter f args) w) (hv : args.map a.eval = vs) (h : Calls P f vs w fun e w' => ∃ v, e = .returned v ∧ K (a.put dst v) w') : wpOp P ops Q i K a w := by
  refine st_gen ho ?_
  unfold Oper.wp
  have e : (execOp a.eval ⟨dst, .call ⟨.value (.func f), args, ats⟩, ty, pos, after, none⟩).run P w = .ok (.enter f vs) w := by
    subst hv
    have e2 : execOp a.eval ⟨dst, .call ⟨.value (.func f), args, ats⟩, ty, pos, after, none⟩ = callFunc f ((#[] ++ args.map a.eval) ++ #[]) := by
      unfold execOp resolve
      simp only [Act.eval]
      rfl
    rw [e2, Array.empty_append, Array.append_empty]
    exact hen _ w
  rw [e, Oper.upon_enter]
  refine h.mono ?_
  rintro e w' ⟨v, rfl, hk⟩
  exact hk

/-- What is owed of one operation. -/
def StepOk (P : Program) (ops : Array Oper) (Q : Exit → Act → World → Prop) (S : List Nat) (tab : List (Nat × Nat × Value)) (J : Array Bool → Act → World → Prop) (a : Act) (i : Nat) (o : Oper) : Prop :=
  ∀ (listed : Array Bool) (a' : Act) (w' : World), Fr S a a' → Vals tab listed a' → J listed a' w' → listed.getD i true = false → (∀ j, (o.after.any fun e => e.on == j && Region.binds .any e) = true → listed.getD j true = true) →
    ∀ K : Act → World → Prop, (∀ a'' w'', Fr S a a'' → Vals tab (listed.setIfInBounds i true) a'' → J (listed.setIfInBounds i true) a'' w'' → K a'' w'') → wpOp P ops Q i K a' w'
def StepsOk (P : Program) (ops : Array Oper) (Q : Exit → Act → World → Prop) (S : List Nat) (tab : List (Nat × Nat × Value)) (J : Array Bool → Act → World → Prop) (a : Act) : List Oper → Nat → Prop
  | [], _ => True
  | o :: l, k => StepOk P ops Q S tab J a k o ∧ StepsOk P ops Q S tab J a l (k + 1)
theorem StepsOk.at {S : List Nat} {tab : List (Nat × Nat × Value)} {J : Array Bool → Act → World → Prop} {a : Act} : ∀ (l : List Oper) (k : Nat), StepsOk P ops Q S tab J a l k → ∀ i o, l[i]? = some o → StepOk P ops Q S tab J a (k + i) o
  | [], _, _, i, o, h => by simp at h
  | x :: l, k, h, 0, o, ho => by
    obtain rfl : x = o := by simpa using ho
    exact h.1
  | x :: l, k, h, i + 1, o, ho => by
    have := StepsOk.at l (k + 1) h.2 i o (by simpa using ho)
    rw [show k + (i + 1) = k + 1 + i by omega]
    exact this
theorem getD_both' {listed : Array Bool} {j : Nat} (h : listed.getD j false = true) : listed.getD j true = true := by
  by_cases hj : j < listed.size
  · simp [hj] at h ⊢; exact h
  · simp [hj] at h
theorem wp_region_fr {id : Nat} {a : Act} {w : World} {l : List Oper} (S : List Nat) (tab : List (Nat × Nat × Value)) (J : Array Bool → Act → World → Prop) (hm : P.follows .mixedOrders = true) (hb : backB l.toArray = true) (htab : tab.all (fun p => decide (p.1 < l.toArray.size)) = true)
    (h0 : J (Array.replicate l.toArray.size false) a { w with drawn := w.drawn + 1 })
    (hstep : StepsOk P l.toArray Q S tab J a l 0)
    (hend : ∀ (listed : Array Bool) (a' : Act) (w' : World), Fr S a a' → Vals tab listed a' → J listed a' w' → (∀ i, i < l.toArray.size → listed.getD i true = true) → Q .normal a' w') :
    (Code.region id l.toArray true).wp P Q a w := by
  refine wp_region_inv (fun listed a' w' => Fr S a a' ∧ Vals tab listed a' ∧ J listed a' w') hm hb ⟨Fr.refl _ _, Vals.none htab, h0⟩ ?_ ?_
  · intro i listed a' w' o ho hs hi hun hdep K hK
    have := StepsOk.at l 0 hstep i o (by simpa using ho)
    rw [Nat.zero_add] at this
    refine this listed a' w' hi.1 hi.2.1 hi.2.2 hun (fun j hj => ?_) K fun a'' w'' h1 h2 h3 => hK a'' w'' ⟨h1, h2, h3⟩
    obtain ⟨x, hx, hb'⟩ := Array.any_eq_true.1 hj
    simp only [Bool.and_eq_true, beq_iff_eq] at hb'
    have := hdep _ (Array.getElem_mem hx) hb'.2
    rw [hb'.1] at this
    exact getD_both' this
  · intro listed a' w' hs hi hall
    exact hend listed a' w' hi.1 hi.2.1 hi.2.2 hall
end
/-- What is owed of the slots behind the operation i: the table's row i. -/
theorem Vals.done {tab : List (Nat × Nat × Value)} {listed : Array Bool} {a : Act} {i d : Nat} {v : Value} (h : Vals tab listed a) (hr : tab.map Prod.fst = List.range tab.length) (hn : (tab.map fun p => p.2.1).Nodup) (hi : tab[i]? = some (i, d, v)) (hd : d < a.tmps.size) :
    Vals tab (listed.setIfInBounds i true) (a.put (some d) v) := by
  have hil : i < tab.length := (List.getElem?_eq_some_iff.1 hi).1
  have hie : tab[i] = (i, d, v) := (List.getElem?_eq_some_iff.1 hi).2
  have h1 : ∀ (j : Nat) (hj : j < tab.length), (tab[j]).1 = j := fun j hj => by
    have := congrArg (fun l => l[j]?) hr
    simp [hj] at this
    exact this
  intro p hp hl
  obtain ⟨j, hj, rfl⟩ := List.mem_iff_getElem.1 hp
  by_cases e : j = i
  · subst e
    rw [hie, slot_put_same hd]
  · have hs : (tab[j]).2.1 ≠ d := fun q => by
      have hj' : j < (tab.map fun p => p.2.1).length := by simpa using hj
      have hi' : i < (tab.map fun p => p.2.1).length := by simpa using hil
      have hpw := List.pairwise_iff_getElem.1 hn
      rcases Nat.lt_or_gt_of_ne e with hlt | hlt
      · exact hpw j i hj' hi' hlt (by simp [hie, q])
      · exact hpw i j hi' hj' hlt (by simp [hie, q])
    rw [slot_put_other hs]
    exact h _ hp (by rw [getD_set_other _ (by rw [h1 j hj]; exact e)] at hl; exact hl)
theorem Vals.get {tab : List (Nat × Nat × Value)} {listed : Array Bool} {a : Act} (h : Vals tab listed a) (k : Nat) {i s : Nat} {v : Value} (hk : tab[k]? = some (i, s, v)) (hl : listed.getD i true = true) : slotOf a s = v :=
  h (i, s, v) (List.mem_of_getElem? hk) hl
end Go.Proofs.YtdemhabgaimnmaaGreatDoor
/- Slices whose rows lie in blocks of a kind; an append of such a slice; steps of a drawn region over whole blocks. -/
namespace Go.Proofs.YtdemhabgaimnmaaGreatDoor
open Go.RowKit
set_option maxRecDepth 100000
set_option linter.unusedVariables false

/-- A slice whose elements are rows of cells. -/
def RowsAt (w : World) (k : Nat) (v : Value) (rows : List (List Value)) : Prop := ∃ p c, v = .slice p rows.length c ∧ ∀ (i : Nat) (r : List Value), rows[i]? = some r → ∃ g off, p = some ⟨g, off, none⟩ ∧ ∀ (j : Nat) (u : Value), r[j]? = some u → w.cell? ⟨g, off + i * k + j, none⟩ = some u
theorem RowsAt.below {w w' : World} {k : Nat} {v : Value} {rows : List (List Value)} (h : RowsAt w k v rows) (hb : Below w.heap.size w w') : RowsAt w' k v rows := by
  obtain ⟨p, c, rfl, h1⟩ := h
  refine ⟨p, c, rfl, fun i r hi => ?_⟩
  obtain ⟨g, off, rfl, h2⟩ := h1 i r hi
  exact ⟨g, off, rfl, fun j u hj => below_cell hb (h2 j u hj)⟩
theorem flat_at {k : Nat} : ∀ (rows : List (List Value)), (∀ r ∈ rows, r.length = k) → ∀ (i : Nat) (r : List Value), rows[i]? = some r → ∀ j, j < k → rows.flatten[i * k + j]? = r[j]?
  | [], _, i, r, hi, j, hj => by cases hi
  | r0 :: rs, hk, i, r, hi, j, hj => by
    have h0 := hk r0 (List.mem_cons_self ..)
    rw [List.flatten_cons]
    cases i with
    | zero =>
      cases hi
      rw [Nat.zero_mul, Nat.zero_add, List.getElem?_append_left (by omega)]
    | succ i =>
      rw [List.getElem?_append_right (by rw [h0, Nat.succ_mul]; omega)]
      have := flat_at rs (fun r hr => hk r (List.mem_cons_of_mem _ hr)) i r hi j hj
      rw [← this, h0]
      congr 1
      rw [Nat.succ_mul]
      omega
theorem flat_len {k : Nat} : ∀ (rows : List (List Value)), (∀ r ∈ rows, r.length = k) → rows.flatten.length = rows.length * k
  | [], _ => by simp
  | r0 :: rs, hk => by
    rw [List.flatten_cons, List.length_append, flat_len rs (fun r hr => hk r (List.mem_cons_of_mem _ hr)), hk r0 (List.mem_cons_self ..), List.length_cons, Nat.succ_mul]
    omega
/-- The cells of a slice in a row. -/
theorem RowsAt.flat {w : World} {k g off n c : Nat} {rows : List (List Value)} (h : RowsAt w k (.slice (some ⟨g, off, none⟩) n c) rows) (hk : ∀ r ∈ rows, r.length = k) (hk0 : 0 < k) : ∀ (j : Nat) (u : Value), rows.flatten[j]? = some u → w.cell? ⟨g, off + j, none⟩ = some u := by
  intro j u hj
  obtain ⟨p, c', e, h1⟩ := h
  injection e with e1 e2 e3
  subst e1
  have hlt : j < rows.length * k := by
    have := (List.getElem?_eq_some_iff.1 hj).1
    rw [flat_len rows hk] at this
    exact this
  have hdiv : j / k < rows.length := Nat.div_lt_of_lt_mul (by rw [Nat.mul_comm]; exact hlt)
  have hg : rows[j / k]? = some rows[j / k] := List.getElem?_eq_getElem hdiv
  obtain ⟨g', off', e4, h2⟩ := h1 (j / k) _ hg
  injection e4 with e4
  injection e4 with e5 e6 e7
  subst e5 e6
  have hm : j % k < k := Nat.mod_lt _ hk0
  have hf := flat_at rows hk (j / k) _ hg (j % k) hm
  have hjj : j / k * k + j % k = j := by rw [Nat.mul_comm]; exact Nat.div_add_mod j k
  rw [hjj, hj] at hf
  have := h2 (j % k) u hf.symm
  rw [Nat.add_assoc, hjj] at this
  exact this
theorem RowsAt.own {w : World} {base k : Nat} {e : TypeId} {v : Value} {rows : List (List Value)} (h : w.ownsRow base e k v rows.length rows.flatten) (hk : ∀ r ∈ rows, r.length = k) : RowsAt w k v rows := by
  obtain ⟨a, cap, rfl⟩ := own_form h
  rcases h.2 with ⟨e0, hn⟩ | ⟨g, cap', cur, e0, _, hb, h1, h2, h3, h4⟩
  · injection e0 with e1 e2 e3
    subst e1
    refine ⟨none, cap, by rw [hn], fun i d hi => ?_⟩
    have : rows = [] := List.length_eq_zero_iff.1 hn
    subst this
    cases hi
  · injection e0 with e1 e2 e3
    subst e1
    refine ⟨some ⟨g, 0, none⟩, cap, by subst e3; rfl, fun i r hi => ⟨g, 0, rfl, fun j u hj => ?_⟩⟩
    have hil : i < rows.length := (List.getElem?_eq_some_iff.1 hi).1
    have hr := hk r (List.mem_of_getElem? hi)
    have hjl : j < k := by have := (List.getElem?_eq_some_iff.1 hj).1; omega
    have hf := flat_at rows hk i r hi j hjl
    rw [hj, ← h4, List.getElem?_take] at hf
    split at hf
    · rw [Nat.zero_add, cell_of_row _ _ _ _ _ _ hb]
      simpa using hf
    · cases hf
/-- A slice whose rows lie in a block of a kind. -/
structure KRows (K : Nat → Prop) (w : World) (k : Nat) (v : Value) (rows : List (List Value)) : Prop where
  at' : RowsAt w k v rows
  kind : ∀ a n c, v = .slice (some a) n c → rows ≠ [] → K a.block
  nil : ∀ n c, v = .slice none n c → c = 0
  cap : ∀ p n c, v = .slice p n c → n ≤ c
theorem KRows.form {K : Nat → Prop} {w : World} {k : Nat} {v : Value} {rows : List (List Value)} (h : KRows K w k v rows) :
    ∃ p c, v = .slice p rows.length c ∧ (p = none → c = 0 ∧ rows = []) := by
  obtain ⟨p, c, rfl, h1⟩ := h.at'
  refine ⟨p, c, rfl, fun e => ?_⟩
  subst e
  refine ⟨h.nil _ _ rfl, ?_⟩
  cases rows with
  | nil => rfl
  | cons r rs =>
    obtain ⟨g, off, e, _⟩ := h1 0 r rfl
    cases e
theorem KRows.one {K : Nat → Prop} {w : World} {k : Nat} {v : Value} {rows : List (List Value)} (h : KRows K w k v rows) : v.oneCell' = true := by
  obtain ⟨p, c, rfl, _⟩ := h.form
  rfl
theorem KRows.keep {K : Nat → Prop} {w w' : World} {k : Nat} {v : Value} {rows : List (List Value)} (h : KRows K w k v rows) (hb : ∀ b, K b → w'.heap[b]? = w.heap[b]?) : KRows K w' k v rows := by
  refine ⟨?_, h.kind, h.nil, h.cap⟩
  obtain ⟨p, c, rfl, h1⟩ := h.at'
  refine ⟨p, c, rfl, fun i r hi => ?_⟩
  obtain ⟨g, off, rfl, h2⟩ := h1 i r hi
  refine ⟨g, off, rfl, fun j u hj => ?_⟩
  have hk := h.kind ⟨g, off, none⟩ _ _ rfl (by intro e; rw [e] at hi; cases hi)
  rw [World.cell?_of_block (hb g hk)]
  exact h2 j u hj
theorem KRows.mono {K K' : Nat → Prop} {w : World} {k : Nat} {v : Value} {rows : List (List Value)} (h : KRows K w k v rows) (hk : ∀ b, K b → K' b) : KRows K' w k v rows :=
  ⟨h.at', fun a n c e hn => hk _ (h.kind a n c e hn), h.nil, h.cap⟩
/-- Blocks that are there. -/
theorem KRows.lt {K : Nat → Prop} {w : World} {k : Nat} {v : Value} {rows : List (List Value)} (h : KRows K w k v rows) (hr : ∀ r ∈ rows, r ≠ []) : KRows (fun b => K b ∧ b < w.heap.size) w k v rows := by
  refine ⟨h.at', fun a n c e hn => ⟨h.kind a n c e hn, ?_⟩, h.nil, h.cap⟩
  obtain ⟨p, c', rfl, h1⟩ := h.at'
  cases rows with
  | nil => exact absurd rfl hn
  | cons r rs =>
    obtain ⟨g, off, rfl, h2⟩ := h1 0 r rfl
    cases hrc : r with
    | nil => exact absurd hrc (hr r (List.mem_cons_self ..))
    | cons u us =>
      have := h2 0 u (by rw [hrc]; rfl)
      have hlt := cell_lt this
      cases e
      exact hlt
/-- A slice without its first element. -/
theorem RowsAt.tail {w : World} {k g off n c c' : Nat} {r : List Value} {rs : List (List Value)} (h : RowsAt w k (.slice (some ⟨g, off, none⟩) n c) (r :: rs)) : RowsAt w k (.slice (some ⟨g, off + k, none⟩) (n - 1) c') rs := by
  obtain ⟨p, c0, e, h1⟩ := h
  injection e with e1 e2 e3
  subst e1 e2
  refine ⟨some ⟨g, off + k, none⟩, c', by rw [List.length_cons, Nat.add_sub_cancel], fun i r' hi => ?_⟩
  obtain ⟨g', off', e, h2⟩ := h1 (i + 1) r' hi
  injection e with e
  injection e with e1 e2 e3
  subst e1 e2
  refine ⟨g, off + k, rfl, fun j u hj => ?_⟩
  have := h2 j u hj
  rw [Nat.succ_mul] at this
  rwa [show off + k + i * k + j = off + (i * k + k) + j by omega]
theorem KRows.tail {K : Nat → Prop} {w : World} {k g off n c c' : Nat} {r : List Value} {rs : List (List Value)} (h : KRows K w k (.slice (some ⟨g, off, none⟩) n c) (r :: rs)) (ht : RowsAt w k (.slice (some ⟨g, off + k, none⟩) (n - 1) c') rs) (hc : n - 1 ≤ c') : KRows K w k (.slice (some ⟨g, off + k, none⟩) (n - 1) c') rs :=
  ⟨ht, fun a n' c'' e _ => (by cases e; exact h.kind ⟨g, off, none⟩ _ _ rfl (by simp)), fun n' c'' e => (by cases e), fun p n' c'' e => (by cases e; exact hc)⟩
theorem KRows.own {K : Nat → Prop} {w : World} {base k : Nat} {e : TypeId} {v : Value} {rows : List (List Value)} (h : w.ownsRow base e k v rows.length rows.flatten) (hk : ∀ r ∈ rows, r.length = k) (hK : ∀ b, base ≤ b → K b) : KRows K w k v rows := by
  refine ⟨RowsAt.own h hk, fun a n c e hn => ?_, fun n c e => ?_, fun p n c e => ?_⟩
  · rcases h.2 with ⟨e0, h0⟩ | ⟨g, cap, cur, e0, hb, _⟩
    · exact absurd (List.length_eq_zero_iff.1 h0) hn
    · rw [e0] at e
      cases e
      exact hK _ hb
  · rcases h.2 with ⟨e0, h0⟩ | ⟨g, cap, cur, e0, hb, _⟩
    · rw [e0] at e
      cases e
      rfl
    · rw [e0] at e
      cases e
  · rcases h.2 with ⟨e0, h0⟩ | ⟨g, cap, cur, e0, _, _, hcap, _⟩
    · rw [e0] at e
      cases e
      exact Nat.le_refl _
    · rw [e0] at e
      cases e
      exact hcap
/-- A slice without its first element, as Go's slicing gives it. -/
theorem KRows.next {K : Nat → Prop} {w : World} {k g off n c : Nat} {r : List Value} {rs : List (List Value)} (h : KRows K w k (.slice (some ⟨g, off, none⟩) n c) (r :: rs)) : KRows K w k (.slice (if c = 1 then some ⟨g, off, none⟩ else some ⟨g, off + k, none⟩) rs.length (c - 1)) rs := by
  have hc := h.cap _ _ _ rfl
  have hn : n = rs.length + 1 := by
    obtain ⟨p, c', e, _⟩ := h.at'
    injection e with _ e _
  subst hn
  by_cases h1 : c = 1
  · subst h1
    rw [if_pos rfl]
    have : rs = [] := List.length_eq_zero_iff.1 (by omega)
    subst this
    exact ⟨⟨_, _, rfl, fun i r hi => by cases hi⟩, fun a n c e hn => absurd rfl hn, fun n c e => (by cases e), fun p n c e => (by cases e; exact Nat.le_refl _)⟩
  · rw [if_neg h1]
    exact KRows.tail (c' := c - 1) h (RowsAt.tail h.at') (by omega)
section
variable {P : Program} {w : World}
/-- An append of any slice to one of the call's own. -/
theorem run_append_rows (base : Nat) (t ty e : TypeId) (i : TypeInfo) (z : Value) (size bytes : Nat) (ht : P.underlying t = some (.slice e)) (hi : P.info? e = some i) (hz : i.zero = some z)
    (hsize : i.size = size) (hby : i.bytes = bytes) (hzs : z.cells.size = size) (hsz : 0 < size)
    (v : Value) (n : Nat) (xs : List Value) (hown : w.ownsRow base e size v n xs) (x : Value) (K : Nat → Prop) (rows : List (List Value)) (hx : KRows K w size x rows) (hl : ∀ r ∈ rows, r.length = size) (h1 : ∀ r ∈ rows, ∀ u ∈ r, u.oneCell' = true)
    (h63 : n + rows.length ≤ maxLen) (hbytes : (n + rows.length) * bytes ≤ 140737488355328) (hbase : base ≤ w.heap.size) :
    ∃ v' w', (Builtin.append_ #[t, t] ty #[v, x]).run P w = .ok v' w' ∧ w'.ownsRow base e size v' (n + rows.length) (xs ++ rows.flatten) ∧ w.grownBy w' v.ownBlock := by
  obtain ⟨p, c, rfl, hp⟩ := hx.form
  cases p with
  | none =>
    obtain ⟨rfl, rfl⟩ := hp rfl
    refine ⟨v, w, run_append_owned_none w base t ty e i size ht hi v n xs hown, ?_, ⟨rfl, rfl, rfl, Nat.le_refl _, fun _ _ _ => rfl⟩⟩
    rw [List.length_nil, Nat.add_zero, List.flatten_nil, List.append_nil]
    exact hown
  | some a =>
    obtain ⟨g, off, rv⟩ := a
    have hflat : ∀ (j : Nat) (u : Value), rows.flatten[j]? = some u → w.cell? ((⟨g, off, rv⟩ : Addr).add j) = some u := by
      intro j u hj
      have hrv : rv = none := by
        obtain ⟨p, c', e, h2⟩ := hx.at'
        cases rows with
        | nil => cases hj
        | cons r rs =>
          obtain ⟨g', off', e', _⟩ := h2 0 r rfl
          rw [e'] at e
          cases e
          rfl
      subst hrv
      have := RowsAt.flat hx.at' hl hsz j u hj
      unfold Addr.add
      split
      · rename_i e; subst e; exact this
      · exact this
    obtain ⟨v', w', hr, h2, h3, _, h5⟩ := run_append_own_at (P := P) w base t ty e i z size bytes ht hi hz hsize hby hzs hsz v n xs hown ⟨g, off, rv⟩ rows.length c rows.flatten (flat_len _ hl) hflat
      (fun u hu => by obtain ⟨r, hr, hu⟩ := List.mem_flatten.1 hu; exact h1 r hr u hu) h63 hbytes hbase
    exact ⟨v', w', hr, h2, h3⟩
theorem wpList_append_rows {ops : Array Oper} {rest : List Oper} {o : Oper} {a : Act} {Q : Exit → Act → World → Prop} (hgd : o.guard = none) (s x : Operand) (t : TypeId)
    (ho : o.op = .call { callee := .builtin .append, args := #[s, x], argTypes := #[t, t] })
    (base : Nat) (e : TypeId) (i : TypeInfo) (z : Value) (size bytes : Nat) (ht : P.underlying t = some (.slice e)) (hi : P.info? e = some i) (hz : i.zero = some z)
    (hsize : i.size = size) (hby : i.bytes = bytes) (hzs : z.cells.size = size) (hsz : 0 < size)
    (v : Value) (n : Nat) (xs : List Value) (hs : a.eval s = v) (hown : w.ownsRow base e size v n xs) (xv : Value) (K : Nat → Prop) (rows : List (List Value)) (hxv : a.eval x = xv) (hx : KRows K w size xv rows) (hl : ∀ r ∈ rows, r.length = size) (h1 : ∀ r ∈ rows, ∀ u ∈ r, u.oneCell' = true)
    (h63 : n + rows.length ≤ maxLen) (hbytes : (n + rows.length) * bytes ≤ 140737488355328) (hbase : base ≤ w.heap.size)
    (h : ∀ v' w', w'.ownsRow base e size v' (n + rows.length) (xs ++ rows.flatten) → w.grownBy w' v.ownBlock → wpList P ops Q rest (a.put o.dst v') w') : wpList P ops Q (o :: rest) a w := by
  refine wpList_plain hgd fun K hK => ?_
  obtain ⟨v', w', hr, h2, h3⟩ := run_append_rows base t o.type e i z size bytes ht hi hz hsize hby hzs hsz v n xs hown xv _ rows hx hl h1 h63 hbytes hbase
  unfold Oper.wp execOp
  simp only [ho, resolve, invoke, builtin, Sem.run_bind, Sem.run_pure, Result.andThen_ok, List.map_toArray, List.map_cons, List.map_nil, hs, hxv, hr]
  exact hK _ _ (h v' w' h2 h3)
end

section
variable {P : Program} {ops : Array Oper} {Q : Exit → Act → World → Prop}
theorem step_append_rows {o : Oper} {a : Act} {K : Act → World → Prop} {E : Prop} {w : World} (hgd : o.guard = none) (s x : Operand) (t : TypeId)
    (ho : o.op = .call { callee := .builtin .append, args := #[s, x], argTypes := #[t, t] })
    (base : Nat) (e : TypeId) (ti : TypeInfo) (z : Value) (size bytes : Nat) (ht : P.underlying t = some (.slice e)) (hi : P.info? e = some ti) (hz : ti.zero = some z)
    (hsize : ti.size = size) (hby : ti.bytes = bytes) (hzs : z.cells.size = size) (hsz : 0 < size)
    (v : Value) (n : Nat) (xs : List Value) (hs : a.eval s = v) (hown : w.ownsRow base e size v n xs) (xv : Value) (Kd : Nat → Prop) (rows : List (List Value)) (hxv : a.eval x = xv) (hx : KRows Kd w size xv rows) (hl : ∀ r ∈ rows, r.length = size) (h1 : ∀ r ∈ rows, ∀ u ∈ r, u.oneCell' = true)
    (h63 : n + rows.length ≤ maxLen) (hbytes : (n + rows.length) * bytes ≤ 140737488355328) (hbase : base ≤ w.heap.size)
    (h : ∀ v' w', w'.ownsRow base e size v' (n + rows.length) (xs ++ rows.flatten) → w.grownBy w' v.ownBlock → K (a.put o.dst v') w') : if Region.wanted o (yielded ops a.tmps) = true then Oper.wp P o a w K Q else E := by
  have hw : Region.wanted o (yielded ops a.tmps) = true := by simp [Region.wanted, hgd]
  rw [if_pos hw]
  obtain ⟨v', w', hr, h2, h3⟩ := run_append_rows base t o.type e ti z size bytes ht hi hz hsize hby hzs hsz v n xs hown xv _ rows hx hl h1 h63 hbytes hbase
  unfold Oper.wp execOp
  simp only [ho, resolve, invoke, builtin, Sem.run_bind, Sem.run_pure, Result.andThen_ok, List.map_toArray, List.map_cons, List.map_nil, hs, hxv, hr]
  exact h v' w' h2 h3
end
end Go.Proofs.YtdemhabgaimnmaaGreatDoor
/- What the bytes of a script say, and which bytes entries have (no program in it). -/
namespace Go.Proofs.YtdemhabgaimnmaaGreatDoor

structure Ent where
  kind : Int
  worker : Int
  op : Int
  node : Int
  gen : Int
  time : Int
  arg : Int
  user : Int
def Ent.list (e : Ent) : List Int := [e.kind, e.worker, e.op, e.node, e.gen, e.time, e.arg, e.user]
theorem Ent.ext_list {a b : Ent} (h : a.list = b.list) : a = b := by
  cases a
  cases b
  simp only [Ent.list, List.cons.injEq, and_true] at h
  obtain ⟨rfl, rfl, rfl, rfl, rfl, rfl, rfl, rfl⟩ := h
  rfl
instance : DecidableEq Ent := fun a b => if h : a.list = b.list then isTrue (Ent.ext_list h) else isFalse (fun e => h (by rw [e]))
def tickE : Ent := ⟨3, 0, 0, 0, 0, 0, 0, 0⟩
def pickE (w : Int) : Ent := ⟨2, w, 0, 0, 0, 0, 0, 0⟩
def invE (w op : Int) : Ent := ⟨1, w, op, 0, 0, 0, 0, 0⟩
def Ent.get (e : Ent) : Nat → Int
  | 3 => e.node
  | 4 => e.gen
  | 5 => e.time
  | 6 => e.arg
  | _ => e.user
def Ent.set (e : Ent) (i : Nat) (n : Int) : Ent :=
  match i with
  | 3 => ⟨e.kind, e.worker, e.op, n, e.gen, e.time, e.arg, e.user⟩
  | 4 => ⟨e.kind, e.worker, e.op, e.node, n, e.time, e.arg, e.user⟩
  | 5 => ⟨e.kind, e.worker, e.op, e.node, e.gen, n, e.arg, e.user⟩
  | 6 => ⟨e.kind, e.worker, e.op, e.node, e.gen, e.time, n, e.user⟩
  | _ => ⟨e.kind, e.worker, e.op, e.node, e.gen, e.time, e.arg, n⟩
def shapeP (op : Nat) : List (Nat × Nat) :=
  if op = 1 then [(5, 4), (6, 1), (7, 4)] else if op = 2 then [(3, 2), (4, 4)] else if op = 3 then [(3, 2), (4, 4), (5, 4)] else if op = 4 then [(3, 2), (4, 4), (6, 1)] else []
def numL : List Nat → Nat
  | [] => 0
  | x :: xs => x + 256 * numL xs
def bytesL : Nat → Nat → List Nat
  | _, 0 => []
  | n, k + 1 => n % 256 :: bytesL (n / 256) k
theorem bytesL_len : ∀ k n, (bytesL n k).length = k
  | 0, _ => rfl
  | k + 1, n => by rw [bytesL, List.length_cons, bytesL_len k]
theorem bytesL_lt : ∀ k n, ∀ x ∈ bytesL n k, x < 256
  | 0, _, x, h => by cases h
  | k + 1, n, x, h => by
    rw [bytesL] at h
    rcases List.mem_cons.1 h with rfl | h
    · omega
    · exact bytesL_lt k _ x h
theorem numL_bytes : ∀ k n, n < 256 ^ k → numL (bytesL n k) = n
  | 0, n, h => by
    have : n = 0 := by simpa using h
    subst this
    rfl
  | k + 1, n, h => by
    rw [bytesL, numL, numL_bytes k (n / 256) (by rw [Nat.pow_succ] at h; exact Nat.div_lt_of_lt_mul (by omega))]
    omega
theorem numL_lt : ∀ l : List Nat, (∀ x ∈ l, x < 256) → numL l < 256 ^ l.length
  | [], _ => by decide
  | x :: xs, h => by
    have h1 := numL_lt xs (fun y hy => h y (List.mem_cons_of_mem _ hy))
    have h2 := h x (List.mem_cons_self ..)
    rw [numL, List.length_cons, Nat.pow_succ]
    omega

def takeP (b : List Nat) (k : Nat) : Option (Nat × List Nat) := if b.length < k then none else some (numL (b.take k), b.drop k)
def partsP : List (Nat × Nat) → Ent → List Nat → Option (Ent × List Nat)
  | [], e, b => some (e, b)
  | (i, k) :: ps, e, b =>
    match takeP b k with
    | none => none
    | some (n, b') => partsP ps (e.set i n) b'
/-- The entry of a first byte, how often it stands there, and what is left. -/
def entryP : List Nat → Option (Ent × Nat × List Nat)
  | [] => none
  | x :: b =>
    if x % 4 = 0 then some (tickE, x / 4 + 1, b)
    else if x % 4 = 1 then some (pickE (x / 4 : Nat), 1, b)
    else
      match b with
      | [] => none
      | y :: b =>
        if x % 4 = 2 then some (pickE (y % 64 : Nat), x / 4 + 1, b)
        else
          match partsP (shapeP (x / 4)) (invE y (x / 4 : Nat)) b with
          | none => none
          | some (e, b) => some (e, 1, b)
theorem partsP_len : ∀ (ps : List (Nat × Nat)) (e : Ent) (b : List Nat) (e' : Ent) (b' : List Nat), partsP ps e b = some (e', b') → b'.length ≤ b.length
  | [], e, b, e', b', h => by
    simp only [partsP, Option.some.injEq, Prod.mk.injEq] at h
    rw [h.2]
    exact Nat.le_refl _
  | (i, k) :: ps, e, b, e', b', h => by
    rw [partsP] at h
    unfold takeP at h
    by_cases hk : b.length < k
    · rw [if_pos hk] at h
      cases h
    · rw [if_neg hk] at h
      have := partsP_len ps _ _ e' b' h
      rw [List.length_drop] at this
      omega
theorem entryP_len {b : List Nat} {e : Ent} {t : Nat} {b' : List Nat} (h : entryP b = some (e, t, b')) : b'.length < b.length := by
  cases b with
  | nil => cases h
  | cons x b =>
    simp only [entryP] at h
    by_cases h0 : x % 4 = 0
    · rw [if_pos h0] at h
      simp only [Option.some.injEq, Prod.mk.injEq] at h
      rw [← h.2.2]
      simp
    · rw [if_neg h0] at h
      by_cases h1 : x % 4 = 1
      · rw [if_pos h1] at h
        simp only [Option.some.injEq, Prod.mk.injEq] at h
        rw [← h.2.2]
        simp
      · rw [if_neg h1] at h
        cases b with
        | nil => cases h
        | cons y b =>
          simp only at h
          by_cases h2 : x % 4 = 2
          · rw [if_pos h2] at h
            simp only [Option.some.injEq, Prod.mk.injEq] at h
            rw [← h.2.2]
            simp
            omega
          · rw [if_neg h2] at h
            cases hp : partsP (shapeP (x / 4)) (invE y (x / 4 : Nat)) b with
            | none => rw [hp] at h; cases h
            | some r =>
              obtain ⟨e1, b1⟩ := r
              rw [hp] at h
              simp only [Option.some.injEq, Prod.mk.injEq] at h
              have := partsP_len _ _ _ _ _ hp
              rw [← h.2.2]
              simp
              omega
/-- All entries of bytes, behind others; none: there are too many. -/
def decF : Nat → List Nat → List Ent → Option (List Ent)
  | 0, _, out => some out
  | f + 1, b, out =>
    match entryP b with
    | none => some out
    | some (e, t, b') => if 20000 < out.length + t then none else decF f b' (out ++ List.replicate t e)
theorem decF_more : ∀ (f g : Nat) (b : List Nat) (out : List Ent), b.length ≤ f → b.length ≤ g → decF f b out = decF g b out
  | 0, g, b, out, hf, hg => by
    have : b = [] := List.length_eq_zero_iff.1 (by omega)
    subst this
    cases g with
    | zero => rfl
    | succ g => rfl
  | f + 1, 0, b, out, hf, hg => by
    have : b = [] := List.length_eq_zero_iff.1 (by omega)
    subst this
    rfl
  | f + 1, g + 1, b, out, hf, hg => by
    rw [decF, decF]
    cases h : entryP b with
    | none => rfl
    | some r =>
      obtain ⟨e, t, b'⟩ := r
      have := entryP_len h
      simp only
      by_cases h1 : 20000 < out.length + t
      · rw [if_pos h1, if_pos h1]
      · rw [if_neg h1, if_neg h1]
        exact decF_more f g b' _ (by omega) (by omega)
def decP (b : List Nat) (out : List Ent) : Option (List Ent) := decF b.length b out
theorem decP_nil (out : List Ent) : decP [] out = some out := rfl
theorem decP_none {b : List Nat} (h : entryP b = none) (out : List Ent) : decP b out = some out := by
  unfold decP
  cases hl : b.length with
  | zero => rfl
  | succ n => rw [decF, h]
theorem decP_full {b : List Nat} {e : Ent} {t : Nat} {b' : List Nat} (h : entryP b = some (e, t, b')) (out : List Ent) (hk : 20000 < out.length + t) : decP b out = none := by
  have hl := entryP_len h
  unfold decP
  cases hn : b.length with
  | zero => omega
  | succ n => rw [decF, h]; simp only; rw [if_pos hk]
theorem decP_some {b : List Nat} {e : Ent} {t : Nat} {b' : List Nat} (h : entryP b = some (e, t, b')) (out : List Ent) (hk : ¬ 20000 < out.length + t) : decP b out = decP b' (out ++ List.replicate t e) := by
  have hl := entryP_len h
  unfold decP
  cases hn : b.length with
  | zero => omega
  | succ n =>
    rw [decF, h]
    simp only
    rw [if_neg hk]
    exact decF_more _ _ _ _ (by omega) (Nat.le_refl _)
/-- An entry's bytes; none: it may not stand in a script. -/
def fillE (ps : List (Nat × Nat)) (e b : Ent) : Ent := ps.foldl (fun b p => b.set p.1 (e.get p.1)) b
def fitsE (ps : List (Nat × Nat)) (e : Ent) : Prop := ∀ p ∈ ps, 0 ≤ e.get p.1 ∧ e.get p.1 < ((256 ^ p.2 : Nat) : Int)
instance (ps : List (Nat × Nat)) (e : Ent) : Decidable (fitsE ps e) := by unfold fitsE; infer_instance
def putsE (ps : List (Nat × Nat)) (e : Ent) : List Nat := ps.flatMap fun p => bytesL (e.get p.1).toNat p.2
def layP (e : Ent) : Option (List Nat) :=
  if e.kind = 3 then (if e = tickE then some [0] else none)
  else if e.kind = 2 then (if (0 ≤ e.worker ∧ e.worker < 64) ∧ e = pickE e.worker then some [(e.worker * 4 + 1).toNat] else none)
  else if e.kind = 1 then
    (if ((0 ≤ e.op ∧ e.op < 64) ∧ 0 ≤ e.worker ∧ e.worker < 256) ∧ fitsE (shapeP e.op.toNat) e ∧ e = fillE (shapeP e.op.toNat) e (invE e.worker e.op)
      then some ((e.op * 4 + 3).toNat :: e.worker.toNat :: putsE (shapeP e.op.toNat) e) else none)
  else none
def encP : List Ent → Option (List Nat)
  | [] => some []
  | e :: es =>
    match layP e with
    | none => none
    | some b => (encP es).map (b ++ ·)
theorem partsP_puts (e : Ent) : ∀ (ps : List (Nat × Nat)) (b : Ent) (r : List Nat), fitsE ps e → partsP ps b (putsE ps e ++ r) = some (fillE ps e b, r)
  | [], b, r, _ => rfl
  | (i, k) :: ps, b, r, h => by
    have hf := h (i, k) (List.mem_cons_self ..)
    have hps : fitsE ps e := fun p hp => h p (List.mem_cons_of_mem _ hp)
    simp only at hf
    have ht : takeP (putsE ((i, k) :: ps) e ++ r) k = some ((e.get i).toNat, putsE ps e ++ r) := by
      unfold takeP putsE
      rw [List.flatMap_cons, List.append_assoc]
      rw [if_neg (by rw [List.length_append, bytesL_len]; omega)]
      rw [List.take_left' (bytesL_len _ _), List.drop_left' (bytesL_len _ _)]
      show some (numL (bytesL (e.get i).toNat k), _) = _
      rw [numL_bytes k _ (by rw [← Int.ofNat_lt, Int.toNat_of_nonneg hf.1]; exact hf.2)]
    rw [partsP, ht]
    simp only
    rw [show (((e.get i).toNat : Nat) : Int) = e.get i by omega]
    exact partsP_puts e ps _ r hps
theorem entryP_lay {e : Ent} {bs : List Nat} (h : layP e = some bs) (r : List Nat) : entryP (bs ++ r) = some (e, 1, r) := by
  unfold layP at h
  by_cases h3 : e.kind = 3
  · rw [if_pos h3] at h
    by_cases h4 : e = tickE
    · rw [if_pos h4] at h
      cases h
      rw [h4]
      rfl
    · rw [if_neg h4] at h; cases h
  · rw [if_neg h3] at h
    by_cases h2 : e.kind = 2
    · rw [if_pos h2] at h
      by_cases h4 : (0 ≤ e.worker ∧ e.worker < 64) ∧ e = pickE e.worker
      · rw [if_pos h4] at h
        cases h
        simp only [List.cons_append, List.nil_append, entryP]
        rw [if_neg (by omega), if_pos (by omega)]
        rw [show (((e.worker * 4 + 1).toNat / 4 : Nat) : Int) = e.worker by omega, ← h4.2]
      · rw [if_neg h4] at h; cases h
    · rw [if_neg h2] at h
      by_cases h1 : e.kind = 1
      · rw [if_pos h1] at h
        by_cases h4 : ((0 ≤ e.op ∧ e.op < 64) ∧ 0 ≤ e.worker ∧ e.worker < 256) ∧ fitsE (shapeP e.op.toNat) e ∧ e = fillE (shapeP e.op.toNat) e (invE e.worker e.op)
        · rw [if_pos h4] at h
          obtain ⟨⟨h5, h6⟩, h7, h8⟩ := h4
          cases h
          simp only [List.cons_append, entryP]
          rw [if_neg (by omega), if_neg (by omega), if_neg (by omega)]
          rw [show (e.op * 4 + 3).toNat / 4 = e.op.toNat by omega, show ((e.worker.toNat : Nat) : Int) = e.worker by omega, show ((e.op.toNat : Nat) : Int) = e.op by omega]
          rw [partsP_puts e _ _ r h7, ← h8]
        · rw [if_neg h4] at h; cases h
      · rw [if_neg h1] at h; cases h
/-- The bytes of entries say these. -/
theorem decP_enc : ∀ (l : List Ent) (bs : List Nat) (out : List Ent), encP l = some bs → out.length + l.length ≤ 20000 → decP bs out = some (out ++ l)
  | [], bs, out, h, _ => by
    cases h
    rw [decP_nil, List.append_nil]
  | e :: es, bs, out, h, hl => by
    rw [encP] at h
    cases hb : layP e with
    | none => rw [hb] at h; cases h
    | some b =>
      rw [hb] at h
      cases hs : encP es with
      | none => rw [hs] at h; cases h
      | some bs' =>
        rw [hs] at h
        cases h
        simp only
        rw [List.length_cons] at hl
        rw [decP_some (entryP_lay hb bs') out (by omega), decP_enc es bs' _ hs (by rw [List.length_append, List.length_replicate]; omega), List.replicate_one, List.append_assoc]
        rfl
theorem encP_snoc : ∀ (l : List Ent) (e : Ent), encP (l ++ [e]) = (encP l).bind fun b => (layP e).map fun c => b ++ c
  | [], e => by
    rw [List.nil_append, encP, encP]
    cases layP e with
    | none => rfl
    | some b => simp [encP]
  | x :: xs, e => by
    rw [List.cons_append, encP, encP]
    cases layP x with
    | none => rfl
    | some b =>
      simp only
      rw [encP_snoc xs e]
      cases encP xs with
      | none => rfl
      | some c =>
        cases layP e with
        | none => rfl
        | some d => simp
theorem encP_cut {l : List Ent} {k : Nat} (h : encP (l.take k) = none) : encP l = none := by
  have : ∀ (a b : List Ent), encP a = none → encP (a ++ b) = none := by
    intro a
    induction a with
    | nil => intro b h; cases h
    | cons x xs ih =>
      intro b h
      rw [List.cons_append, encP]
      rw [encP] at h
      cases hx : layP x with
      | none => rfl
      | some c =>
        rw [hx] at h
        simp only at h ⊢
        cases hs : encP xs with
        | none => rw [ih b hs]; rfl
        | some d => rw [hs] at h; cases h
  have h2 := this _ (l.drop k) h
  rwa [List.take_append_drop] at h2
end Go.Proofs.YtdemhabgaimnmaaGreatDoor
/- Bytes and entries in memory; the small functions of script. -/
namespace Go.Proofs.YtdemhabgaimnmaaGreatDoor
open Go.RowKit
set_option maxRecDepth 100000
set_option linter.unusedVariables false

/-- What a call with a row of its own does to memory: blocks below a base, and blocks of other elements, stay. -/
structure OntoT (B : Nat) (e : TypeId) (w w' : World) : Prop where
  below : Below B w w'
  keep : ∀ (b : Nat) (cs : Array Value) (t : TypeId) (fr : Nat × Nat), t ≠ e → w.heap[b]? = some (.cells cs t fr) → w'.heap[b]? = some (.cells cs t fr)
theorem OntoT.refl (B : Nat) (e : TypeId) (w : World) : OntoT B e w w := ⟨Below.refl _ _, fun _ _ _ _ _ h => h⟩
theorem OntoT.trans {B : Nat} {e : TypeId} {w w1 w2 : World} (h : OntoT B e w w1) (g : OntoT B e w1 w2) : OntoT B e w w2 := ⟨h.below.trans g.below, fun b cs t fr ht hb => g.keep b cs t fr ht (h.keep b cs t fr ht hb)⟩
theorem heap_lt0 {w : World} {b : Nat} {o : Obj} (h : w.heap[b]? = some o) : b < w.heap.size := (Array.getElem?_eq_some_iff.1 h).1
theorem OntoT.alloc {B : Nat} {e : TypeId} {w w1 : World} (h : OntoT B e w w1) (hB : B ≤ w1.heap.size) (o : Obj) : OntoT B e w (w1.alloc o) :=
  ⟨h.below.alloc hB _, fun b cs t fr ht hb => by have := h.keep b cs t fr ht hb; exact (heap_alloc_old _ _ (heap_lt0 this)).trans this⟩
theorem own_type0 {w : World} {base k n b : Nat} {e t : TypeId} {v : Value} {xs : List Value} {cs : Array Value} {fr : Nat × Nat} (h : w.ownsRow base e k v n xs) (hb : w.heap[b]? = some (.cells cs t fr)) (hne : t ≠ e) : v.ownBlock ≠ some b := by
  rcases h.2 with ⟨e0, _⟩ | ⟨g, c, cur, e0, _, hg, _⟩
  · rw [e0]; intro q; cases q
  · rw [e0]
    intro q
    have q : g = b := Option.some.inj q
    rw [q, hb] at hg
    have := Option.some.inj hg
    injection this with _ h2
    exact hne h2
theorem own_base {w : World} {base k n : Nat} {e : TypeId} {v : Value} {xs : List Value} (h : w.ownsRow base e k v n xs) : ∀ b, v.ownBlock = some b → base ≤ b := by
  intro b hb
  rcases h.2 with ⟨e0, _⟩ | ⟨g, c, cur, e0, hg, _⟩
  · rw [e0] at hb; cases hb
  · rw [e0] at hb
    have q : g = b := Option.some.inj hb
    omega
theorem OntoT.grown {B base k n : Nat} {e : TypeId} {w w1 w2 : World} {v : Value} {xs : List Value} (h : OntoT B e w w1) (hown : w1.ownsRow base e k v n xs) (hg : w1.grownBy w2 v.ownBlock) (hB : B ≤ w1.heap.size) (hb : B ≤ base) : OntoT B e w w2 :=
  ⟨h.below.grown hg hB (fun b q => Nat.le_trans hb (own_base hown b q)), fun b cs t fr ht hc => by
    have h1 := h.keep b cs t fr ht hc
    exact (hg.block b (heap_lt0 h1) (Ne.symm (own_type0 hown h1 ht))).trans h1⟩
theorem OntoT.mono {B B' : Nat} {e : TypeId} {w w' : World} (h : OntoT B e w w') (hb : B' ≤ B) : OntoT B' e w w' := ⟨h.below.mono hb, h.keep⟩
theorem OntoT.size {B : Nat} {e : TypeId} {w w' : World} (h : OntoT B e w w') : w.heap.size ≤ w'.heap.size := h.below.size

/-- Bytes in a slice. -/
def KB (K : Nat → Prop) (w : World) (v : Value) (l : List Nat) : Prop := KRows K w 1 v (l.map fun (x : Nat) => [Value.int .u8 (x : Int)])
def Ent.cells (e : Ent) : List Value := [.int .i64 e.kind, .int .i64 e.worker, .int .i64 e.op, .int .i64 e.node, .int .i64 e.gen, .int .i64 e.time, .int .i64 e.arg, .int .i64 e.user]
/-- Entries in a slice. -/
def KE (K : Nat → Prop) (w : World) (v : Value) (l : List Ent) : Prop := KRows K w 8 v (l.map Ent.cells)
theorem KB.open {K : Nat → Prop} {w : World} {v : Value} {l : List Nat} (h : KB K w v l) (hl : 0 < l.length) : ∃ g off c, v = .slice (some ⟨g, off, none⟩) l.length c ∧ l.length ≤ c ∧ ∀ (i x : Nat), l[i]? = some x → w.cell? ⟨g, off + i, none⟩ = some (.int .u8 (x : Int)) := by
  obtain ⟨p, c, hv, h1⟩ := h.at'
  rw [List.length_map] at hv
  subst hv
  have hc := h.cap _ _ _ rfl
  have h0 : (l.map fun (x : Nat) => [Value.int .u8 (x : Int)])[0]? = some [Value.int .u8 (l[0] : Int)] := by rw [List.getElem?_map, List.getElem?_eq_getElem hl]; rfl
  obtain ⟨g, off, rfl, _⟩ := h1 0 _ h0
  refine ⟨g, off, c, rfl, hc, fun i x hi => ?_⟩
  obtain ⟨g', off', e, h2⟩ := h1 i [Value.int .u8 (x : Int)] (by rw [List.getElem?_map, hi]; rfl)
  cases e
  have := h2 0 _ rfl
  rwa [Nat.mul_one, Nat.add_zero] at this
theorem KB.form {K : Nat → Prop} {w : World} {v : Value} {l : List Nat} (h : KB K w v l) : ∃ p c, v = .slice p l.length c ∧ (p = none → c = 0 ∧ l = []) := by
  obtain ⟨p, c, rfl, h1⟩ := KRows.form h
  rw [List.length_map]
  exact ⟨p, c, rfl, fun e => ⟨(h1 e).1, List.map_eq_nil_iff.1 (h1 e).2⟩⟩
theorem KB.keep {K : Nat → Prop} {w w' : World} {v : Value} {l : List Nat} (h : KB K w v l) (hb : ∀ b, K b → w'.heap[b]? = w.heap[b]?) : KB K w' v l := KRows.keep h hb
/-- A slice without its first elements. -/
theorem KRows.drop {K : Nat → Prop} {w : World} {k g off n c m : Nat} {rows : List (List Value)} (h : KRows K w k (.slice (some ⟨g, off, none⟩) n c) rows) (hm : m ≤ rows.length) : KRows K w k (.slice (if c = m then some ⟨g, off, none⟩ else some ⟨g, off + m * k, none⟩) (n - m) (c - m)) (rows.drop m) := by
  have hc := h.cap _ _ _ rfl
  have hk := h.kind
  obtain ⟨p, c', e, h1⟩ := h.at'
  injection e with e1 e2 e3
  subst e1
  by_cases hcm : c = m
  · rw [if_pos hcm]
    have hd : rows.drop m = [] := List.drop_eq_nil_of_le (by omega)
    rw [hd]
    exact ⟨⟨_, _, by rw [show n - m = 0 by omega]; rfl, fun i r hi => by cases hi⟩, fun a n c e hn => absurd rfl hn, fun n c e => (by cases e), fun p n c e => (by cases e; omega)⟩
  · rw [if_neg hcm]
    refine ⟨⟨some ⟨g, off + m * k, none⟩, c - m, by rw [List.length_drop, e2], fun i r hi => ?_⟩, fun a n' c'' e hn => ?_, fun n' c'' e => (by cases e), fun p n' c'' e => (by cases e; omega)⟩
    · rw [List.getElem?_drop] at hi
      obtain ⟨g', off', e, h2⟩ := h1 (m + i) r hi
      cases e
      refine ⟨g, off + m * k, rfl, fun j u hj => ?_⟩
      have := h2 j u hj
      rw [Nat.add_mul] at this
      rwa [show off + m * k + i * k + j = off + (m * k + i * k) + j by omega]
    · cases e
      exact hk ⟨g, off, none⟩ _ _ rfl (by intro e; rw [e] at hn; simp at hn)
theorem KB.drop {K : Nat → Prop} {w : World} {g off n c m : Nat} {l : List Nat} (h : KB K w (.slice (some ⟨g, off, none⟩) n c) l) (hm : m ≤ l.length) : KB K w (.slice (if c = m then some ⟨g, off, none⟩ else some ⟨g, off + m, none⟩) (n - m) (c - m)) (l.drop m) := by
  have := KRows.drop h (m := m) (by rwa [List.length_map])
  rw [Nat.mul_one, ← List.map_drop] at this
  exact this

theorem ofInt_i64 (a : Nat) (ha : a < 9223372036854775808) : (BitVec.ofInt 64 (a : Int)).toNat = a := by
  rw [BitVec.ofInt_natCast, BitVec.toNat_ofNat]; exact Nat.mod_eq_of_lt (by omega)
theorem i64_or_nat (a b : Nat) (ha : a < 9223372036854775808) (hb : b < 9223372036854775808) : bits .or .i64 (a : Int) (b : Int) = ((a ||| b : Nat) : Int) := by
  have hx : a ||| b < 2 ^ 63 := Nat.or_lt_two_pow (by omega) (by omega)
  show IntKind.i64.wrap ((BitVec.ofInt 64 (a : Int) ||| BitVec.ofInt 64 (b : Int)).toNat : Int) = _
  rw [BitVec.toNat_or, ofInt_i64 a ha, ofInt_i64 b hb]
  exact IntWalk.i64_in _ (by omega)
theorem i64_and_nat (a b : Nat) (ha : a < 9223372036854775808) (hb : b < 9223372036854775808) : bits .and .i64 (a : Int) (b : Int) = ((a &&& b : Nat) : Int) := by
  have hx : a &&& b < 2 ^ 63 := Nat.and_lt_two_pow _ (by omega)
  show IntKind.i64.wrap ((BitVec.ofInt 64 (a : Int) &&& BitVec.ofInt 64 (b : Int)).toNat : Int) = _
  rw [BitVec.toNat_and, ofInt_i64 a ha, ofInt_i64 b hb]
  exact IntWalk.i64_in _ (by omega)
/-- A byte is laid below a number. -/
theorem or_byte (n x : Nat) (hn : n < 16777216) (hx : x < 256) : bits .or .i64 ((n : Int) * 256) (x : Int) = ((x + 256 * n : Nat) : Int) := by
  rw [show ((n : Int) * 256) = ((n * 256 : Nat) : Int) by omega, i64_or_nat _ _ (by omega) (by omega), nat_join 8 _ _ (by omega) (by omega)]
  omega

/-- A slice without its first elements, as Go's slicing gives it. -/
def sliceFrom (v : Value) (k : Nat) : Value :=
  match v with
  | .slice (some a) n c => .slice (if c = k then some a else some ⟨a.block, a.off + k, a.spot⟩) (n - k) (c - k)
  | v => v
theorem KB.from {K : Nat → Prop} {w : World} {v : Value} {l : List Nat} {k : Nat} (h : KB K w v l) (hk : k ≤ l.length) (hl : 0 < l.length) : KB K w (sliceFrom v k) (l.drop k) := by
  obtain ⟨g, off, c, rfl, _, _⟩ := h.open hl
  exact h.drop hk
theorem numL_step {l : List Nat} {k j : Nat} (hk : k ≤ l.length) (hj : j < k) : numL ((l.take k).drop j) = l[j]! + 256 * numL ((l.take k).drop (j + 1)) := by
  have hl : j < (l.take k).length := by rw [List.length_take]; omega
  rw [List.drop_eq_getElem_cons hl, numL, List.getElem_take, getElem!_pos l j (by omega)]
theorem numL_small {l : List Nat} {k j : Nat} (hk4 : k ≤ 4) (hj : 1 ≤ j) (hb : ∀ x ∈ l, x < 256) : numL ((l.take k).drop j) < 16777216 := by
  have h1 := numL_lt ((l.take k).drop j) (fun x hx => hb x (List.mem_of_mem_take (List.mem_of_mem_drop hx)))
  have h2 : ((l.take k).drop j).length ≤ 3 := by rw [List.length_drop, List.length_take]; omega
  exact Nat.lt_of_lt_of_le h1 (Nat.le_trans (Nat.pow_le_pow_right (by decide) h2) (by decide))
set_option maxHeartbeats 1000000 in
theorem script_take_no {K : Nat → Prop} {v : Value} {l : List Nat} {w : World} (k : Nat) (hk4 : k ≤ 4) (h : KB K w v l) (hlt : l.length < k) :
    Calls Tryz.prog 22 #[v, .int .i64 k] w fun e w' => e = .returned (.tuple #[.slice none 0 0, .int .i64 0, .bool false]) ∧ w' = w := by
  obtain ⟨p, c, rfl, _⟩ := h.form
  clear h
  generalize l.length = n at *
  go_enter Tryz.func22, Tryz.ntmps22
  go_wp2
  go_ret3
  exact ⟨rfl, rfl⟩
set_option maxHeartbeats 2000000 in
theorem script_take {K : Nat → Prop} {v : Value} {l : List Nat} {w : World} (k : Nat) (hk : 1 ≤ k) (hk4 : k ≤ 4) (h : KB K w v l) (hb : ∀ x ∈ l, x < 256) (hlt : k ≤ l.length) (hm : l.length ≤ 9223372036854775807) :
    Calls Tryz.prog 22 #[v, .int .i64 k] w fun e w' => e = .returned (.tuple #[sliceFrom v k, .int .i64 (numL (l.take k) : Nat), .bool true]) ∧ w' = w := by
  obtain ⟨g, off, c, rfl, hc, hcell⟩ := h.open (by omega)
  have HC : Hid (∀ j : Nat, j < l.length → w.cell? ⟨g, off + j, none⟩ = some (.int .u8 (l[j]! : Nat))) := Go.Lib.hid (fun j hj => hcell j _ (by rw [getElem!_pos l j hj]; exact List.getElem?_eq_getElem hj))
  have HB : Hid (∀ j : Nat, j < l.length → l[j]! < 256) := Go.Lib.hid (fun j hj => hb _ (by rw [getElem!_pos l j hj]; exact List.getElem_mem hj))
  have HS : Hid (∀ j, j < k → numL ((l.take k).drop j) = l[j]! + 256 * numL ((l.take k).drop (j + 1))) := Go.Lib.hid (fun j hj => numL_step hlt hj)
  have HL : Hid (∀ j, 1 ≤ j → numL ((l.take k).drop j) < 16777216) := Go.Lib.hid (fun j hj => numL_small hk4 hj hb)
  have HZ : Hid (numL ((l.take k).drop k) = 0) := Go.Lib.hid (by rw [List.drop_eq_nil_of_le (by rw [List.length_take]; omega)]; rfl)
  clear h hcell hb
  have hni : ((l.length : Int) < (k : Int)) = False := by simp; omega
  generalize l.length = n at *
  go_enter Tryz.func22, Tryz.ntmps22
  go_wp2
  go_loop [7, 8] (fun N i => ∃ m : Nat, m ≤ k ∧ i = .int .i64 ((m : Int) - 1) ∧ N = .int .i64 (numL ((l.take k).drop m) : Nat)) (fun _ i => (intOf i + 1).toNat)
  case atStart => exact ⟨k, Nat.le_refl _, rfl, by rw [HZ.out]; rfl⟩
  case round =>
    obtain ⟨m, hm1, rfl, rfl⟩ := hrel
    cases m with
    | zero =>
      rw [show (((0 : Nat) : Int) - 1) = -1 from rfl]
      have HP : Hid (c = k → sliceFrom (.slice (some ⟨g, off, none⟩) n c) k = .slice (some ⟨g, off, none⟩) 0 0) := Go.Lib.hid (fun e => by show Value.slice (if c = k then some ⟨g, off, none⟩ else some ⟨g, off + k, none⟩) (n - k) (c - k) = _; rw [if_pos e, e, Nat.sub_self, show n - k = 0 by omega])
      have HN : Hid (¬ c = k → sliceFrom (.slice (some ⟨g, off, none⟩) n c) k = .slice (some ⟨g, off + k, none⟩) (n - k) (c - k)) := Go.Lib.hid (fun e => by show Value.slice (if c = k then some ⟨g, off, none⟩ else some ⟨g, off + k, none⟩) (n - k) (c - k) = _; rw [if_neg e])
      clear HC HB HS HL HZ
      rw [List.drop_zero]
      by_cases hck : c = k
      · have HP' := Go.Lib.hid (HP.out hck)
        clear HP HN
        subst hck
        go_wp2
        go_ret3
        exact ⟨by rw [HP'.out]; rfl, rfl⟩
      · have HN' := Go.Lib.hid (HN.out hck)
        clear HP HN
        go_wp2
        go_ret3
        exact ⟨by rw [HN'.out]; rfl, rfl⟩
    | succ j =>
      rw [show (((j + 1 : Nat) : Int) - 1) = (j : Int) by omega]
      have g1 := HC.out j (by omega)
      have g2 := HB.out j (by omega)
      have HS' := Go.Lib.hid (HS.out j (by omega))
      have g3 := HL.out (j + 1) (by omega)
      generalize numL ((l.take k).drop (j + 1)) = N at *
      generalize l[j]! = x at *
      have HO := Go.Lib.hid (or_byte N x g3 g2)
      have b1 : (0 : Int) ≤ (j : Int) := by omega
      have b2 : (j : Int) < (n : Int) := by omega
      have b3 : (N : Int) < 16777216 := by omega
      have b4 : (x : Int) < 256 := by omega
      go_wp2
      go_round
      case rel => exact ⟨j, by omega, rfl, by rw [HO.out, HS'.out]⟩
      case measure => simp [intOf]
end Go.Proofs.YtdemhabgaimnmaaGreatDoor
