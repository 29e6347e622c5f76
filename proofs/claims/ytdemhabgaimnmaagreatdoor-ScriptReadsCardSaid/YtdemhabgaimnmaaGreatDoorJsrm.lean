/- The document's answer of what the bytes of a script say. -/
import Derived.Test.YtdemhabgaimnmaaGreatDoorJsrl
import Derived.Deep.CutBlock
namespace Go.Proofs.YtdemhabgaimnmaaGreatDoor
open Go.RowKit
set_option maxRecDepth 100000
set_option linter.unusedVariables false

theorem idx_str (s : ByteArray) (k c : Nat) (hk : s.data[k]? = some (UInt8.ofNat c)) (hc : c < 256) (w : World) : (Instr.index 9 (.string s) (.int .i64 (k : Nat))).run Tryz.prog w = .ok (.int .u8 (c : Nat)) w := by
  have hlt : k < s.size := (Array.getElem?_eq_some_iff.1 hk).1
  have he : s.data[k] = UInt8.ofNat c := (Array.getElem?_eq_some_iff.1 hk).2
  rw [run_index_string _ _ _ _ _ Tryz.underlying9, dif_pos (by omega)]
  have h2 : s[((k : Int)).toNat]'(by omega) = s.data[k] := rfl
  rw [h2, he]
  congr 2
  simp [UInt8.toNat_ofNat]
  omega

theorem setRow_ne {w : World} {g b : Nat} {cs : Array Value} (h : b ≠ g) : (w.setRow g cs).heap[b]? = w.heap[b]? := by
  simp [World.setRow, Array.getElem?_modify, Ne.symm h]
theorem own_setRow_ne {w : World} {base k n b : Nat} {e : TypeId} {v : Value} {xs : List Value} (h : w.ownsRow base e k v n xs) (hn : v.ownBlock ≠ some b) (new : Array Value) : (w.setRow b new).ownsRow base e k v n xs := by
  refine ⟨h.1, ?_⟩
  rcases h.2 with h | ⟨g, c, cur, e0, hg, h2, h3⟩
  · exact .inl h
  · refine .inr ⟨g, c, cur, e0, hg, ?_, h3⟩
    have hgb : g ≠ b := by intro q; rw [e0] at hn; exact hn (by rw [q]; rfl)
    rw [setRow_ne hgb]
    exact h2
theorem widE_bd (f : Nat) : 1 ≤ widE f ∧ widE f ≤ 4 := by
  unfold widE
  repeat' split
  all_goals decide
theorem chrE_lt (f : Nat) : chrE f < 256 := by
  unfold chrE
  repeat' split
  all_goals decide

section
variable {P : Program} {w : World}
theorem wpList_append_own5 {ops : Array Oper} {rest : List Oper} {o : Oper} {a : Act} {Q : Exit → Act → World → Prop} (hgd : o.guard = none) (s x : Operand) (t : TypeId)
    (ho : o.op = .call { callee := .builtin .append, args := #[s, x], argTypes := #[t, t] })
    (base : Nat) (e : TypeId) (i : TypeInfo) (z : Value) (size bytes : Nat) (ht : P.underlying t = some (.slice e)) (hi : P.info? e = some i) (hz : i.zero = some z)
    (hsize : i.size = size) (hby : i.bytes = bytes) (hzs : z.cells.size = size) (hsz : 0 < size)
    (v : Value) (n : Nat) (xs : List Value) (hs : a.eval s = v) (hown : w.ownsRow base e size v n xs)
    (ad : Addr) (m c : Nat) (news : List Value) (hx : a.eval x = .slice (some ad) m c) (hl : news.length = m * size) (hnews : ∀ j u, news[j]? = some u → w.cell? (ad.add j) = some u) (h1 : ∀ u ∈ news, u.oneCell' = true)
    (h63 : n + m ≤ maxLen) (hbytes : (n + m) * bytes ≤ 140737488355328) (hbase : base ≤ w.heap.size)
    (h : ∀ v' w', w'.ownsRow base e size v' (n + m) (xs ++ news) → w.grownBy w' v.ownBlock → (v'.ownBlock = v.ownBlock ∨ v'.ownBlock = some w.heap.size) → wpList P ops Q rest (a.put o.dst v') w') : wpList P ops Q (o :: rest) a w := by
  refine wpList_plain hgd fun K hK => ?_
  obtain ⟨v', w', hr, h2, h3, _, h5⟩ := run_append_own_at (P := P) w base t o.type e i z size bytes ht hi hz hsize hby hzs hsz v n xs hown ad m c news hl hnews h1 h63 hbytes hbase
  unfold Oper.wp execOp
  simp only [ho, resolve, invoke, builtin, Sem.run_bind, Sem.run_pure, Result.andThen_ok, List.map_toArray, List.map_cons, List.map_nil, hs, hx, hr]
  exact hK _ _ (h v' w' h2 h3 h5)
end

set_option maxHeartbeats 8000000 in
theorem ref22_Decode {B : Nat} {v : Value} {l : List Nat} {w : World} (h : KBb B w v l) (hB : B ≤ w.heap.size) (hb : ∀ z ∈ l, z < 256) (hm : l.length ≤ 9000000000000000) :
    Calls Tryz.prog 11 #[v] w (DecPost 53 w l) := by
  have hi13 : (Tryz.prog.info? 23).map (·.size) = some 13 := by kernel_rfl
  have HI := Go.Lib.hid hi13
  clear hi13
  obtain ⟨p, c, rfl, _⟩ := id (KB.form h)
  by_cases hs : l.length < 52
  · have hk := Go.Lib.hid (dec_short hs)
    have HBF := Go.Lib.hid (((Below.refl _ w).alloc (Nat.le_refl _) (.cells #[.int .i64 0, .int .i64 0, .int .i64 0, .int .i64 0, .int .i64 0, .int .i64 0, .int .i64 0, .int .i64 0, .int .i64 0, .int .i64 0, .int .i64 0, .int .i64 0, .int .i64 0] 23)).alloc (by simp) (.cells #[.int .i64 0, .int .i64 0, .int .i64 0, .int .i64 0, .int .i64 0, .int .i64 0, .int .i64 0, .int .i64 0, .int .i64 0, .int .i64 0, .int .i64 0, .int .i64 0, .int .i64 0] 23))
    have hz0 := row_below ((Below.refl _ (w.alloc (.cells #[.int .i64 0, .int .i64 0, .int .i64 0, .int .i64 0, .int .i64 0, .int .i64 0, .int .i64 0, .int .i64 0, .int .i64 0, .int .i64 0, .int .i64 0, .int .i64 0, .int .i64 0] 23))).alloc (Nat.le_refl _) (.cells #[.int .i64 0, .int .i64 0, .int .i64 0, .int .i64 0, .int .i64 0, .int .i64 0, .int .i64 0, .int .i64 0, .int .i64 0, .int .i64 0, .int .i64 0, .int .i64 0, .int .i64 0] 23)) (heap_alloc_new w (.cells #[.int .i64 0, .int .i64 0, .int .i64 0, .int .i64 0, .int .i64 0, .int .i64 0, .int .i64 0, .int .i64 0, .int .i64 0, .int .i64 0, .int .i64 0, .int .i64 0, .int .i64 0] 23))
    have ha0 := heap_alloc_new (w.alloc (.cells #[.int .i64 0, .int .i64 0, .int .i64 0, .int .i64 0, .int .i64 0, .int .i64 0, .int .i64 0, .int .i64 0, .int .i64 0, .int .i64 0, .int .i64 0, .int .i64 0, .int .i64 0] 23)) (.cells #[.int .i64 0, .int .i64 0, .int .i64 0, .int .i64 0, .int .i64 0, .int .i64 0, .int .i64 0, .int .i64 0, .int .i64 0, .int .i64 0, .int .i64 0, .int .i64 0, .int .i64 0] 23)
    rw [World.size_alloc] at ha0
    have HZF := Go.Lib.hid hz0
    have HSF := Go.Lib.hid ha0
    clear h hz0 ha0
    generalize hn : l.length = n at *
    have hn' := Go.Lib.hid hn
    clear hn
    have hs' : (n : Int) < 52 := by omega
    go_enter Tryz.func11, Tryz.ntmps11
    go_upto_region 3 with (fail)
    generalize ((w.alloc (.cells #[.int .i64 0, .int .i64 0, .int .i64 0, .int .i64 0, .int .i64 0, .int .i64 0, .int .i64 0, .int .i64 0, .int .i64 0, .int .i64 0, .int .i64 0, .int .i64 0, .int .i64 0] 23)).alloc (.cells #[.int .i64 0, .int .i64 0, .int .i64 0, .int .i64 0, .int .i64 0, .int .i64 0, .int .i64 0, .int .i64 0, .int .i64 0, .int .i64 0, .int .i64 0, .int .i64 0, .int .i64 0] 23)) = W1 at *
    go_wp2_with (first
      | ((with_reducible refine wpList_load_row (o := ⟨_, .load _ _, _, _, _, _⟩) rfl _ _ rfl ((w.heap.size + 1)) ?_ 23 #[.int .i64 0, .int .i64 0, .int .i64 0, .int .i64 0, .int .i64 0, .int .i64 0, .int .i64 0, .int .i64 0, .int .i64 0, .int .i64 0, .int .i64 0, .int .i64 0, .int .i64 0] (0, 0) _ ?_ Tryz.underlying23 ?_ ?_ ?_); rfl; exact HSF.out; rfl; exact HI.out)
      | ((with_reducible refine wpList_store_rowTo (o := ⟨_, .store _ _ _, _, _, _, _⟩) rfl _ _ _ rfl ?_ w.heap.size #[.int .i64 0, .int .i64 0, .int .i64 0, .int .i64 0, .int .i64 0, .int .i64 0, .int .i64 0, .int .i64 0, .int .i64 0, .int .i64 0, .int .i64 0, .int .i64 0, .int .i64 0] ?_ ?_ 23 #[.int .i64 0, .int .i64 0, .int .i64 0, .int .i64 0, .int .i64 0, .int .i64 0, .int .i64 0, .int .i64 0, .int .i64 0, .int .i64 0, .int .i64 0, .int .i64 0, .int .i64 0] ?_ ?_ ?_ ?_ ?_); rfl; rfl; rfl; exact HZF.out; exact HI.out; rfl; exact (by simp [show ∀ k n, (Value.int k n).oneCell' = true from fun _ _ => rfl]); refine Hid.out ?_)
      | fail)
    have HB9 := Go.Lib.hid (below_setRow HBF.out (Nat.le_refl _) #[.int .i64 0, .int .i64 0, .int .i64 0, .int .i64 0, .int .i64 0, .int .i64 0, .int .i64 0, .int .i64 0, .int .i64 0, .int .i64 0, .int .i64 0, .int .i64 0, .int .i64 0])
    have HZ9 := Go.Lib.hid (setRow_heap W1 w.heap.size #[.int .i64 0, .int .i64 0, .int .i64 0, .int .i64 0, .int .i64 0, .int .i64 0, .int .i64 0, .int .i64 0, .int .i64 0, .int .i64 0, .int .i64 0, .int .i64 0, .int .i64 0] #[.int .i64 0, .int .i64 0, .int .i64 0, .int .i64 0, .int .i64 0, .int .i64 0, .int .i64 0, .int .i64 0, .int .i64 0, .int .i64 0, .int .i64 0, .int .i64 0, .int .i64 0] 23 (0, 0) HZF.out)
    unfold Hid
    clear HBF HZF HSF
    generalize W1.setRow w.heap.size #[.int .i64 0, .int .i64 0, .int .i64 0, .int .i64 0, .int .i64 0, .int .i64 0, .int .i64 0, .int .i64 0, .int .i64 0, .int .i64 0, .int .i64 0, .int .i64 0, .int .i64 0] = w9 at *
    go_wp2_with fail
    exact bodyPost_ret (results_ctt (v1 := .slice none 0 0) (v2 := .int .i64 9) rfl _ _ _ (b1 := w.heap.size) (r1 := #[.int .i64 0, .int .i64 0, .int .i64 0, .int .i64 0, .int .i64 0, .int .i64 0, .int .i64 0, .int .i64 0, .int .i64 0, .int .i64 0, .int .i64 0, .int .i64 0, .int .i64 0]) rfl rfl rfl HZ9.out rfl Tryz.underlying23 HI.out) rfl (DecPost.no hk.out (by decide) HB9.out)
  · have hs' : ((l.length : Int) < 52) = False := by simp; omega
    have HBB := Go.Lib.hid hb
    have HLT : Hid (52 ≤ l.length) := Go.Lib.hid (by omega)
    obtain ⟨x, hxe⟩ : ∃ x : Nat → Int, x = cfgL l := ⟨_, rfl⟩
    have HX : Hid (∀ j, j < 13 → ((numL ((l.drop (4 * j)).take 4) : Nat) : Int) = x j) := Go.Lib.hid (fun j _ => by rw [hxe]; rfl)
    have HXE := Go.Lib.hid hxe
    have HK0 := Go.Lib.hid h
    have B0 := Go.Lib.hid ((((Below.refl _ w).alloc (Nat.le_refl _) (.cells #[.int .i64 0, .int .i64 0, .int .i64 0, .int .i64 0, .int .i64 0, .int .i64 0, .int .i64 0, .int .i64 0, .int .i64 0, .int .i64 0, .int .i64 0, .int .i64 0, .int .i64 0] 23)).alloc (by simp) (.cells #[.int .i64 0, .int .i64 0, .int .i64 0, .int .i64 0, .int .i64 0, .int .i64 0, .int .i64 0, .int .i64 0, .int .i64 0, .int .i64 0, .int .i64 0, .int .i64 0, .int .i64 0] 23)).alloc (by simp; omega) (.cells #[.int .i64 0, .int .i64 0, .int .i64 0, .int .i64 0, .int .i64 0, .int .i64 0, .int .i64 0, .int .i64 0, .int .i64 0, .int .i64 0, .int .i64 0, .int .i64 0, .int .i64 0] 23))
    have hz0 := row_below ((Below.refl _ ((w.alloc (.cells #[.int .i64 0, .int .i64 0, .int .i64 0, .int .i64 0, .int .i64 0, .int .i64 0, .int .i64 0, .int .i64 0, .int .i64 0, .int .i64 0, .int .i64 0, .int .i64 0, .int .i64 0] 23)).alloc (.cells #[.int .i64 0, .int .i64 0, .int .i64 0, .int .i64 0, .int .i64 0, .int .i64 0, .int .i64 0, .int .i64 0, .int .i64 0, .int .i64 0, .int .i64 0, .int .i64 0, .int .i64 0] 23))).alloc (Nat.le_refl _) (.cells #[.int .i64 0, .int .i64 0, .int .i64 0, .int .i64 0, .int .i64 0, .int .i64 0, .int .i64 0, .int .i64 0, .int .i64 0, .int .i64 0, .int .i64 0, .int .i64 0, .int .i64 0] 23)) (row_below ((Below.refl _ (w.alloc (.cells #[.int .i64 0, .int .i64 0, .int .i64 0, .int .i64 0, .int .i64 0, .int .i64 0, .int .i64 0, .int .i64 0, .int .i64 0, .int .i64 0, .int .i64 0, .int .i64 0, .int .i64 0] 23))).alloc (Nat.le_refl _) (.cells #[.int .i64 0, .int .i64 0, .int .i64 0, .int .i64 0, .int .i64 0, .int .i64 0, .int .i64 0, .int .i64 0, .int .i64 0, .int .i64 0, .int .i64 0, .int .i64 0, .int .i64 0] 23)) (heap_alloc_new w (.cells #[.int .i64 0, .int .i64 0, .int .i64 0, .int .i64 0, .int .i64 0, .int .i64 0, .int .i64 0, .int .i64 0, .int .i64 0, .int .i64 0, .int .i64 0, .int .i64 0, .int .i64 0] 23)))
    have hn0 := row_below ((Below.refl _ ((w.alloc (.cells #[.int .i64 0, .int .i64 0, .int .i64 0, .int .i64 0, .int .i64 0, .int .i64 0, .int .i64 0, .int .i64 0, .int .i64 0, .int .i64 0, .int .i64 0, .int .i64 0, .int .i64 0] 23)).alloc (.cells #[.int .i64 0, .int .i64 0, .int .i64 0, .int .i64 0, .int .i64 0, .int .i64 0, .int .i64 0, .int .i64 0, .int .i64 0, .int .i64 0, .int .i64 0, .int .i64 0, .int .i64 0] 23))).alloc (Nat.le_refl _) (.cells #[.int .i64 0, .int .i64 0, .int .i64 0, .int .i64 0, .int .i64 0, .int .i64 0, .int .i64 0, .int .i64 0, .int .i64 0, .int .i64 0, .int .i64 0, .int .i64 0, .int .i64 0] 23)) (heap_alloc_new (w.alloc (.cells #[.int .i64 0, .int .i64 0, .int .i64 0, .int .i64 0, .int .i64 0, .int .i64 0, .int .i64 0, .int .i64 0, .int .i64 0, .int .i64 0, .int .i64 0, .int .i64 0, .int .i64 0] 23)) (.cells #[.int .i64 0, .int .i64 0, .int .i64 0, .int .i64 0, .int .i64 0, .int .i64 0, .int .i64 0, .int .i64 0, .int .i64 0, .int .i64 0, .int .i64 0, .int .i64 0, .int .i64 0] 23))
    have ha0 := heap_alloc_new ((w.alloc (.cells #[.int .i64 0, .int .i64 0, .int .i64 0, .int .i64 0, .int .i64 0, .int .i64 0, .int .i64 0, .int .i64 0, .int .i64 0, .int .i64 0, .int .i64 0, .int .i64 0, .int .i64 0] 23)).alloc (.cells #[.int .i64 0, .int .i64 0, .int .i64 0, .int .i64 0, .int .i64 0, .int .i64 0, .int .i64 0, .int .i64 0, .int .i64 0, .int .i64 0, .int .i64 0, .int .i64 0, .int .i64 0] 23)) (.cells #[.int .i64 0, .int .i64 0, .int .i64 0, .int .i64 0, .int .i64 0, .int .i64 0, .int .i64 0, .int .i64 0, .int .i64 0, .int .i64 0, .int .i64 0, .int .i64 0, .int .i64 0] 23)
    simp only [World.size_alloc] at hn0 ha0
    have HZ0 := Go.Lib.hid hz0
    have HN0 := Go.Lib.hid hn0
    have HKB0 := Go.Lib.hid (HK0.out.below hB B0.out)
    clear h hb hxe hz0 hn0 HK0
    go_enter Tryz.func11, Tryz.ntmps11
    go_wp2
    generalize (((w.alloc (.cells #[.int .i64 0, .int .i64 0, .int .i64 0, .int .i64 0, .int .i64 0, .int .i64 0, .int .i64 0, .int .i64 0, .int .i64 0, .int .i64 0, .int .i64 0, .int .i64 0, .int .i64 0] 23)).alloc (.cells #[.int .i64 0, .int .i64 0, .int .i64 0, .int .i64 0, .int .i64 0, .int .i64 0, .int .i64 0, .int .i64 0, .int .i64 0, .int .i64 0, .int .i64 0, .int .i64 0, .int .i64 0] 23)).alloc (.cells #[.int .i64 0, .int .i64 0, .int .i64 0, .int .i64 0, .int .i64 0, .int .i64 0, .int .i64 0, .int .i64 0, .int .i64 0, .int .i64 0, .int .i64 0, .int .i64 0, .int .i64 0] 23)) = W1 at *
    rw [← rowC_zero x] at ha0
    have HA0 := Go.Lib.hid ha0
    clear ha0
    go_loopw [7] (fun u7 wr => ∃ j : Nat, u7 = .int .i64 j ∧ j ≤ 13 ∧ KBb B wr (.slice p l.length c) l ∧ wr.heap[w.heap.size + 1 + 1]? = some (.cells (rowC x j) 23) ∧ wr.heap[w.heap.size + 1]? = some (.cells #[.int .i64 0, .int .i64 0, .int .i64 0, .int .i64 0, .int .i64 0, .int .i64 0, .int .i64 0, .int .i64 0, .int .i64 0, .int .i64 0, .int .i64 0, .int .i64 0, .int .i64 0] 23) ∧ wr.heap[w.heap.size]? = some (.cells #[.int .i64 0, .int .i64 0, .int .i64 0, .int .i64 0, .int .i64 0, .int .i64 0, .int .i64 0, .int .i64 0, .int .i64 0, .int .i64 0, .int .i64 0, .int .i64 0, .int .i64 0] 23) ∧ Below w.heap.size w wr) (fun i _ => 13 - (intOf i).toNat)
    case atStart => exact ⟨0, rfl, by decide, HKB0.out, HA0.out, HN0.out, HZ0.out, B0.out⟩
    case round =>
      obtain ⟨j, rfl, hj, hkb, ha, hnn, hz, hbw⟩ := hrel
      have HKB := Go.Lib.hid hkb
      have HA := Go.Lib.hid ha
      have HN := Go.Lib.hid hnn
      have HZ := Go.Lib.hid hz
      have HBW := Go.Lib.hid hbw
      clear hkb ha hz hnn hbw HKB0 HA0 HZ0 HN0 B0
      by_cases hlt : j < 13
      · have cj : wr.cell? ⟨w.heap.size + 1 + 1, j, none⟩ = some (.int .i64 0) := (cell_of_row _ _ _ _ _ _ HA.out).trans (rowC_at x hlt)
        have fj : wr.frozen? ⟨w.heap.size + 1 + 1, j, none⟩ = false := frozen_of_row _ _ _ _ _ HA.out
        have HNB : Hid (Calls Tryz.prog 26 #[.slice p l.length c, .int .i64 (4 * (j : Int)), .int .i64 4] wr fun e w' => e = .returned (.tuple #[.int .i64 (x j), .bool true]) ∧ w' = wr) := Go.Lib.hid (by
          have := ref22_number (4 * j) 4 (by decide) (by decide) HKB.out HBB.out (by have := HLT.out; omega) (by omega)
          rw [HX.out j hlt] at this
          rwa [show (((4 * j : Nat)) : Int) = 4 * (j : Int) by omega] at this)
        have HKB2 : Hid (KBb B (wr.setCell ⟨w.heap.size + 1 + 1, j, none⟩ (.int .i64 (x j))) (.slice p l.length c) l) := Go.Lib.hid (KB.keep HKB.out (fun q hq => Go.Deep.blk_setCell_other wr ⟨w.heap.size + 1 + 1, j, none⟩ _ q (by show q ≠ w.heap.size + 1 + 1; omega)))
        have HA2 : Hid ((wr.setCell ⟨w.heap.size + 1 + 1, j, none⟩ (.int .i64 (x j))).heap[w.heap.size + 1 + 1]? = some (.cells (rowC x (j + 1)) 23)) := Go.Lib.hid (by
          have := row_set0 (j := j) (v := .int .i64 (x j)) HA.out
          rwa [rowC_set x hlt] at this)
        have HN2 : Hid ((wr.setCell ⟨w.heap.size + 1 + 1, j, none⟩ (.int .i64 (x j))).heap[w.heap.size + 1]? = some (.cells #[.int .i64 0, .int .i64 0, .int .i64 0, .int .i64 0, .int .i64 0, .int .i64 0, .int .i64 0, .int .i64 0, .int .i64 0, .int .i64 0, .int .i64 0, .int .i64 0, .int .i64 0] 23)) := Go.Lib.hid ((Go.Deep.blk_setCell_other wr ⟨w.heap.size + 1 + 1, j, none⟩ _ (w.heap.size + 1) (by show w.heap.size + 1 ≠ w.heap.size + 1 + 1; omega)).trans HN.out)
        have HZ2 : Hid ((wr.setCell ⟨w.heap.size + 1 + 1, j, none⟩ (.int .i64 (x j))).heap[w.heap.size]? = some (.cells #[.int .i64 0, .int .i64 0, .int .i64 0, .int .i64 0, .int .i64 0, .int .i64 0, .int .i64 0, .int .i64 0, .int .i64 0, .int .i64 0, .int .i64 0, .int .i64 0, .int .i64 0] 23)) := Go.Lib.hid ((Go.Deep.blk_setCell_other wr ⟨w.heap.size + 1 + 1, j, none⟩ _ w.heap.size (by show w.heap.size ≠ w.heap.size + 1 + 1; omega)).trans HZ.out)
        have HBW2 := Go.Lib.hid (HBW.out.setCell (p := ⟨w.heap.size + 1 + 1, j, none⟩) (by show w.heap.size ≤ w.heap.size + 1 + 1; omega) (.int .i64 (x j)))
        clear HKB HA HZ HN HBW
        have b1 : (0 : Int) ≤ (j : Int) := by omega
        have b2 : (j : Int) < 13 := by omega
        go_wp2_with fail
        refine HNB.out.mono ?_
        rintro e w' ⟨rfl, rfl⟩
        go_wp2
        go_roundw
        case rel => exact ⟨j + 1, by go_num, by omega, HKB2.out, HA2.out, HN2.out, HZ2.out, HBW2.out⟩
        case measure => simp [intOf]; omega
      · have hj13 : j = 13 := by omega
        subst hj13
        have ha13 := HA.out
        rw [rowC_all] at ha13
        have c0 : wr.cell? ⟨w.heap.size + 1 + 1, 0, none⟩ = some (.int .i64 (x 0)) := cell_of_row _ _ _ _ _ _ ha13
        have c1 : wr.cell? ⟨w.heap.size + 1 + 1, 1, none⟩ = some (.int .i64 (x 1)) := cell_of_row _ _ _ _ _ _ ha13
        have c2 : wr.cell? ⟨w.heap.size + 1 + 1, 2, none⟩ = some (.int .i64 (x 2)) := cell_of_row _ _ _ _ _ _ ha13
        have c3 : wr.cell? ⟨w.heap.size + 1 + 1, 3, none⟩ = some (.int .i64 (x 3)) := cell_of_row _ _ _ _ _ _ ha13
        have c4 : wr.cell? ⟨w.heap.size + 1 + 1, 4, none⟩ = some (.int .i64 (x 4)) := cell_of_row _ _ _ _ _ _ ha13
        have c5 : wr.cell? ⟨w.heap.size + 1 + 1, 5, none⟩ = some (.int .i64 (x 5)) := cell_of_row _ _ _ _ _ _ ha13
        have c6 : wr.cell? ⟨w.heap.size + 1 + 1, 6, none⟩ = some (.int .i64 (x 6)) := cell_of_row _ _ _ _ _ _ ha13
        have c7 : wr.cell? ⟨w.heap.size + 1 + 1, 7, none⟩ = some (.int .i64 (x 7)) := cell_of_row _ _ _ _ _ _ ha13
        have c8 : wr.cell? ⟨w.heap.size + 1 + 1, 8, none⟩ = some (.int .i64 (x 8)) := cell_of_row _ _ _ _ _ _ ha13
        have c9 : wr.cell? ⟨w.heap.size + 1 + 1, 9, none⟩ = some (.int .i64 (x 9)) := cell_of_row _ _ _ _ _ _ ha13
        have c10 : wr.cell? ⟨w.heap.size + 1 + 1, 10, none⟩ = some (.int .i64 (x 10)) := cell_of_row _ _ _ _ _ _ ha13
        have c11 : wr.cell? ⟨w.heap.size + 1 + 1, 11, none⟩ = some (.int .i64 (x 11)) := cell_of_row _ _ _ _ _ _ ha13
        have c12 : wr.cell? ⟨w.heap.size + 1 + 1, 12, none⟩ = some (.int .i64 (x 12)) := cell_of_row _ _ _ _ _ _ ha13
        by_cases hok : okI x
        · have HCK : Hid (∀ W, Calls Tryz.prog 16 #[.agg #[.int .i64 (x 0), .int .i64 (x 1), .int .i64 (x 2), .int .i64 (x 3), .int .i64 (x 4), .int .i64 (x 5), .int .i64 (x 6), .int .i64 (x 7), .int .i64 (x 8), .int .i64 (x 9), .int .i64 (x 10), .int .i64 (x 11), .int .i64 (x 12)]] W fun e w' => e = .returned (.bool true) ∧ Below W.heap.size W w') := Go.Lib.hid (fun W => by
            have := ref_Right x W
            rwa [decide_eq_true hok] at this)
          have hokL : okI (cfgL l) := by rw [← HXE.out]; exact hok
          clear hok
          obtain ⟨RES, hRES⟩ : ∃ R, R = decP (l.drop 52) [] := ⟨_, rfl⟩
          have HDE : Hid (∀ (es : List Ent) w' v, RES = some es → w'.ownsRow w.heap.size 53 8 v es.length (es.map Ent.cells).flatten → Below w.heap.size w w' → DecPost 53 w l (.returned (.tuple #[.agg #[.int .i64 (x 0), .int .i64 (x 1), .int .i64 (x 2), .int .i64 (x 3), .int .i64 (x 4), .int .i64 (x 5), .int .i64 (x 6), .int .i64 (x 7), .int .i64 (x 8), .int .i64 (x 9), .int .i64 (x 10), .int .i64 (x 11), .int .i64 (x 12)], v, .int .i64 0])) w') := Go.Lib.hid (fun es w' v hr ho hb => by
            rw [hRES] at hr
            have hk := dec_ok hs hokL hr
            refine ⟨v, ?_, ?_, hb⟩
            · rw [decX_ok hk, hk, ← HXE.out]
            · rw [decL_ok hk hr]; exact ho)
          have HDF : Hid (∀ w', RES = none → Below w.heap.size w w' → DecPost 53 w l (.returned (.tuple #[.agg #[.int .i64 0, .int .i64 0, .int .i64 0, .int .i64 0, .int .i64 0, .int .i64 0, .int .i64 0, .int .i64 0, .int .i64 0, .int .i64 0, .int .i64 0, .int .i64 0, .int .i64 0], .slice none 0 0, .int .i64 3])) w') := Go.Lib.hid (fun w' hr hb => by
            rw [hRES] at hr
            exact DecPost.no (dec_full hs hokL hr) (by decide) hb)
          have HRES := Go.Lib.hid hRES
          have hinfo : (Tryz.prog.info? 53).map (fun i => (i.zero, i.size, i.bytes)) = some (some (.agg #[.int .i64 0, .int .i64 0, .int .i64 0, .int .i64 0, .int .i64 0, .int .i64 0, .int .i64 0, .int .i64 0]), 8, 64) := by kernel_rfl
          obtain ⟨i0, hi0, hz0, hz1, hz2⟩ := info_parts hinfo
          have hund : Tryz.prog.underlying 34 = some (.slice 53) := by kernel_rfl
          clear hokL hRES ha13
          go_wp2_with fail
          refine (HCK.out _).mono ?_
          rintro e w2 ⟨rfl, hb2⟩
          have hb3 : Below w2.heap.size w2 (w2.alloc (.cells #[] 53)) := (Below.refl _ _).alloc (Nat.le_refl _) _
          have HB2 := Go.Lib.hid ((HBW.out.trans (hb2.mono HBW.out.size)).trans (hb3.mono (HBW.out.trans (hb2.mono HBW.out.size)).size))
          have HZ2 := Go.Lib.hid (row_below hb3 (row_below hb2 HZ.out))
          have HN2 := Go.Lib.hid (row_below hb3 (row_below hb2 HN.out))
          have HC2 := Go.Lib.hid (row_below hb3 (row_below hb2 (show wr.heap[w.heap.size + 1 + 1]? = some (.cells #[.int .i64 (x 0), .int .i64 (x 1), .int .i64 (x 2), .int .i64 (x 3), .int .i64 (x 4), .int .i64 (x 5), .int .i64 (x 6), .int .i64 (x 7), .int .i64 (x 8), .int .i64 (x 9), .int .i64 (x 10), .int .i64 (x 11), .int .i64 (x 12)] 23) from HA.out)))
          have HK2 := Go.Lib.hid ((HKB.out.below (Nat.le_trans hB HBW.out.size) hb2).below (by have := HBW.out.size; have := hb2.size; omega) hb3)
          have HO2 : Hid ((w2.alloc (.cells #[] 53)).ownsRow w.heap.size 53 8 (.slice (some ⟨w2.heap.size, 0, none⟩) 0 0) 0 (([] : List Ent).map Ent.cells).flatten) := Go.Lib.hid (own_mono (own_empty w2 53 8) (by have := HBW.out.size; have := hb2.size; omega))
          clear hb2 hb3 c0 c1 c2 c3 c4 c5 c6 c7 c8 c9 c10 c11 c12 HKB HA HN HZ HBW
          go_wp2_with fail
          generalize (w2.alloc (.cells #[] 53)) = W3 at *
          go_loopw [8, 9] (fun u8 u9 wr => ∃ (a : Nat) (es : List Ent), u9 = .int .i64 (a : Nat) ∧ a ≤ l.length ∧ KBb B wr (.slice p l.length c) l ∧ es.length ≤ 20000 ∧ decP (l.drop a) es = RES ∧ wr.ownsRow w.heap.size 53 8 u8 es.length (es.map Ent.cells).flatten ∧ wr.heap[w.heap.size]? = some (.cells #[.int .i64 0, .int .i64 0, .int .i64 0, .int .i64 0, .int .i64 0, .int .i64 0, .int .i64 0, .int .i64 0, .int .i64 0, .int .i64 0, .int .i64 0, .int .i64 0, .int .i64 0] 23) ∧ wr.heap[w.heap.size + 1]? = some (.cells #[.int .i64 0, .int .i64 0, .int .i64 0, .int .i64 0, .int .i64 0, .int .i64 0, .int .i64 0, .int .i64 0, .int .i64 0, .int .i64 0, .int .i64 0, .int .i64 0, .int .i64 0] 23) ∧ wr.heap[w.heap.size + 1 + 1]? = some (.cells #[.int .i64 (x 0), .int .i64 (x 1), .int .i64 (x 2), .int .i64 (x 3), .int .i64 (x 4), .int .i64 (x 5), .int .i64 (x 6), .int .i64 (x 7), .int .i64 (x 8), .int .i64 (x 9), .int .i64 (x 10), .int .i64 (x 11), .int .i64 (x 12)] 23) ∧ Below w.heap.size w wr) (fun _ i _ => l.length - (intOf i).toNat)
          case atStart => exact ⟨52, [], rfl, HLT.out, HK2.out, by decide, HRES.out.symm, HO2.out, HZ2.out, HN2.out, HC2.out, HB2.out⟩
          case round =>
            obtain ⟨a, es, rfl, ha, hkb, hel, hdec, hown, hz, hnn, hc, hbw⟩ := hrel
            obtain ⟨a10, c10, rfl⟩ := own_form hown
            have HKB := Go.Lib.hid hkb
            have HDEC := Go.Lib.hid hdec
            have HOW := Go.Lib.hid hown
            have HZ := Go.Lib.hid hz
            have HN := Go.Lib.hid hnn
            have HC := Go.Lib.hid hc
            have HBW := Go.Lib.hid hbw
            clear hkb hdec hown hz hnn hc hbw HK2 HO2 HZ2 HN2 HC2 HB2
            by_cases hlt : a < l.length
            · obtain ⟨g, off, c', ee, hcap, hcell⟩ := KB.open HKB.out (by omega)
              injection ee with e1 e2 e3
              subst e1
              subst e3
              obtain ⟨x0, hx0⟩ : ∃ x0, l[a]? = some x0 := ⟨_, List.getElem?_eq_getElem hlt⟩
              have cx := hcell a x0 hx0
              have hx256 : x0 < 256 := HBB.out _ (List.mem_of_getElem? hx0)
              have HDR : Hid (l.drop a = x0 :: l.drop (a + 1)) := Go.Lib.hid (by rw [List.drop_eq_getElem_cons hlt]; rw [List.getElem?_eq_getElem hlt] at hx0; rw [Option.some.inj hx0])
              have b1 : (0 : Int) ≤ (a : Int) := by omega
              have b2 : (a : Int) < (l.length : Int) := by omega
              clear hcell hx0
              go_wp2_with fail
              go_quiet (fail)
              have HKB5 := Go.Lib.hid (HKB.out.heap (w' := wr.drewN nq) rfl)
              have HOW5 : Hid ((wr.drewN nq).ownsRow w.heap.size 53 8 (.slice a10 es.length c10) es.length (es.map Ent.cells).flatten) := Go.Lib.hid (own_below HOW.out (below_drewN nq))
              have HZ5 : Hid ((wr.drewN nq).heap[w.heap.size]? = some (.cells #[.int .i64 0, .int .i64 0, .int .i64 0, .int .i64 0, .int .i64 0, .int .i64 0, .int .i64 0, .int .i64 0, .int .i64 0, .int .i64 0, .int .i64 0, .int .i64 0, .int .i64 0] 23)) := HZ
              have HN5 : Hid ((wr.drewN nq).heap[w.heap.size + 1]? = some (.cells #[.int .i64 0, .int .i64 0, .int .i64 0, .int .i64 0, .int .i64 0, .int .i64 0, .int .i64 0, .int .i64 0, .int .i64 0, .int .i64 0, .int .i64 0, .int .i64 0, .int .i64 0] 23)) := HN
              have HC5 : Hid ((wr.drewN nq).heap[w.heap.size + 1 + 1]? = some (.cells #[.int .i64 (x 0), .int .i64 (x 1), .int .i64 (x 2), .int .i64 (x 3), .int .i64 (x 4), .int .i64 (x 5), .int .i64 (x 6), .int .i64 (x 7), .int .i64 (x 8), .int .i64 (x 9), .int .i64 (x 10), .int .i64 (x 11), .int .i64 (x 12)] 23)) := HC
              have HBW5 : Hid (Below w.heap.size w (wr.drewN nq)) := Go.Lib.hid (HBW.out.trans ((below_drewN nq).mono HBW.out.size))
              clear HKB HOW HZ HN HC HBW cx
              generalize wr.drewN nq = W5 at *
              have h4 : x0 % 4 = 0 ∨ x0 % 4 = 1 ∨ x0 % 4 = 2 ∨ x0 % 4 = 3 := by omega
              rcases h4 with h4 | h4 | h4 | h4
              · have hmod : (x0 : Int) % 4 = 0 := by omega
                simp only [hmod]
                clear hmod
                have HEN : Hid (entryP (l.drop a) = some (tickE, (x0 / 4 + 1), l.drop (a + 1))) := Go.Lib.hid (by rw [HDR.out]; simp only [entryP]; rw [if_pos h4])
                have ht64 : (x0 / 4 + 1) ≤ 64 := by omega
                have hal : Below W5.heap.size W5 (W5.alloc (.cells #[.int .i64 (3), .int .i64 (0), .int .i64 (0), .int .i64 (0), .int .i64 (0), .int .i64 (0), .int .i64 (0), .int .i64 (0)] 53)) := (Below.refl _ _).alloc (Nat.le_refl _) _
                have HOT := Go.Lib.hid (own_below HOW5.out hal)
                have HRT := Go.Lib.hid (heap_alloc_new W5 (.cells #[.int .i64 (3), .int .i64 (0), .int .i64 (0), .int .i64 (0), .int .i64 (0), .int .i64 (0), .int .i64 (0), .int .i64 (0)] 53))
                have HNB : Hid ((Value.slice a10 es.length c10).ownBlock ≠ some W5.heap.size) := Go.Lib.hid (by
                  intro q
                  rcases HOW5.out.2 with ⟨e0, _⟩ | ⟨gg, cc, cur, e0, _, hgg, _⟩
                  · rw [e0] at q; cases q
                  · rw [e0] at q
                    have q : gg = W5.heap.size := Option.some.inj q
                    have := heap_lt0 hgg
                    omega)
                have HKT := Go.Lib.hid (HKB5.out.below (Nat.le_trans hB HBW5.out.size) hal)
                have HZT := Go.Lib.hid (row_below hal HZ5.out)
                have HNT := Go.Lib.hid (row_below hal HN5.out)
                have HCT := Go.Lib.hid (row_below hal HC5.out)
                have HBT := Go.Lib.hid (HBW5.out.trans (hal.mono HBW5.out.size))
                have hgw : w.heap.size ≤ W5.heap.size := HBW5.out.size
                have hg6 : w.heap.size + 1 + 1 < W5.heap.size := heap_lt0 HC5.out
                clear hal
                go_wp2_with fail
                generalize (W5.alloc (.cells #[.int .i64 (3), .int .i64 (0), .int .i64 (0), .int .i64 (0), .int .i64 (0), .int .i64 (0), .int .i64 (0), .int .i64 (0)] 53)) = W6 at *
                generalize W5.heap.size = g12 at *
                clear HOW5 HKB5 HZ5 HN5 HC5 HBW5
                refine wp_loop_rounds 1 ?_
                rw [rounds_succ]
                go_wp2_with fail
                go_loopw [8, 20] (fun u8 u20 wr => ∃ i : Nat, u20 = .int .i64 (i : Nat) ∧ i ≤ (x0 / 4 + 1) ∧ wr.ownsRow w.heap.size 53 8 u8 (es.length + i) ((es ++ List.replicate i (tickE)).map Ent.cells).flatten ∧ wr.heap[g12]? = some (.cells #[.int .i64 (3), .int .i64 (0), .int .i64 (0), .int .i64 (0), .int .i64 (0), .int .i64 (0), .int .i64 (0), .int .i64 (0)] 53) ∧ u8.ownBlock ≠ some g12 ∧ KBb B wr (.slice (some ⟨g, off, none⟩) l.length c) l ∧ wr.heap[w.heap.size]? = some (.cells #[.int .i64 0, .int .i64 0, .int .i64 0, .int .i64 0, .int .i64 0, .int .i64 0, .int .i64 0, .int .i64 0, .int .i64 0, .int .i64 0, .int .i64 0, .int .i64 0, .int .i64 0] 23) ∧ wr.heap[w.heap.size + 1]? = some (.cells #[.int .i64 0, .int .i64 0, .int .i64 0, .int .i64 0, .int .i64 0, .int .i64 0, .int .i64 0, .int .i64 0, .int .i64 0, .int .i64 0, .int .i64 0, .int .i64 0, .int .i64 0] 23) ∧ wr.heap[w.heap.size + 1 + 1]? = some (.cells #[.int .i64 (x 0), .int .i64 (x 1), .int .i64 (x 2), .int .i64 (x 3), .int .i64 (x 4), .int .i64 (x 5), .int .i64 (x 6), .int .i64 (x 7), .int .i64 (x 8), .int .i64 (x 9), .int .i64 (x 10), .int .i64 (x 11), .int .i64 (x 12)] 23) ∧ Below w.heap.size w wr) (fun _ i _ => (x0 / 4 + 1) - (intOf i).toNat)
                case atStart => exact ⟨0, rfl, Nat.zero_le _, by rw [List.replicate_zero, List.append_nil]; exact HOT.out, HRT.out, HNB.out, HKT.out, HZT.out, HNT.out, HCT.out, HBT.out⟩
                case round =>
                  obtain ⟨i, rfl, hi, hown, hrow, hnb, hkb, hz, hnn, hc, hbw⟩ := hrel
                  obtain ⟨a11, c11, rfl⟩ := own_form hown
                  have HOW4 := Go.Lib.hid hown
                  have HROW4 := Go.Lib.hid hrow
                  have HNB4 := Go.Lib.hid hnb
                  have HKB4 := Go.Lib.hid hkb
                  have HZ4 := Go.Lib.hid hz
                  have HN4 := Go.Lib.hid hnn
                  have HC4 := Go.Lib.hid hc
                  have HBW4 := Go.Lib.hid hbw
                  have hg12 := heap_lt0 hrow
                  have c0 : wr.cell? ⟨g12, 0, none⟩ = some (.int .i64 (3)) := cell_of_row _ _ _ _ _ _ hrow
                  have c1 : wr.cell? ⟨g12, 1, none⟩ = some (.int .i64 (0)) := cell_of_row _ _ _ _ _ _ hrow
                  have c2 : wr.cell? ⟨g12, 2, none⟩ = some (.int .i64 (0)) := cell_of_row _ _ _ _ _ _ hrow
                  have c3 : wr.cell? ⟨g12, 3, none⟩ = some (.int .i64 (0)) := cell_of_row _ _ _ _ _ _ hrow
                  have c4 : wr.cell? ⟨g12, 4, none⟩ = some (.int .i64 (0)) := cell_of_row _ _ _ _ _ _ hrow
                  have c5 : wr.cell? ⟨g12, 5, none⟩ = some (.int .i64 (0)) := cell_of_row _ _ _ _ _ _ hrow
                  have c6 : wr.cell? ⟨g12, 6, none⟩ = some (.int .i64 (0)) := cell_of_row _ _ _ _ _ _ hrow
                  have c7 : wr.cell? ⟨g12, 7, none⟩ = some (.int .i64 (0)) := cell_of_row _ _ _ _ _ _ hrow
                  clear hown hrow hnb hkb hz hnn hc hbw HOT HRT HNB HKT HZT HNT HCT HBT
                  by_cases hit : i < (x0 / 4 + 1)
                  · have b4 : ((i : Int) < ((x0 : Int) / 4 + 1)) := by omega
                    have HOA := Go.Lib.hid (HOW4.out.alloc (.cells #[.int .i64 (3), .int .i64 (0), .int .i64 (0), .int .i64 (0), .int .i64 (0), .int .i64 (0), .int .i64 (0), .int .i64 (0)] 53))
                    have HTA : Hid (Below w.heap.size w (wr.alloc (.cells #[.int .i64 (3), .int .i64 (0), .int .i64 (0), .int .i64 (0), .int .i64 (0), .int .i64 (0), .int .i64 (0), .int .i64 (0)] 53))) := Go.Lib.hid (HBW4.out.alloc HBW4.out.size _)
                    have HBA : Hid (Below wr.heap.size wr (wr.alloc (.cells #[.int .i64 (3), .int .i64 (0), .int .i64 (0), .int .i64 (0), .int .i64 (0), .int .i64 (0), .int .i64 (0), .int .i64 (0)] 53))) := Go.Lib.hid ((Below.refl _ _).alloc (Nat.le_refl _) _)
                    have HSZ := Go.Lib.hid HBW4.out.size
                    go_wp2_with (first
                      | (at_builtin; refine wpList_append_own5 rfl _ _ 34 rfl w.heap.size 53 i0 _ 8 64 hund hi0 hz0 hz1 hz2 rfl (by decide) _ (es.length + i) (((es ++ List.replicate i (tickE)).map Ent.cells).flatten) rfl HOA.out ⟨wr.heap.size, 0, none⟩ 1 1 [.int .i64 (3), .int .i64 (0), .int .i64 (0), .int .i64 (0), .int .i64 (0), .int .i64 (0), .int .i64 (0), .int .i64 (0)] rfl rfl (World.news_of_block (cs := #[.int .i64 (3), .int .i64 (0), .int .i64 (0), .int .i64 (0), .int .i64 (0), .int .i64 (0), .int .i64 (0), .int .i64 (0)]) (t := 53) (fr := (0, 0)) (heap_alloc_new _ _)) (by simp [Value.oneCell']) (by unfold maxLen; omega) (by omega) (by have := HSZ.out; rw [World.size_alloc]; omega) ?_; intro v6 w6 hown6 hgrow6 hob6)
                      | fail)
                    have HO6 := Go.Lib.hid hown6
                    have HRW6 : Hid (w6.heap[g12]? = some (.cells #[.int .i64 (3), .int .i64 (0), .int .i64 (0), .int .i64 (0), .int .i64 (0), .int .i64 (0), .int .i64 (0), .int .i64 (0)] 53)) := Go.Lib.hid ((hgrow6.block g12 (by rw [World.size_alloc]; omega) (Ne.symm HNB4.out)).trans (row_below HBA.out HROW4.out))
                    have HNB6 : Hid (v6.ownBlock ≠ some g12) := Go.Lib.hid (by
                      rcases hob6 with q | q
                      · rw [q]; exact HNB4.out
                      · rw [q, World.size_alloc]; intro q2; injection q2 with q2; omega)
                    have HT := Go.Lib.hid ((OntoT.refl w.heap.size 53 (wr.alloc (.cells #[.int .i64 (3), .int .i64 (0), .int .i64 (0), .int .i64 (0), .int .i64 (0), .int .i64 (0), .int .i64 (0), .int .i64 (0)] 53))).grown HOA.out hgrow6 (by have := HSZ.out; rw [World.size_alloc]; omega) (Nat.le_refl _))
                    clear hown6 hgrow6 hob6
                    go_roundw
                    case rel => exact ⟨i + 1, by go_num, by omega, by have := HO6.out; rw [List.replicate_succ', ← List.append_assoc, List.map_append, List.flatten_append, ← Nat.add_assoc]; exact this, HRW6.out, HNB6.out, (HKB4.out.below (Nat.le_trans hB HSZ.out) HBA.out).keep (fun q hq => HT.out.below.block q (by omega)), HT.out.keep _ _ _ _ (by decide) (row_below HBA.out HZ4.out), HT.out.keep _ _ _ _ (by decide) (row_below HBA.out HN4.out), HT.out.keep _ _ _ _ (by decide) (row_below HBA.out HC4.out), HTA.out.trans HT.out.below⟩
                    case measure => simp [intOf]; omega
                  · have hiT : i = (x0 / 4 + 1) := by omega
                    subst hiT
                    have b4 : ((((x0 / 4 + 1) : Nat) : Int) < ((x0 : Int) / 4 + 1)) = False := by first | (simp; done) | (simp; omega)
                    clear c0 c1 c2 c3 c4 c5 c6 c7
                    by_cases hfull : 20000 < es.length + ((x0 / 4 + 1))
                    · have HF9 := Go.Lib.hid (HDEC.out.symm.trans (decP_full HEN.out es hfull))
                      have hfi : (20000 : Int) < ((es.length + ((x0 / 4 + 1)) : Nat) : Int) := by omega
                      have HZF := HZ4
                      have HSF := HN4
                      have HBF := HBW4
                      go_wp2_with (first
                        | ((with_reducible refine wpList_load_row (o := ⟨_, .load _ _, _, _, _, _⟩) rfl _ _ rfl ((w.heap.size + 1)) ?_ 23 #[.int .i64 0, .int .i64 0, .int .i64 0, .int .i64 0, .int .i64 0, .int .i64 0, .int .i64 0, .int .i64 0, .int .i64 0, .int .i64 0, .int .i64 0, .int .i64 0, .int .i64 0] (0, 0) _ ?_ Tryz.underlying23 ?_ ?_ ?_); rfl; exact HSF.out; rfl; exact HI.out)
                        | ((with_reducible refine wpList_store_rowTo (o := ⟨_, .store _ _ _, _, _, _, _⟩) rfl _ _ _ rfl ?_ w.heap.size #[.int .i64 0, .int .i64 0, .int .i64 0, .int .i64 0, .int .i64 0, .int .i64 0, .int .i64 0, .int .i64 0, .int .i64 0, .int .i64 0, .int .i64 0, .int .i64 0, .int .i64 0] ?_ ?_ 23 #[.int .i64 0, .int .i64 0, .int .i64 0, .int .i64 0, .int .i64 0, .int .i64 0, .int .i64 0, .int .i64 0, .int .i64 0, .int .i64 0, .int .i64 0, .int .i64 0, .int .i64 0] ?_ ?_ ?_ ?_ ?_); rfl; rfl; rfl; exact HZF.out; exact HI.out; rfl; exact (by simp [show ∀ k n, (Value.int k n).oneCell' = true from fun _ _ => rfl]); refine Hid.out ?_)
                        | fail)
                      have HB9 := Go.Lib.hid (below_setRow HBF.out (Nat.le_refl _) #[.int .i64 0, .int .i64 0, .int .i64 0, .int .i64 0, .int .i64 0, .int .i64 0, .int .i64 0, .int .i64 0, .int .i64 0, .int .i64 0, .int .i64 0, .int .i64 0, .int .i64 0])
                      have HZ9 := Go.Lib.hid (setRow_heap wr w.heap.size #[.int .i64 0, .int .i64 0, .int .i64 0, .int .i64 0, .int .i64 0, .int .i64 0, .int .i64 0, .int .i64 0, .int .i64 0, .int .i64 0, .int .i64 0, .int .i64 0, .int .i64 0] #[.int .i64 0, .int .i64 0, .int .i64 0, .int .i64 0, .int .i64 0, .int .i64 0, .int .i64 0, .int .i64 0, .int .i64 0, .int .i64 0, .int .i64 0, .int .i64 0, .int .i64 0] 23 (0, 0) HZF.out)
                      unfold Hid
                      clear HBF HZF HSF
                      generalize wr.setRow w.heap.size #[.int .i64 0, .int .i64 0, .int .i64 0, .int .i64 0, .int .i64 0, .int .i64 0, .int .i64 0, .int .i64 0, .int .i64 0, .int .i64 0, .int .i64 0, .int .i64 0, .int .i64 0] = w9 at *
                      go_wp2_with fail
                      exact bodyPost_ret (results_ctt (v1 := .slice none 0 0) (v2 := .int .i64 3) rfl _ _ _ (b1 := w.heap.size) (r1 := #[.int .i64 0, .int .i64 0, .int .i64 0, .int .i64 0, .int .i64 0, .int .i64 0, .int .i64 0, .int .i64 0, .int .i64 0, .int .i64 0, .int .i64 0, .int .i64 0, .int .i64 0]) rfl rfl rfl HZ9.out rfl Tryz.underlying23 HI.out) rfl (HDF.out _ HF9.out HB9.out)
                    · have HD9 := Go.Lib.hid ((decP_some HEN.out es hfull).symm.trans HDEC.out)
                      have hfi : ((20000 : Int) < ((es.length + ((x0 / 4 + 1)) : Nat) : Int)) = False := by simp; omega
                      have HL9 : Hid ((es ++ List.replicate ((x0 / 4 + 1)) (tickE)).length = es.length + ((x0 / 4 + 1))) := Go.Lib.hid (by rw [List.length_append, List.length_replicate])
                      go_wp2_with fail
                      go_roundw
                      case rel => exact ⟨a + 1, es ++ List.replicate ((x0 / 4 + 1)) (tickE), by first | rfl | go_num, by omega, HKB4.out, by rw [HL9.out]; omega, HD9.out, by rw [HL9.out]; exact HOW4.out, HZ4.out, HN4.out, HC4.out, HBW4.out⟩
                      case measure => simp [intOf]; omega
              · have hmod : (x0 : Int) % 4 = 1 := by omega
                simp only [hmod]
                clear hmod
                have HEN : Hid (entryP (l.drop a) = some (pickE ((x0 : Int) / 4), 1, l.drop (a + 1))) := Go.Lib.hid (by rw [HDR.out]; simp only [entryP]; rw [if_neg (by omega), if_pos h4]; rfl)
                have ht64 : 1 ≤ 64 := by omega
                have hal : Below W5.heap.size W5 (W5.alloc (.cells #[.int .i64 (2), .int .i64 ((x0 : Int) / 4), .int .i64 (0), .int .i64 (0), .int .i64 (0), .int .i64 (0), .int .i64 (0), .int .i64 (0)] 53)) := (Below.refl _ _).alloc (Nat.le_refl _) _
                have HOT := Go.Lib.hid (own_below HOW5.out hal)
                have HRT := Go.Lib.hid (heap_alloc_new W5 (.cells #[.int .i64 (2), .int .i64 ((x0 : Int) / 4), .int .i64 (0), .int .i64 (0), .int .i64 (0), .int .i64 (0), .int .i64 (0), .int .i64 (0)] 53))
                have HNB : Hid ((Value.slice a10 es.length c10).ownBlock ≠ some W5.heap.size) := Go.Lib.hid (by
                  intro q
                  rcases HOW5.out.2 with ⟨e0, _⟩ | ⟨gg, cc, cur, e0, _, hgg, _⟩
                  · rw [e0] at q; cases q
                  · rw [e0] at q
                    have q : gg = W5.heap.size := Option.some.inj q
                    have := heap_lt0 hgg
                    omega)
                have HKT := Go.Lib.hid (HKB5.out.below (Nat.le_trans hB HBW5.out.size) hal)
                have HZT := Go.Lib.hid (row_below hal HZ5.out)
                have HNT := Go.Lib.hid (row_below hal HN5.out)
                have HCT := Go.Lib.hid (row_below hal HC5.out)
                have HBT := Go.Lib.hid (HBW5.out.trans (hal.mono HBW5.out.size))
                have hgw : w.heap.size ≤ W5.heap.size := HBW5.out.size
                have hg6 : w.heap.size + 1 + 1 < W5.heap.size := heap_lt0 HC5.out
                clear hal
                go_wp2_with fail
                generalize (W5.alloc (.cells #[.int .i64 (2), .int .i64 ((x0 : Int) / 4), .int .i64 (0), .int .i64 (0), .int .i64 (0), .int .i64 (0), .int .i64 (0), .int .i64 (0)] 53)) = W6 at *
                generalize W5.heap.size = g12 at *
                clear HOW5 HKB5 HZ5 HN5 HC5 HBW5
                refine wp_loop_rounds 1 ?_
                rw [rounds_succ]
                go_wp2_with fail
                go_loopw [8, 20] (fun u8 u20 wr => ∃ i : Nat, u20 = .int .i64 (i : Nat) ∧ i ≤ 1 ∧ wr.ownsRow w.heap.size 53 8 u8 (es.length + i) ((es ++ List.replicate i (pickE ((x0 : Int) / 4))).map Ent.cells).flatten ∧ wr.heap[g12]? = some (.cells #[.int .i64 (2), .int .i64 ((x0 : Int) / 4), .int .i64 (0), .int .i64 (0), .int .i64 (0), .int .i64 (0), .int .i64 (0), .int .i64 (0)] 53) ∧ u8.ownBlock ≠ some g12 ∧ KBb B wr (.slice (some ⟨g, off, none⟩) l.length c) l ∧ wr.heap[w.heap.size]? = some (.cells #[.int .i64 0, .int .i64 0, .int .i64 0, .int .i64 0, .int .i64 0, .int .i64 0, .int .i64 0, .int .i64 0, .int .i64 0, .int .i64 0, .int .i64 0, .int .i64 0, .int .i64 0] 23) ∧ wr.heap[w.heap.size + 1]? = some (.cells #[.int .i64 0, .int .i64 0, .int .i64 0, .int .i64 0, .int .i64 0, .int .i64 0, .int .i64 0, .int .i64 0, .int .i64 0, .int .i64 0, .int .i64 0, .int .i64 0, .int .i64 0] 23) ∧ wr.heap[w.heap.size + 1 + 1]? = some (.cells #[.int .i64 (x 0), .int .i64 (x 1), .int .i64 (x 2), .int .i64 (x 3), .int .i64 (x 4), .int .i64 (x 5), .int .i64 (x 6), .int .i64 (x 7), .int .i64 (x 8), .int .i64 (x 9), .int .i64 (x 10), .int .i64 (x 11), .int .i64 (x 12)] 23) ∧ Below w.heap.size w wr) (fun _ i _ => 1 - (intOf i).toNat)
                case atStart => exact ⟨0, rfl, Nat.zero_le _, by rw [List.replicate_zero, List.append_nil]; exact HOT.out, HRT.out, HNB.out, HKT.out, HZT.out, HNT.out, HCT.out, HBT.out⟩
                case round =>
                  obtain ⟨i, rfl, hi, hown, hrow, hnb, hkb, hz, hnn, hc, hbw⟩ := hrel
                  obtain ⟨a11, c11, rfl⟩ := own_form hown
                  have HOW4 := Go.Lib.hid hown
                  have HROW4 := Go.Lib.hid hrow
                  have HNB4 := Go.Lib.hid hnb
                  have HKB4 := Go.Lib.hid hkb
                  have HZ4 := Go.Lib.hid hz
                  have HN4 := Go.Lib.hid hnn
                  have HC4 := Go.Lib.hid hc
                  have HBW4 := Go.Lib.hid hbw
                  have hg12 := heap_lt0 hrow
                  have c0 : wr.cell? ⟨g12, 0, none⟩ = some (.int .i64 (2)) := cell_of_row _ _ _ _ _ _ hrow
                  have c1 : wr.cell? ⟨g12, 1, none⟩ = some (.int .i64 ((x0 : Int) / 4)) := cell_of_row _ _ _ _ _ _ hrow
                  have c2 : wr.cell? ⟨g12, 2, none⟩ = some (.int .i64 (0)) := cell_of_row _ _ _ _ _ _ hrow
                  have c3 : wr.cell? ⟨g12, 3, none⟩ = some (.int .i64 (0)) := cell_of_row _ _ _ _ _ _ hrow
                  have c4 : wr.cell? ⟨g12, 4, none⟩ = some (.int .i64 (0)) := cell_of_row _ _ _ _ _ _ hrow
                  have c5 : wr.cell? ⟨g12, 5, none⟩ = some (.int .i64 (0)) := cell_of_row _ _ _ _ _ _ hrow
                  have c6 : wr.cell? ⟨g12, 6, none⟩ = some (.int .i64 (0)) := cell_of_row _ _ _ _ _ _ hrow
                  have c7 : wr.cell? ⟨g12, 7, none⟩ = some (.int .i64 (0)) := cell_of_row _ _ _ _ _ _ hrow
                  clear hown hrow hnb hkb hz hnn hc hbw HOT HRT HNB HKT HZT HNT HCT HBT
                  by_cases hit : i < 1
                  · have b4 : ((i : Int) < 1) := by omega
                    have HOA := Go.Lib.hid (HOW4.out.alloc (.cells #[.int .i64 (2), .int .i64 ((x0 : Int) / 4), .int .i64 (0), .int .i64 (0), .int .i64 (0), .int .i64 (0), .int .i64 (0), .int .i64 (0)] 53))
                    have HTA : Hid (Below w.heap.size w (wr.alloc (.cells #[.int .i64 (2), .int .i64 ((x0 : Int) / 4), .int .i64 (0), .int .i64 (0), .int .i64 (0), .int .i64 (0), .int .i64 (0), .int .i64 (0)] 53))) := Go.Lib.hid (HBW4.out.alloc HBW4.out.size _)
                    have HBA : Hid (Below wr.heap.size wr (wr.alloc (.cells #[.int .i64 (2), .int .i64 ((x0 : Int) / 4), .int .i64 (0), .int .i64 (0), .int .i64 (0), .int .i64 (0), .int .i64 (0), .int .i64 (0)] 53))) := Go.Lib.hid ((Below.refl _ _).alloc (Nat.le_refl _) _)
                    have HSZ := Go.Lib.hid HBW4.out.size
                    go_wp2_with (first
                      | (at_builtin; refine wpList_append_own5 rfl _ _ 34 rfl w.heap.size 53 i0 _ 8 64 hund hi0 hz0 hz1 hz2 rfl (by decide) _ (es.length + i) (((es ++ List.replicate i (pickE ((x0 : Int) / 4))).map Ent.cells).flatten) rfl HOA.out ⟨wr.heap.size, 0, none⟩ 1 1 [.int .i64 (2), .int .i64 ((x0 : Int) / 4), .int .i64 (0), .int .i64 (0), .int .i64 (0), .int .i64 (0), .int .i64 (0), .int .i64 (0)] rfl rfl (World.news_of_block (cs := #[.int .i64 (2), .int .i64 ((x0 : Int) / 4), .int .i64 (0), .int .i64 (0), .int .i64 (0), .int .i64 (0), .int .i64 (0), .int .i64 (0)]) (t := 53) (fr := (0, 0)) (heap_alloc_new _ _)) (by simp [Value.oneCell']) (by unfold maxLen; omega) (by omega) (by have := HSZ.out; rw [World.size_alloc]; omega) ?_; intro v6 w6 hown6 hgrow6 hob6)
                      | fail)
                    have HO6 := Go.Lib.hid hown6
                    have HRW6 : Hid (w6.heap[g12]? = some (.cells #[.int .i64 (2), .int .i64 ((x0 : Int) / 4), .int .i64 (0), .int .i64 (0), .int .i64 (0), .int .i64 (0), .int .i64 (0), .int .i64 (0)] 53)) := Go.Lib.hid ((hgrow6.block g12 (by rw [World.size_alloc]; omega) (Ne.symm HNB4.out)).trans (row_below HBA.out HROW4.out))
                    have HNB6 : Hid (v6.ownBlock ≠ some g12) := Go.Lib.hid (by
                      rcases hob6 with q | q
                      · rw [q]; exact HNB4.out
                      · rw [q, World.size_alloc]; intro q2; injection q2 with q2; omega)
                    have HT := Go.Lib.hid ((OntoT.refl w.heap.size 53 (wr.alloc (.cells #[.int .i64 (2), .int .i64 ((x0 : Int) / 4), .int .i64 (0), .int .i64 (0), .int .i64 (0), .int .i64 (0), .int .i64 (0), .int .i64 (0)] 53))).grown HOA.out hgrow6 (by have := HSZ.out; rw [World.size_alloc]; omega) (Nat.le_refl _))
                    clear hown6 hgrow6 hob6
                    go_roundw
                    case rel => exact ⟨i + 1, by go_num, by omega, by have := HO6.out; rw [List.replicate_succ', ← List.append_assoc, List.map_append, List.flatten_append, ← Nat.add_assoc]; exact this, HRW6.out, HNB6.out, (HKB4.out.below (Nat.le_trans hB HSZ.out) HBA.out).keep (fun q hq => HT.out.below.block q (by omega)), HT.out.keep _ _ _ _ (by decide) (row_below HBA.out HZ4.out), HT.out.keep _ _ _ _ (by decide) (row_below HBA.out HN4.out), HT.out.keep _ _ _ _ (by decide) (row_below HBA.out HC4.out), HTA.out.trans HT.out.below⟩
                    case measure => simp [intOf]; omega
                  · have hiT : i = 1 := by omega
                    subst hiT
                    have b4 : (((1 : Nat) : Int) < 1) = False := by first | (simp; done) | (simp; omega)
                    clear c0 c1 c2 c3 c4 c5 c6 c7
                    by_cases hfull : 20000 < es.length + (1)
                    · have HF9 := Go.Lib.hid (HDEC.out.symm.trans (decP_full HEN.out es hfull))
                      have hfi : (20000 : Int) < ((es.length + (1) : Nat) : Int) := by omega
                      have HZF := HZ4
                      have HSF := HN4
                      have HBF := HBW4
                      go_wp2_with (first
                        | ((with_reducible refine wpList_load_row (o := ⟨_, .load _ _, _, _, _, _⟩) rfl _ _ rfl ((w.heap.size + 1)) ?_ 23 #[.int .i64 0, .int .i64 0, .int .i64 0, .int .i64 0, .int .i64 0, .int .i64 0, .int .i64 0, .int .i64 0, .int .i64 0, .int .i64 0, .int .i64 0, .int .i64 0, .int .i64 0] (0, 0) _ ?_ Tryz.underlying23 ?_ ?_ ?_); rfl; exact HSF.out; rfl; exact HI.out)
                        | ((with_reducible refine wpList_store_rowTo (o := ⟨_, .store _ _ _, _, _, _, _⟩) rfl _ _ _ rfl ?_ w.heap.size #[.int .i64 0, .int .i64 0, .int .i64 0, .int .i64 0, .int .i64 0, .int .i64 0, .int .i64 0, .int .i64 0, .int .i64 0, .int .i64 0, .int .i64 0, .int .i64 0, .int .i64 0] ?_ ?_ 23 #[.int .i64 0, .int .i64 0, .int .i64 0, .int .i64 0, .int .i64 0, .int .i64 0, .int .i64 0, .int .i64 0, .int .i64 0, .int .i64 0, .int .i64 0, .int .i64 0, .int .i64 0] ?_ ?_ ?_ ?_ ?_); rfl; rfl; rfl; exact HZF.out; exact HI.out; rfl; exact (by simp [show ∀ k n, (Value.int k n).oneCell' = true from fun _ _ => rfl]); refine Hid.out ?_)
                        | fail)
                      have HB9 := Go.Lib.hid (below_setRow HBF.out (Nat.le_refl _) #[.int .i64 0, .int .i64 0, .int .i64 0, .int .i64 0, .int .i64 0, .int .i64 0, .int .i64 0, .int .i64 0, .int .i64 0, .int .i64 0, .int .i64 0, .int .i64 0, .int .i64 0])
                      have HZ9 := Go.Lib.hid (setRow_heap wr w.heap.size #[.int .i64 0, .int .i64 0, .int .i64 0, .int .i64 0, .int .i64 0, .int .i64 0, .int .i64 0, .int .i64 0, .int .i64 0, .int .i64 0, .int .i64 0, .int .i64 0, .int .i64 0] #[.int .i64 0, .int .i64 0, .int .i64 0, .int .i64 0, .int .i64 0, .int .i64 0, .int .i64 0, .int .i64 0, .int .i64 0, .int .i64 0, .int .i64 0, .int .i64 0, .int .i64 0] 23 (0, 0) HZF.out)
                      unfold Hid
                      clear HBF HZF HSF
                      generalize wr.setRow w.heap.size #[.int .i64 0, .int .i64 0, .int .i64 0, .int .i64 0, .int .i64 0, .int .i64 0, .int .i64 0, .int .i64 0, .int .i64 0, .int .i64 0, .int .i64 0, .int .i64 0, .int .i64 0] = w9 at *
                      go_wp2_with fail
                      exact bodyPost_ret (results_ctt (v1 := .slice none 0 0) (v2 := .int .i64 3) rfl _ _ _ (b1 := w.heap.size) (r1 := #[.int .i64 0, .int .i64 0, .int .i64 0, .int .i64 0, .int .i64 0, .int .i64 0, .int .i64 0, .int .i64 0, .int .i64 0, .int .i64 0, .int .i64 0, .int .i64 0, .int .i64 0]) rfl rfl rfl HZ9.out rfl Tryz.underlying23 HI.out) rfl (HDF.out _ HF9.out HB9.out)
                    · have HD9 := Go.Lib.hid ((decP_some HEN.out es hfull).symm.trans HDEC.out)
                      have hfi : ((20000 : Int) < ((es.length + (1) : Nat) : Int)) = False := by simp; omega
                      have HL9 : Hid ((es ++ List.replicate (1) (pickE ((x0 : Int) / 4))).length = es.length + (1)) := Go.Lib.hid (by rw [List.length_append, List.length_replicate])
                      go_wp2_with fail
                      go_roundw
                      case rel => exact ⟨a + 1, es ++ List.replicate (1) (pickE ((x0 : Int) / 4)), by first | rfl | go_num, by omega, HKB4.out, by rw [HL9.out]; omega, HD9.out, by rw [HL9.out]; exact HOW4.out, HZ4.out, HN4.out, HC4.out, HBW4.out⟩
                      case measure => simp [intOf]; omega
              · by_cases h2 : a + 1 < l.length
                · obtain ⟨y0, hy0⟩ : ∃ y0, l[a + 1]? = some y0 := ⟨_, List.getElem?_eq_getElem h2⟩
                  have hy256 : y0 < 256 := HBB.out _ (List.mem_of_getElem? hy0)
                  have HDR2 : Hid (l.drop (a + 1) = y0 :: l.drop (a + 1 + 1)) := Go.Lib.hid (by rw [List.drop_eq_getElem_cons h2]; rw [List.getElem?_eq_getElem h2] at hy0; rw [Option.some.inj hy0])
                  have HNUM : Hid (∀ W, KBb B W (.slice (some ⟨g, off, none⟩) l.length c) l → Calls Tryz.prog 26 #[.slice (some ⟨g, off, none⟩) l.length c, .int .i64 ((a : Int) + 1), .int .i64 1] W fun e w' => e = .returned (.tuple #[.int .i64 (y0 : Nat), .bool true]) ∧ w' = W) := Go.Lib.hid (fun W hW => by
                    have := ref22_number (a + 1) 1 (by decide) (by decide) hW HBB.out (by omega) (by omega)
                    rw [HDR2.out] at this
                    rw [show (((a + 1 : Nat)) : Int) = (a : Int) + 1 by omega] at this
                    simpa [numL] using this)
                  clear hy0
                  have hmod : (x0 : Int) % 4 = 2 := by omega
                  simp only [hmod]
                  clear hmod
                  have HEN : Hid (entryP (l.drop a) = some (pickE ((y0 : Int) % 64), (x0 / 4 + 1), l.drop (a + 1 + 1))) := Go.Lib.hid (by rw [HDR.out, HDR2.out]; simp only [entryP]; rw [if_neg (by omega), if_neg (by omega), if_pos h4]; rfl)
                  have ht64 : (x0 / 4 + 1) ≤ 64 := by omega
                  have hal : Below W5.heap.size W5 (W5.alloc (.cells #[.int .i64 (2), .int .i64 ((y0 : Int) % 64), .int .i64 (0), .int .i64 (0), .int .i64 (0), .int .i64 (0), .int .i64 (0), .int .i64 (0)] 53)) := (Below.refl _ _).alloc (Nat.le_refl _) _
                  have HOT := Go.Lib.hid (own_below HOW5.out hal)
                  have HRT := Go.Lib.hid (heap_alloc_new W5 (.cells #[.int .i64 (2), .int .i64 ((y0 : Int) % 64), .int .i64 (0), .int .i64 (0), .int .i64 (0), .int .i64 (0), .int .i64 (0), .int .i64 (0)] 53))
                  have HNB : Hid ((Value.slice a10 es.length c10).ownBlock ≠ some W5.heap.size) := Go.Lib.hid (by
                    intro q
                    rcases HOW5.out.2 with ⟨e0, _⟩ | ⟨gg, cc, cur, e0, _, hgg, _⟩
                    · rw [e0] at q; cases q
                    · rw [e0] at q
                      have q : gg = W5.heap.size := Option.some.inj q
                      have := heap_lt0 hgg
                      omega)
                  have HKT := Go.Lib.hid (HKB5.out.below (Nat.le_trans hB HBW5.out.size) hal)
                  have HZT := Go.Lib.hid (row_below hal HZ5.out)
                  have HNT := Go.Lib.hid (row_below hal HN5.out)
                  have HCT := Go.Lib.hid (row_below hal HC5.out)
                  have HBT := Go.Lib.hid (HBW5.out.trans (hal.mono HBW5.out.size))
                  have hgw : w.heap.size ≤ W5.heap.size := HBW5.out.size
                  have hg6 : w.heap.size + 1 + 1 < W5.heap.size := heap_lt0 HC5.out
                  clear hal
                  go_wp2_with fail
                  refine (HNUM.out _ (HKB5.out.below (Nat.le_trans hB HBW5.out.size) ((Below.refl _ _).alloc (Nat.le_refl _) _))).mono ?_
                  rintro e w' ⟨rfl, rfl⟩
                  go_wp2_with fail
                  generalize (W5.alloc (.cells #[.int .i64 (2), .int .i64 ((y0 : Int) % 64), .int .i64 (0), .int .i64 (0), .int .i64 (0), .int .i64 (0), .int .i64 (0), .int .i64 (0)] 53)) = W6 at *
                  generalize W5.heap.size = g12 at *
                  clear HOW5 HKB5 HZ5 HN5 HC5 HBW5
                  refine wp_loop_rounds 1 ?_
                  rw [rounds_succ]
                  go_wp2_with fail
                  go_loopw [8, 20] (fun u8 u20 wr => ∃ i : Nat, u20 = .int .i64 (i : Nat) ∧ i ≤ (x0 / 4 + 1) ∧ wr.ownsRow w.heap.size 53 8 u8 (es.length + i) ((es ++ List.replicate i (pickE ((y0 : Int) % 64))).map Ent.cells).flatten ∧ wr.heap[g12]? = some (.cells #[.int .i64 (2), .int .i64 ((y0 : Int) % 64), .int .i64 (0), .int .i64 (0), .int .i64 (0), .int .i64 (0), .int .i64 (0), .int .i64 (0)] 53) ∧ u8.ownBlock ≠ some g12 ∧ KBb B wr (.slice (some ⟨g, off, none⟩) l.length c) l ∧ wr.heap[w.heap.size]? = some (.cells #[.int .i64 0, .int .i64 0, .int .i64 0, .int .i64 0, .int .i64 0, .int .i64 0, .int .i64 0, .int .i64 0, .int .i64 0, .int .i64 0, .int .i64 0, .int .i64 0, .int .i64 0] 23) ∧ wr.heap[w.heap.size + 1]? = some (.cells #[.int .i64 0, .int .i64 0, .int .i64 0, .int .i64 0, .int .i64 0, .int .i64 0, .int .i64 0, .int .i64 0, .int .i64 0, .int .i64 0, .int .i64 0, .int .i64 0, .int .i64 0] 23) ∧ wr.heap[w.heap.size + 1 + 1]? = some (.cells #[.int .i64 (x 0), .int .i64 (x 1), .int .i64 (x 2), .int .i64 (x 3), .int .i64 (x 4), .int .i64 (x 5), .int .i64 (x 6), .int .i64 (x 7), .int .i64 (x 8), .int .i64 (x 9), .int .i64 (x 10), .int .i64 (x 11), .int .i64 (x 12)] 23) ∧ Below w.heap.size w wr) (fun _ i _ => (x0 / 4 + 1) - (intOf i).toNat)
                  case atStart => exact ⟨0, rfl, Nat.zero_le _, by rw [List.replicate_zero, List.append_nil]; exact HOT.out, HRT.out, HNB.out, HKT.out, HZT.out, HNT.out, HCT.out, HBT.out⟩
                  case round =>
                    obtain ⟨i, rfl, hi, hown, hrow, hnb, hkb, hz, hnn, hc, hbw⟩ := hrel
                    obtain ⟨a11, c11, rfl⟩ := own_form hown
                    have HOW4 := Go.Lib.hid hown
                    have HROW4 := Go.Lib.hid hrow
                    have HNB4 := Go.Lib.hid hnb
                    have HKB4 := Go.Lib.hid hkb
                    have HZ4 := Go.Lib.hid hz
                    have HN4 := Go.Lib.hid hnn
                    have HC4 := Go.Lib.hid hc
                    have HBW4 := Go.Lib.hid hbw
                    have hg12 := heap_lt0 hrow
                    have c0 : wr.cell? ⟨g12, 0, none⟩ = some (.int .i64 (2)) := cell_of_row _ _ _ _ _ _ hrow
                    have c1 : wr.cell? ⟨g12, 1, none⟩ = some (.int .i64 ((y0 : Int) % 64)) := cell_of_row _ _ _ _ _ _ hrow
                    have c2 : wr.cell? ⟨g12, 2, none⟩ = some (.int .i64 (0)) := cell_of_row _ _ _ _ _ _ hrow
                    have c3 : wr.cell? ⟨g12, 3, none⟩ = some (.int .i64 (0)) := cell_of_row _ _ _ _ _ _ hrow
                    have c4 : wr.cell? ⟨g12, 4, none⟩ = some (.int .i64 (0)) := cell_of_row _ _ _ _ _ _ hrow
                    have c5 : wr.cell? ⟨g12, 5, none⟩ = some (.int .i64 (0)) := cell_of_row _ _ _ _ _ _ hrow
                    have c6 : wr.cell? ⟨g12, 6, none⟩ = some (.int .i64 (0)) := cell_of_row _ _ _ _ _ _ hrow
                    have c7 : wr.cell? ⟨g12, 7, none⟩ = some (.int .i64 (0)) := cell_of_row _ _ _ _ _ _ hrow
                    clear hown hrow hnb hkb hz hnn hc hbw HOT HRT HNB HKT HZT HNT HCT HBT
                    by_cases hit : i < (x0 / 4 + 1)
                    · have b4 : ((i : Int) < ((x0 : Int) / 4 + 1)) := by omega
                      have HOA := Go.Lib.hid (HOW4.out.alloc (.cells #[.int .i64 (2), .int .i64 ((y0 : Int) % 64), .int .i64 (0), .int .i64 (0), .int .i64 (0), .int .i64 (0), .int .i64 (0), .int .i64 (0)] 53))
                      have HTA : Hid (Below w.heap.size w (wr.alloc (.cells #[.int .i64 (2), .int .i64 ((y0 : Int) % 64), .int .i64 (0), .int .i64 (0), .int .i64 (0), .int .i64 (0), .int .i64 (0), .int .i64 (0)] 53))) := Go.Lib.hid (HBW4.out.alloc HBW4.out.size _)
                      have HBA : Hid (Below wr.heap.size wr (wr.alloc (.cells #[.int .i64 (2), .int .i64 ((y0 : Int) % 64), .int .i64 (0), .int .i64 (0), .int .i64 (0), .int .i64 (0), .int .i64 (0), .int .i64 (0)] 53))) := Go.Lib.hid ((Below.refl _ _).alloc (Nat.le_refl _) _)
                      have HSZ := Go.Lib.hid HBW4.out.size
                      go_wp2_with (first
                        | (at_builtin; refine wpList_append_own5 rfl _ _ 34 rfl w.heap.size 53 i0 _ 8 64 hund hi0 hz0 hz1 hz2 rfl (by decide) _ (es.length + i) (((es ++ List.replicate i (pickE ((y0 : Int) % 64))).map Ent.cells).flatten) rfl HOA.out ⟨wr.heap.size, 0, none⟩ 1 1 [.int .i64 (2), .int .i64 ((y0 : Int) % 64), .int .i64 (0), .int .i64 (0), .int .i64 (0), .int .i64 (0), .int .i64 (0), .int .i64 (0)] rfl rfl (World.news_of_block (cs := #[.int .i64 (2), .int .i64 ((y0 : Int) % 64), .int .i64 (0), .int .i64 (0), .int .i64 (0), .int .i64 (0), .int .i64 (0), .int .i64 (0)]) (t := 53) (fr := (0, 0)) (heap_alloc_new _ _)) (by simp [Value.oneCell']) (by unfold maxLen; omega) (by omega) (by have := HSZ.out; rw [World.size_alloc]; omega) ?_; intro v6 w6 hown6 hgrow6 hob6)
                        | fail)
                      have HO6 := Go.Lib.hid hown6
                      have HRW6 : Hid (w6.heap[g12]? = some (.cells #[.int .i64 (2), .int .i64 ((y0 : Int) % 64), .int .i64 (0), .int .i64 (0), .int .i64 (0), .int .i64 (0), .int .i64 (0), .int .i64 (0)] 53)) := Go.Lib.hid ((hgrow6.block g12 (by rw [World.size_alloc]; omega) (Ne.symm HNB4.out)).trans (row_below HBA.out HROW4.out))
                      have HNB6 : Hid (v6.ownBlock ≠ some g12) := Go.Lib.hid (by
                        rcases hob6 with q | q
                        · rw [q]; exact HNB4.out
                        · rw [q, World.size_alloc]; intro q2; injection q2 with q2; omega)
                      have HT := Go.Lib.hid ((OntoT.refl w.heap.size 53 (wr.alloc (.cells #[.int .i64 (2), .int .i64 ((y0 : Int) % 64), .int .i64 (0), .int .i64 (0), .int .i64 (0), .int .i64 (0), .int .i64 (0), .int .i64 (0)] 53))).grown HOA.out hgrow6 (by have := HSZ.out; rw [World.size_alloc]; omega) (Nat.le_refl _))
                      clear hown6 hgrow6 hob6
                      go_roundw
                      case rel => exact ⟨i + 1, by go_num, by omega, by have := HO6.out; rw [List.replicate_succ', ← List.append_assoc, List.map_append, List.flatten_append, ← Nat.add_assoc]; exact this, HRW6.out, HNB6.out, (HKB4.out.below (Nat.le_trans hB HSZ.out) HBA.out).keep (fun q hq => HT.out.below.block q (by omega)), HT.out.keep _ _ _ _ (by decide) (row_below HBA.out HZ4.out), HT.out.keep _ _ _ _ (by decide) (row_below HBA.out HN4.out), HT.out.keep _ _ _ _ (by decide) (row_below HBA.out HC4.out), HTA.out.trans HT.out.below⟩
                      case measure => simp [intOf]; omega
                    · have hiT : i = (x0 / 4 + 1) := by omega
                      subst hiT
                      have b4 : ((((x0 / 4 + 1) : Nat) : Int) < ((x0 : Int) / 4 + 1)) = False := by first | (simp; done) | (simp; omega)
                      clear c0 c1 c2 c3 c4 c5 c6 c7
                      by_cases hfull : 20000 < es.length + ((x0 / 4 + 1))
                      · have HF9 := Go.Lib.hid (HDEC.out.symm.trans (decP_full HEN.out es hfull))
                        have hfi : (20000 : Int) < ((es.length + ((x0 / 4 + 1)) : Nat) : Int) := by omega
                        have HZF := HZ4
                        have HSF := HN4
                        have HBF := HBW4
                        go_wp2_with (first
                          | ((with_reducible refine wpList_load_row (o := ⟨_, .load _ _, _, _, _, _⟩) rfl _ _ rfl ((w.heap.size + 1)) ?_ 23 #[.int .i64 0, .int .i64 0, .int .i64 0, .int .i64 0, .int .i64 0, .int .i64 0, .int .i64 0, .int .i64 0, .int .i64 0, .int .i64 0, .int .i64 0, .int .i64 0, .int .i64 0] (0, 0) _ ?_ Tryz.underlying23 ?_ ?_ ?_); rfl; exact HSF.out; rfl; exact HI.out)
                          | ((with_reducible refine wpList_store_rowTo (o := ⟨_, .store _ _ _, _, _, _, _⟩) rfl _ _ _ rfl ?_ w.heap.size #[.int .i64 0, .int .i64 0, .int .i64 0, .int .i64 0, .int .i64 0, .int .i64 0, .int .i64 0, .int .i64 0, .int .i64 0, .int .i64 0, .int .i64 0, .int .i64 0, .int .i64 0] ?_ ?_ 23 #[.int .i64 0, .int .i64 0, .int .i64 0, .int .i64 0, .int .i64 0, .int .i64 0, .int .i64 0, .int .i64 0, .int .i64 0, .int .i64 0, .int .i64 0, .int .i64 0, .int .i64 0] ?_ ?_ ?_ ?_ ?_); rfl; rfl; rfl; exact HZF.out; exact HI.out; rfl; exact (by simp [show ∀ k n, (Value.int k n).oneCell' = true from fun _ _ => rfl]); refine Hid.out ?_)
                          | fail)
                        have HB9 := Go.Lib.hid (below_setRow HBF.out (Nat.le_refl _) #[.int .i64 0, .int .i64 0, .int .i64 0, .int .i64 0, .int .i64 0, .int .i64 0, .int .i64 0, .int .i64 0, .int .i64 0, .int .i64 0, .int .i64 0, .int .i64 0, .int .i64 0])
                        have HZ9 := Go.Lib.hid (setRow_heap wr w.heap.size #[.int .i64 0, .int .i64 0, .int .i64 0, .int .i64 0, .int .i64 0, .int .i64 0, .int .i64 0, .int .i64 0, .int .i64 0, .int .i64 0, .int .i64 0, .int .i64 0, .int .i64 0] #[.int .i64 0, .int .i64 0, .int .i64 0, .int .i64 0, .int .i64 0, .int .i64 0, .int .i64 0, .int .i64 0, .int .i64 0, .int .i64 0, .int .i64 0, .int .i64 0, .int .i64 0] 23 (0, 0) HZF.out)
                        unfold Hid
                        clear HBF HZF HSF
                        generalize wr.setRow w.heap.size #[.int .i64 0, .int .i64 0, .int .i64 0, .int .i64 0, .int .i64 0, .int .i64 0, .int .i64 0, .int .i64 0, .int .i64 0, .int .i64 0, .int .i64 0, .int .i64 0, .int .i64 0] = w9 at *
                        go_wp2_with fail
                        exact bodyPost_ret (results_ctt (v1 := .slice none 0 0) (v2 := .int .i64 3) rfl _ _ _ (b1 := w.heap.size) (r1 := #[.int .i64 0, .int .i64 0, .int .i64 0, .int .i64 0, .int .i64 0, .int .i64 0, .int .i64 0, .int .i64 0, .int .i64 0, .int .i64 0, .int .i64 0, .int .i64 0, .int .i64 0]) rfl rfl rfl HZ9.out rfl Tryz.underlying23 HI.out) rfl (HDF.out _ HF9.out HB9.out)
                      · have HD9 := Go.Lib.hid ((decP_some HEN.out es hfull).symm.trans HDEC.out)
                        have hfi : ((20000 : Int) < ((es.length + ((x0 / 4 + 1)) : Nat) : Int)) = False := by simp; omega
                        have HL9 : Hid ((es ++ List.replicate ((x0 / 4 + 1)) (pickE ((y0 : Int) % 64))).length = es.length + ((x0 / 4 + 1))) := Go.Lib.hid (by rw [List.length_append, List.length_replicate])
                        go_wp2_with fail
                        go_roundw
                        case rel => exact ⟨a + 1 + 1, es ++ List.replicate ((x0 / 4 + 1)) (pickE ((y0 : Int) % 64)), by first | rfl | go_num, by omega, HKB4.out, by rw [HL9.out]; omega, HD9.out, by rw [HL9.out]; exact HOW4.out, HZ4.out, HN4.out, HC4.out, HBW4.out⟩
                        case measure => simp [intOf]; omega
                · have HNUM : Hid (∀ W, KBb B W (.slice (some ⟨g, off, none⟩) l.length c) l → Calls Tryz.prog 26 #[.slice (some ⟨g, off, none⟩) l.length c, .int .i64 ((a : Int) + 1), .int .i64 1] W fun e w' => e = .returned (.tuple #[.int .i64 0, .bool false]) ∧ w' = W) := Go.Lib.hid (fun W hW => by
                    have := ref22_number_no (a + 1) 1 (by decide) (by omega) hW (by omega)
                    rwa [show (((a + 1 : Nat)) : Int) = (a : Int) + 1 by omega] at this)
                  have hmod : (x0 : Int) % 4 = 2 := by omega
                  simp only [hmod]
                  clear hmod
                  have HE9 : Hid (decP (l.drop a) es = some es) := Go.Lib.hid (decP_none (by rw [HDR.out, List.drop_eq_nil_of_le (show l.length ≤ a + 1 by omega)]; simp only [entryP]; rw [if_neg (by omega), if_neg (by omega)]) es)
                  have hal : Below W5.heap.size W5 (W5.alloc (.cells #[.int .i64 3, .int .i64 0, .int .i64 0, .int .i64 0, .int .i64 0, .int .i64 0, .int .i64 0, .int .i64 0] 53)) := (Below.refl _ _).alloc (Nat.le_refl _) _
                  go_wp2_with fail
                  refine (HNUM.out _ (HKB5.out.below (Nat.le_trans hB HBW5.out.size) hal)).mono ?_
                  rintro e w' ⟨rfl, rfl⟩
                  have HOF9 := Go.Lib.hid (own_below HOW5.out hal)
                  have HZF := Go.Lib.hid (row_below hal HZ5.out)
                  have HSF := Go.Lib.hid (row_below hal HC5.out)
                  have HBF := Go.Lib.hid (HBW5.out.trans (hal.mono HBW5.out.size))
                  clear hal HOW5 HKB5 HZ5 HN5 HC5 HBW5 HNUM
                  generalize (W5.alloc (.cells #[.int .i64 3, .int .i64 0, .int .i64 0, .int .i64 0, .int .i64 0, .int .i64 0, .int .i64 0, .int .i64 0] 53)) = W6 at *
                  go_wp2_with (first
                    | ((with_reducible refine wpList_load_row (o := ⟨_, .load _ _, _, _, _, _⟩) rfl _ _ rfl ((w.heap.size + 1 + 1)) ?_ 23 #[.int .i64 (x 0), .int .i64 (x 1), .int .i64 (x 2), .int .i64 (x 3), .int .i64 (x 4), .int .i64 (x 5), .int .i64 (x 6), .int .i64 (x 7), .int .i64 (x 8), .int .i64 (x 9), .int .i64 (x 10), .int .i64 (x 11), .int .i64 (x 12)] (0, 0) _ ?_ Tryz.underlying23 ?_ ?_ ?_); rfl; exact HSF.out; rfl; exact HI.out)
                    | ((with_reducible refine wpList_store_rowTo (o := ⟨_, .store _ _ _, _, _, _, _⟩) rfl _ _ _ rfl ?_ w.heap.size #[.int .i64 (x 0), .int .i64 (x 1), .int .i64 (x 2), .int .i64 (x 3), .int .i64 (x 4), .int .i64 (x 5), .int .i64 (x 6), .int .i64 (x 7), .int .i64 (x 8), .int .i64 (x 9), .int .i64 (x 10), .int .i64 (x 11), .int .i64 (x 12)] ?_ ?_ 23 #[.int .i64 0, .int .i64 0, .int .i64 0, .int .i64 0, .int .i64 0, .int .i64 0, .int .i64 0, .int .i64 0, .int .i64 0, .int .i64 0, .int .i64 0, .int .i64 0, .int .i64 0] ?_ ?_ ?_ ?_ ?_); rfl; rfl; rfl; exact HZF.out; exact HI.out; rfl; exact (by simp [show ∀ k n, (Value.int k n).oneCell' = true from fun _ _ => rfl]); refine Hid.out ?_)
                    | fail)
                  have HB9 := Go.Lib.hid (below_setRow HBF.out (Nat.le_refl _) #[.int .i64 (x 0), .int .i64 (x 1), .int .i64 (x 2), .int .i64 (x 3), .int .i64 (x 4), .int .i64 (x 5), .int .i64 (x 6), .int .i64 (x 7), .int .i64 (x 8), .int .i64 (x 9), .int .i64 (x 10), .int .i64 (x 11), .int .i64 (x 12)])
                  have HZ9 := Go.Lib.hid (setRow_heap W6 w.heap.size #[.int .i64 0, .int .i64 0, .int .i64 0, .int .i64 0, .int .i64 0, .int .i64 0, .int .i64 0, .int .i64 0, .int .i64 0, .int .i64 0, .int .i64 0, .int .i64 0, .int .i64 0] #[.int .i64 (x 0), .int .i64 (x 1), .int .i64 (x 2), .int .i64 (x 3), .int .i64 (x 4), .int .i64 (x 5), .int .i64 (x 6), .int .i64 (x 7), .int .i64 (x 8), .int .i64 (x 9), .int .i64 (x 10), .int .i64 (x 11), .int .i64 (x 12)] 23 (0, 0) HZF.out)
                  have HO9 := Go.Lib.hid (own_setRow HOF9.out HZF.out (by decide) #[.int .i64 (x 0), .int .i64 (x 1), .int .i64 (x 2), .int .i64 (x 3), .int .i64 (x 4), .int .i64 (x 5), .int .i64 (x 6), .int .i64 (x 7), .int .i64 (x 8), .int .i64 (x 9), .int .i64 (x 10), .int .i64 (x 11), .int .i64 (x 12)])
                  unfold Hid
                  clear HBF HZF HSF
                  generalize W6.setRow w.heap.size #[.int .i64 (x 0), .int .i64 (x 1), .int .i64 (x 2), .int .i64 (x 3), .int .i64 (x 4), .int .i64 (x 5), .int .i64 (x 6), .int .i64 (x 7), .int .i64 (x 8), .int .i64 (x 9), .int .i64 (x 10), .int .i64 (x 11), .int .i64 (x 12)] = w9 at *
                  go_wp2_with fail
                  exact bodyPost_ret (results_ctt (v1 := .slice a10 es.length c10) (v2 := .int .i64 0) rfl _ _ _ (b1 := w.heap.size) (r1 := #[.int .i64 (x 0), .int .i64 (x 1), .int .i64 (x 2), .int .i64 (x 3), .int .i64 (x 4), .int .i64 (x 5), .int .i64 (x 6), .int .i64 (x 7), .int .i64 (x 8), .int .i64 (x 9), .int .i64 (x 10), .int .i64 (x 11), .int .i64 (x 12)]) rfl rfl rfl HZ9.out rfl Tryz.underlying23 HI.out) rfl (HDE.out es _ _ (HDEC.out.symm.trans HE9.out) HO9.out HB9.out)
              · by_cases h2 : a + 1 < l.length
                · obtain ⟨y0, hy0⟩ : ∃ y0, l[a + 1]? = some y0 := ⟨_, List.getElem?_eq_getElem h2⟩
                  have hy256 : y0 < 256 := HBB.out _ (List.mem_of_getElem? hy0)
                  have HDR2 : Hid (l.drop (a + 1) = y0 :: l.drop (a + 1 + 1)) := Go.Lib.hid (by rw [List.drop_eq_getElem_cons h2]; rw [List.getElem?_eq_getElem h2] at hy0; rw [Option.some.inj hy0])
                  have HNUM : Hid (∀ W, KBb B W (.slice (some ⟨g, off, none⟩) l.length c) l → Calls Tryz.prog 26 #[.slice (some ⟨g, off, none⟩) l.length c, .int .i64 ((a : Int) + 1), .int .i64 1] W fun e w' => e = .returned (.tuple #[.int .i64 (y0 : Nat), .bool true]) ∧ w' = W) := Go.Lib.hid (fun W hW => by
                    have := ref22_number (a + 1) 1 (by decide) (by decide) hW HBB.out (by omega) (by omega)
                    rw [HDR2.out] at this
                    rw [show (((a + 1 : Nat)) : Int) = (a : Int) + 1 by omega] at this
                    simpa [numL] using this)
                  clear hy0
                  have hmod : (x0 : Int) % 4 = 3 := by omega
                  simp only [hmod]
                  clear hmod
                  obtain ⟨FIN, hFIN⟩ : ∃ F, F = partsP (shapeP (x0 / 4)) (invE y0 ((x0 : Int) / 4)) (l.drop (a + 1 + 1)) := ⟨_, rfl⟩
                  have HEO : Hid (entryP (l.drop a) = oneE FIN) := Go.Lib.hid (by rw [HDR.out, HDR2.out, hFIN]; simp only [entryP]; rw [if_neg (by omega), if_neg (by omega), if_neg (by omega)]; rfl)
                  have HFIN := Go.Lib.hid hFIN
                  clear hFIN
                  have HSH := Go.Lib.hid (fun W => ref22_Shape (x0 / 4) W)
                  have hxd : (((x0 / 4 : Nat)) : Int) = (x0 : Int) / 4 := by omega
                  rw [hxd] at HSH
                  clear hxd
                  have ht64 : 1 ≤ 64 := by omega
                  have hal : Below W5.heap.size W5 (W5.alloc (.cells #[.int .i64 (1), .int .i64 (y0), .int .i64 ((x0 : Int) / 4), .int .i64 (0), .int .i64 (0), .int .i64 (0), .int .i64 (0), .int .i64 (0)] 53)) := (Below.refl _ _).alloc (Nat.le_refl _) _
                  have HOT := Go.Lib.hid (own_below HOW5.out hal)
                  have HRT := Go.Lib.hid (heap_alloc_new W5 (.cells #[.int .i64 (1), .int .i64 (y0), .int .i64 ((x0 : Int) / 4), .int .i64 (0), .int .i64 (0), .int .i64 (0), .int .i64 (0), .int .i64 (0)] 53))
                  have HNB : Hid ((Value.slice a10 es.length c10).ownBlock ≠ some W5.heap.size) := Go.Lib.hid (by
                    intro q
                    rcases HOW5.out.2 with ⟨e0, _⟩ | ⟨gg, cc, cur, e0, _, hgg, _⟩
                    · rw [e0] at q; cases q
                    · rw [e0] at q
                      have q : gg = W5.heap.size := Option.some.inj q
                      have := heap_lt0 hgg
                      omega)
                  have HKT := Go.Lib.hid (HKB5.out.below (Nat.le_trans hB HBW5.out.size) hal)
                  have HZT := Go.Lib.hid (row_below hal HZ5.out)
                  have HNT := Go.Lib.hid (row_below hal HN5.out)
                  have HCT := Go.Lib.hid (row_below hal HC5.out)
                  have HBT := Go.Lib.hid (HBW5.out.trans (hal.mono HBW5.out.size))
                  have hgw : w.heap.size ≤ W5.heap.size := HBW5.out.size
                  have hg6 : w.heap.size + 1 + 1 < W5.heap.size := heap_lt0 HC5.out
                  clear hal
                  go_wp2_with fail
                  refine (HNUM.out _ (HKB5.out.below (Nat.le_trans hB HBW5.out.size) ((Below.refl _ _).alloc (Nat.le_refl _) _))).mono ?_
                  rintro e w' ⟨rfl, rfl⟩
                  go_wp2_with fail
                  refine (HSH.out _).mono ?_
                  rintro e w' ⟨rfl, rfl⟩
                  generalize (W5.alloc (.cells #[.int .i64 (1), .int .i64 (y0), .int .i64 ((x0 : Int) / 4), .int .i64 (0), .int .i64 (0), .int .i64 (0), .int .i64 (0), .int .i64 (0)] 53)) = W6 at *
                  generalize W5.heap.size = g12 at *
                  clear HOW5 HKB5 HZ5 HN5 HC5 HBW5
                  have hlen := shape_len (x0 / 4)
                  have HSS : Hid ((strE (x0 / 4)).size = (shapeP (x0 / 4)).length) := Go.Lib.hid (strE_size _)
                  have HSA : Hid (∀ k, k < (shapeP (x0 / 4)).length → ∃ i, 3 ≤ i ∧ i ≤ 7 ∧ (shapeP (x0 / 4))[k]? = some (i, widE i) ∧ (strE (x0 / 4)).data[k]? = some (UInt8.ofNat (chrE i))) := Go.Lib.hid (fun k hk => strE_at _ k hk)
                  have HSE : Hid ((shapeP (x0 / 4)).drop (shapeP (x0 / 4)).length = []) := Go.Lib.hid (List.drop_length)
                  generalize strE (x0 / 4) = st at *
                  generalize hN : (shapeP (x0 / 4)).length = N at *
                  have HN' := Go.Lib.hid hN
                  have hst := HSS.out
                  clear hN
                  subst hst
                  go_wp2_with fail
                  go_loopw [9, 17, 18, 19] (fun u9 u17 u18 u19 wr => ∃ (i a3 : Nat) (ok : Bool) (e0 e1 e2 e3 e4 e5 e6 e7 : Int), u18 = .int .i64 (i : Nat) ∧ u17 = .bool ok ∧ u9 = .int .i64 (a3 : Nat) ∧ i ≤ st.size ∧ a3 ≤ l.length + 5 * i ∧ ((ok = true → a3 ≤ l.length ∧ a + 1 ≤ a3 ∧ partsP ((shapeP (x0 / 4)).drop i) ⟨e0, e1, e2, e3, e4, e5, e6, e7⟩ (l.drop a3) = FIN) ∧ (ok = false → FIN = none)) ∧ wr.ownsRow w.heap.size 53 8 (.slice a10 es.length c10) es.length (es.map Ent.cells).flatten ∧ wr.heap[g12]? = some (.cells #[.int .i64 e0, .int .i64 e1, .int .i64 e2, .int .i64 e3, .int .i64 e4, .int .i64 e5, .int .i64 e6, .int .i64 e7] 53) ∧ KBb B wr (.slice (some ⟨g, off, none⟩) l.length c) l ∧ wr.heap[w.heap.size]? = some (.cells #[.int .i64 0, .int .i64 0, .int .i64 0, .int .i64 0, .int .i64 0, .int .i64 0, .int .i64 0, .int .i64 0, .int .i64 0, .int .i64 0, .int .i64 0, .int .i64 0, .int .i64 0] 23) ∧ wr.heap[w.heap.size + 1]? = some (.cells #[.int .i64 0, .int .i64 0, .int .i64 0, .int .i64 0, .int .i64 0, .int .i64 0, .int .i64 0, .int .i64 0, .int .i64 0, .int .i64 0, .int .i64 0, .int .i64 0, .int .i64 0] 23) ∧ wr.heap[w.heap.size + 1 + 1]? = some (.cells #[.int .i64 (x 0), .int .i64 (x 1), .int .i64 (x 2), .int .i64 (x 3), .int .i64 (x 4), .int .i64 (x 5), .int .i64 (x 6), .int .i64 (x 7), .int .i64 (x 8), .int .i64 (x 9), .int .i64 (x 10), .int .i64 (x 11), .int .i64 (x 12)] 23) ∧ Below w.heap.size w wr) (fun _ _ i _ _ => st.size - (intOf i).toNat)
                  case atStart => exact ⟨0, a + 1 + 1, true, _, _, _, _, _, _, _, _, rfl, rfl, by go_num, Nat.zero_le _, by omega, ⟨fun _ => ⟨by omega, by omega, HFIN.out.symm⟩, fun q => by cases q⟩, HOT.out, HRT.out, HKT.out, HZT.out, HNT.out, HCT.out, HBT.out⟩
                  case round =>
                    obtain ⟨i, a3, ok, e0, e1, e2, e3, e4, e5, e6, e7, rfl, rfl, rfl, hi, ha3, hfin, hown, hrow, hkb, hz, hnn, hc, hbw⟩ := hrel
                    have hg12 := heap_lt0 hrow
                    have HOT := Go.Lib.hid hown
                    have HRT := Go.Lib.hid hrow
                    have HKT := Go.Lib.hid hkb
                    have HZT := Go.Lib.hid hz
                    have HNT := Go.Lib.hid hnn
                    have HCT := Go.Lib.hid hc
                    have HBT := Go.Lib.hid hbw
                    have HFN := Go.Lib.hid hfin
                    have c0 : wr.cell? ⟨g12, 0, none⟩ = some (.int .i64 e0) := cell_of_row _ _ _ _ _ _ hrow
                    have c1 : wr.cell? ⟨g12, 1, none⟩ = some (.int .i64 e1) := cell_of_row _ _ _ _ _ _ hrow
                    have c2 : wr.cell? ⟨g12, 2, none⟩ = some (.int .i64 e2) := cell_of_row _ _ _ _ _ _ hrow
                    have c3 : wr.cell? ⟨g12, 3, none⟩ = some (.int .i64 e3) := cell_of_row _ _ _ _ _ _ hrow
                    have c4 : wr.cell? ⟨g12, 4, none⟩ = some (.int .i64 e4) := cell_of_row _ _ _ _ _ _ hrow
                    have c5 : wr.cell? ⟨g12, 5, none⟩ = some (.int .i64 e5) := cell_of_row _ _ _ _ _ _ hrow
                    have c6 : wr.cell? ⟨g12, 6, none⟩ = some (.int .i64 e6) := cell_of_row _ _ _ _ _ _ hrow
                    have c7 : wr.cell? ⟨g12, 7, none⟩ = some (.int .i64 e7) := cell_of_row _ _ _ _ _ _ hrow
                    have fg : ∀ j, wr.frozen? ⟨g12, j, none⟩ = false := fun j => frozen_of_row _ _ _ _ _ hrow
                    clear hown hrow hkb hz hnn hc hbw hfin
                    cases ok with
                    | false =>
                      have hno := HFN.out.2 rfl
                      have HE9 : Hid (decP (l.drop a) es = some es) := Go.Lib.hid (decP_none (by rw [HEO.out, hno]; rfl) es)
                      clear hno
                      have HZF := HZT
                      have HSF := HCT
                      have HBF := HBT
                      have HOF9 := HOT
                      clear HZT HCT HBT HOT HRT HKT HNT c0 c1 c2 c3 c4 c5 c6 c7 fg
                      by_cases hil : i < st.size
                      · have b6 : (i : Int) < (st.size : Int) := by omega
                        go_wp2_with (first
                          | ((with_reducible refine wpList_load_row (o := ⟨_, .load _ _, _, _, _, _⟩) rfl _ _ rfl ((w.heap.size + 1 + 1)) ?_ 23 #[.int .i64 (x 0), .int .i64 (x 1), .int .i64 (x 2), .int .i64 (x 3), .int .i64 (x 4), .int .i64 (x 5), .int .i64 (x 6), .int .i64 (x 7), .int .i64 (x 8), .int .i64 (x 9), .int .i64 (x 10), .int .i64 (x 11), .int .i64 (x 12)] (0, 0) _ ?_ Tryz.underlying23 ?_ ?_ ?_); rfl; exact HSF.out; rfl; exact HI.out)
                          | ((with_reducible refine wpList_store_rowTo (o := ⟨_, .store _ _ _, _, _, _, _⟩) rfl _ _ _ rfl ?_ w.heap.size #[.int .i64 (x 0), .int .i64 (x 1), .int .i64 (x 2), .int .i64 (x 3), .int .i64 (x 4), .int .i64 (x 5), .int .i64 (x 6), .int .i64 (x 7), .int .i64 (x 8), .int .i64 (x 9), .int .i64 (x 10), .int .i64 (x 11), .int .i64 (x 12)] ?_ ?_ 23 #[.int .i64 0, .int .i64 0, .int .i64 0, .int .i64 0, .int .i64 0, .int .i64 0, .int .i64 0, .int .i64 0, .int .i64 0, .int .i64 0, .int .i64 0, .int .i64 0, .int .i64 0] ?_ ?_ ?_ ?_ ?_); rfl; rfl; rfl; exact HZF.out; exact HI.out; rfl; exact (by simp [show ∀ k n, (Value.int k n).oneCell' = true from fun _ _ => rfl]); refine Hid.out ?_)
                          | fail)
                        have HB9 := Go.Lib.hid (below_setRow HBF.out (Nat.le_refl _) #[.int .i64 (x 0), .int .i64 (x 1), .int .i64 (x 2), .int .i64 (x 3), .int .i64 (x 4), .int .i64 (x 5), .int .i64 (x 6), .int .i64 (x 7), .int .i64 (x 8), .int .i64 (x 9), .int .i64 (x 10), .int .i64 (x 11), .int .i64 (x 12)])
                        have HZ9 := Go.Lib.hid (setRow_heap wr w.heap.size #[.int .i64 0, .int .i64 0, .int .i64 0, .int .i64 0, .int .i64 0, .int .i64 0, .int .i64 0, .int .i64 0, .int .i64 0, .int .i64 0, .int .i64 0, .int .i64 0, .int .i64 0] #[.int .i64 (x 0), .int .i64 (x 1), .int .i64 (x 2), .int .i64 (x 3), .int .i64 (x 4), .int .i64 (x 5), .int .i64 (x 6), .int .i64 (x 7), .int .i64 (x 8), .int .i64 (x 9), .int .i64 (x 10), .int .i64 (x 11), .int .i64 (x 12)] 23 (0, 0) HZF.out)
                        have HO9 := Go.Lib.hid (own_setRow HOF9.out HZF.out (by decide) #[.int .i64 (x 0), .int .i64 (x 1), .int .i64 (x 2), .int .i64 (x 3), .int .i64 (x 4), .int .i64 (x 5), .int .i64 (x 6), .int .i64 (x 7), .int .i64 (x 8), .int .i64 (x 9), .int .i64 (x 10), .int .i64 (x 11), .int .i64 (x 12)])
                        unfold Hid
                        clear HBF HZF HSF
                        generalize wr.setRow w.heap.size #[.int .i64 (x 0), .int .i64 (x 1), .int .i64 (x 2), .int .i64 (x 3), .int .i64 (x 4), .int .i64 (x 5), .int .i64 (x 6), .int .i64 (x 7), .int .i64 (x 8), .int .i64 (x 9), .int .i64 (x 10), .int .i64 (x 11), .int .i64 (x 12)] = w9 at *
                        go_wp2_with fail
                        exact bodyPost_ret (results_ctt (v1 := .slice a10 es.length c10) (v2 := .int .i64 0) rfl _ _ _ (b1 := w.heap.size) (r1 := #[.int .i64 (x 0), .int .i64 (x 1), .int .i64 (x 2), .int .i64 (x 3), .int .i64 (x 4), .int .i64 (x 5), .int .i64 (x 6), .int .i64 (x 7), .int .i64 (x 8), .int .i64 (x 9), .int .i64 (x 10), .int .i64 (x 11), .int .i64 (x 12)]) rfl rfl rfl HZ9.out rfl Tryz.underlying23 HI.out) rfl (HDE.out es _ _ (HDEC.out.symm.trans HE9.out) HO9.out HB9.out)
                      · have b6 : ((i : Int) < (st.size : Int)) = False := by simp; omega
                        go_wp2_with (first
                          | ((with_reducible refine wpList_load_row (o := ⟨_, .load _ _, _, _, _, _⟩) rfl _ _ rfl ((w.heap.size + 1 + 1)) ?_ 23 #[.int .i64 (x 0), .int .i64 (x 1), .int .i64 (x 2), .int .i64 (x 3), .int .i64 (x 4), .int .i64 (x 5), .int .i64 (x 6), .int .i64 (x 7), .int .i64 (x 8), .int .i64 (x 9), .int .i64 (x 10), .int .i64 (x 11), .int .i64 (x 12)] (0, 0) _ ?_ Tryz.underlying23 ?_ ?_ ?_); rfl; exact HSF.out; rfl; exact HI.out)
                          | ((with_reducible refine wpList_store_rowTo (o := ⟨_, .store _ _ _, _, _, _, _⟩) rfl _ _ _ rfl ?_ w.heap.size #[.int .i64 (x 0), .int .i64 (x 1), .int .i64 (x 2), .int .i64 (x 3), .int .i64 (x 4), .int .i64 (x 5), .int .i64 (x 6), .int .i64 (x 7), .int .i64 (x 8), .int .i64 (x 9), .int .i64 (x 10), .int .i64 (x 11), .int .i64 (x 12)] ?_ ?_ 23 #[.int .i64 0, .int .i64 0, .int .i64 0, .int .i64 0, .int .i64 0, .int .i64 0, .int .i64 0, .int .i64 0, .int .i64 0, .int .i64 0, .int .i64 0, .int .i64 0, .int .i64 0] ?_ ?_ ?_ ?_ ?_); rfl; rfl; rfl; exact HZF.out; exact HI.out; rfl; exact (by simp [show ∀ k n, (Value.int k n).oneCell' = true from fun _ _ => rfl]); refine Hid.out ?_)
                          | fail)
                        have HB9 := Go.Lib.hid (below_setRow HBF.out (Nat.le_refl _) #[.int .i64 (x 0), .int .i64 (x 1), .int .i64 (x 2), .int .i64 (x 3), .int .i64 (x 4), .int .i64 (x 5), .int .i64 (x 6), .int .i64 (x 7), .int .i64 (x 8), .int .i64 (x 9), .int .i64 (x 10), .int .i64 (x 11), .int .i64 (x 12)])
                        have HZ9 := Go.Lib.hid (setRow_heap wr w.heap.size #[.int .i64 0, .int .i64 0, .int .i64 0, .int .i64 0, .int .i64 0, .int .i64 0, .int .i64 0, .int .i64 0, .int .i64 0, .int .i64 0, .int .i64 0, .int .i64 0, .int .i64 0] #[.int .i64 (x 0), .int .i64 (x 1), .int .i64 (x 2), .int .i64 (x 3), .int .i64 (x 4), .int .i64 (x 5), .int .i64 (x 6), .int .i64 (x 7), .int .i64 (x 8), .int .i64 (x 9), .int .i64 (x 10), .int .i64 (x 11), .int .i64 (x 12)] 23 (0, 0) HZF.out)
                        have HO9 := Go.Lib.hid (own_setRow HOF9.out HZF.out (by decide) #[.int .i64 (x 0), .int .i64 (x 1), .int .i64 (x 2), .int .i64 (x 3), .int .i64 (x 4), .int .i64 (x 5), .int .i64 (x 6), .int .i64 (x 7), .int .i64 (x 8), .int .i64 (x 9), .int .i64 (x 10), .int .i64 (x 11), .int .i64 (x 12)])
                        unfold Hid
                        clear HBF HZF HSF
                        generalize wr.setRow w.heap.size #[.int .i64 (x 0), .int .i64 (x 1), .int .i64 (x 2), .int .i64 (x 3), .int .i64 (x 4), .int .i64 (x 5), .int .i64 (x 6), .int .i64 (x 7), .int .i64 (x 8), .int .i64 (x 9), .int .i64 (x 10), .int .i64 (x 11), .int .i64 (x 12)] = w9 at *
                        go_wp2_with fail
                        exact bodyPost_ret (results_ctt (v1 := .slice a10 es.length c10) (v2 := .int .i64 0) rfl _ _ _ (b1 := w.heap.size) (r1 := #[.int .i64 (x 0), .int .i64 (x 1), .int .i64 (x 2), .int .i64 (x 3), .int .i64 (x 4), .int .i64 (x 5), .int .i64 (x 6), .int .i64 (x 7), .int .i64 (x 8), .int .i64 (x 9), .int .i64 (x 10), .int .i64 (x 11), .int .i64 (x 12)]) rfl rfl rfl HZ9.out rfl Tryz.underlying23 HI.out) rfl (HDE.out es _ _ (HDEC.out.symm.trans HE9.out) HO9.out HB9.out)
                    | true =>
                      by_cases hil : i < st.size
                      · obtain ⟨f, hf3, hf7, hat, hch⟩ := HSA.out i hil
                        have hdr : (shapeP (x0 / 4)).drop i = (f, widE f) :: (shapeP (x0 / 4)).drop (i + 1) := by
                          have hl : i < (shapeP (x0 / 4)).length := by rw [HN'.out]; exact hil
                          rw [List.drop_eq_getElem_cons hl]
                          rw [List.getElem?_eq_getElem hl] at hat
                          rw [Option.some.inj hat]
                        obtain ⟨q1, q2, q3⟩ := HFN.out.1 rfl
                        obtain ⟨hw1, hw4⟩ := widE_bd f
                        have hc256 := chrE_lt f
                        obtain ⟨nv, ok2, HNUM, HNX⟩ : ∃ (nv : Nat) (ok2 : Bool), Hid (Calls Tryz.prog 26 #[.slice (some ⟨g, off, none⟩) l.length c, .int .i64 (a3 : Nat), .int .i64 (widE f : Nat)] wr (fun e w' => e = .returned (.tuple #[.int .i64 (nv : Nat), .bool ok2]) ∧ w' = wr)) ∧ Hid ((ok2 = true → a3 + widE f ≤ l.length ∧ partsP ((shapeP (x0 / 4)).drop (i + 1)) ((⟨e0, e1, e2, e3, e4, e5, e6, e7⟩ : Ent).set f (nv : Nat)) (l.drop (a3 + widE f)) = FIN) ∧ (ok2 = false → FIN = none)) := by
                          rw [hdr, partsP] at q3
                          unfold takeP at q3
                          by_cases h9 : a3 + widE f ≤ l.length
                          · rw [if_neg (by rw [List.length_drop]; omega)] at q3
                            refine ⟨numL ((l.drop a3).take (widE f)), true, Go.Lib.hid (ref22_number a3 (widE f) hw1 hw4 HKT.out HBB.out h9 (by omega)), Go.Lib.hid ⟨fun _ => ⟨h9, ?_⟩, fun q => by cases q⟩⟩
                            rw [List.drop_drop] at q3
                            exact q3
                          · rw [if_pos (by rw [List.length_drop]; omega)] at q3
                            exact ⟨0, false, Go.Lib.hid (ref22_number_no a3 (widE f) hw4 (by omega) HKT.out (by omega)), Go.Lib.hid ⟨fun q => (by cases q), fun _ => q3.symm⟩⟩
                        obtain ⟨f0, f1, f2, f3, f4, f5, f6, f7, hset⟩ : ∃ f0 f1 f2 f3 f4 f5 f6 f7, (⟨e0, e1, e2, e3, e4, e5, e6, e7⟩ : Ent).set f (nv : Nat) = ⟨f0, f1, f2, f3, f4, f5, f6, f7⟩ := ⟨_, _, _, _, _, _, _, _, rfl⟩
                        have HSET : Hid (∀ W, Calls Tryz.prog 29 #[.agg #[.int .i64 e0, .int .i64 e1, .int .i64 e2, .int .i64 e3, .int .i64 e4, .int .i64 e5, .int .i64 e6, .int .i64 e7], .int .u8 (chrE f : Nat), .int .i64 (nv : Nat)] W fun e w' => e = .returned (.agg #[.int .i64 f0, .int .i64 f1, .int .i64 f2, .int .i64 f3, .int .i64 f4, .int .i64 f5, .int .i64 f6, .int .i64 f7]) ∧ Below W.heap.size W w') := Go.Lib.hid (fun W => by
                          have := ref22_set ⟨e0, e1, e2, e3, e4, e5, e6, e7⟩ f (nv : Nat) hf3 hf7 W
                          rwa [hset] at this)
                        rw [hset] at HNX
                        have HWD := Go.Lib.hid (fun W => ref22_width f hf3 hf7 W)
                        have hidx := fun W => idx_str st i (chrE f) hch hc256 W
                        have HI8 : Hid ((Tryz.prog.info? 53).map (·.size) = some 8) := Go.Lib.hid (by kernel_rfl)
                        clear hdr hset hat hch q1 q3 HFN
                        generalize chrE f = ch at *
                        generalize widE f = kw at *
                        have b5 : (0 : Int) ≤ (i : Int) := by omega
                        have b6 : (i : Int) < (st.size : Int) := by omega
                        go_wp2_with fail
                        refine (HWD.out _).mono ?_
                        rintro e wr ⟨rfl, rfl⟩
                        go_wp2_with fail
                        refine HNUM.out.mono ?_
                        rintro e wr ⟨rfl, rfl⟩
                        go_wp2_with fail
                        refine (HWD.out _).mono ?_
                        rintro e wr ⟨rfl, rfl⟩
                        go_wp2_with fail
                        go_still_tail 5, (by kernel_rfl)
                        change wpList _ _ _ _ _ (World.drew _)
                        go_wp2_with fail
                        refine (HSET.out _).mono ?_
                        rintro e w8 ⟨rfl, hb8⟩
                        have hbd : Below wr.heap.size wr w8 := (Below.refl _ _).drew.trans hb8
                        have HO8 := Go.Lib.hid (own_below HOT.out hbd)
                        have HR8 := Go.Lib.hid (row_below hbd HRT.out)
                        have HK8 := Go.Lib.hid (HKT.out.below (Nat.le_trans hB HBT.out.size) hbd)
                        have HZ8 := Go.Lib.hid (row_below hbd HZT.out)
                        have HN8 := Go.Lib.hid (row_below hbd HNT.out)
                        have HC8 := Go.Lib.hid (row_below hbd HCT.out)
                        have HB8 := Go.Lib.hid (HBT.out.trans (hbd.mono HBT.out.size))
                        clear hb8 hbd HOT HRT HKT HZT HNT HCT HBT c0 c1 c2 c3 c4 c5 c6 c7 fg HNUM HSET HWD
                        go_wp2_with (first
                          | ((with_reducible refine wpList_store_rowTo (o := ⟨_, .store _ _ _, _, _, _, _⟩) rfl _ _ _ rfl ?_ g12 #[.int .i64 f0, .int .i64 f1, .int .i64 f2, .int .i64 f3, .int .i64 f4, .int .i64 f5, .int .i64 f6, .int .i64 f7] ?_ ?_ 53 #[.int .i64 e0, .int .i64 e1, .int .i64 e2, .int .i64 e3, .int .i64 e4, .int .i64 e5, .int .i64 e6, .int .i64 e7] ?_ ?_ ?_ ?_ ?_); rfl; rfl; rfl; exact HR8.out; exact HI8.out; rfl; exact (by simp [show ∀ k n, (Value.int k n).oneCell' = true from fun _ _ => rfl]); refine Hid.out ?_)
                          | fail)
                        have HREL : Hid ((w8.setRow g12 #[.int .i64 f0, .int .i64 f1, .int .i64 f2, .int .i64 f3, .int .i64 f4, .int .i64 f5, .int .i64 f6, .int .i64 f7]).ownsRow w.heap.size 53 8 (.slice a10 es.length c10) es.length (es.map Ent.cells).flatten ∧ (w8.setRow g12 #[.int .i64 f0, .int .i64 f1, .int .i64 f2, .int .i64 f3, .int .i64 f4, .int .i64 f5, .int .i64 f6, .int .i64 f7]).heap[g12]? = some (.cells #[.int .i64 f0, .int .i64 f1, .int .i64 f2, .int .i64 f3, .int .i64 f4, .int .i64 f5, .int .i64 f6, .int .i64 f7] 53) ∧ KBb B (w8.setRow g12 #[.int .i64 f0, .int .i64 f1, .int .i64 f2, .int .i64 f3, .int .i64 f4, .int .i64 f5, .int .i64 f6, .int .i64 f7]) (.slice (some ⟨g, off, none⟩) l.length c) l ∧ (w8.setRow g12 #[.int .i64 f0, .int .i64 f1, .int .i64 f2, .int .i64 f3, .int .i64 f4, .int .i64 f5, .int .i64 f6, .int .i64 f7]).heap[w.heap.size]? = some (.cells #[.int .i64 0, .int .i64 0, .int .i64 0, .int .i64 0, .int .i64 0, .int .i64 0, .int .i64 0, .int .i64 0, .int .i64 0, .int .i64 0, .int .i64 0, .int .i64 0, .int .i64 0] 23) ∧ (w8.setRow g12 #[.int .i64 f0, .int .i64 f1, .int .i64 f2, .int .i64 f3, .int .i64 f4, .int .i64 f5, .int .i64 f6, .int .i64 f7]).heap[w.heap.size + 1]? = some (.cells #[.int .i64 0, .int .i64 0, .int .i64 0, .int .i64 0, .int .i64 0, .int .i64 0, .int .i64 0, .int .i64 0, .int .i64 0, .int .i64 0, .int .i64 0, .int .i64 0, .int .i64 0] 23) ∧ (w8.setRow g12 #[.int .i64 f0, .int .i64 f1, .int .i64 f2, .int .i64 f3, .int .i64 f4, .int .i64 f5, .int .i64 f6, .int .i64 f7]).heap[w.heap.size + 1 + 1]? = some (.cells #[.int .i64 (x 0), .int .i64 (x 1), .int .i64 (x 2), .int .i64 (x 3), .int .i64 (x 4), .int .i64 (x 5), .int .i64 (x 6), .int .i64 (x 7), .int .i64 (x 8), .int .i64 (x 9), .int .i64 (x 10), .int .i64 (x 11), .int .i64 (x 12)] 23) ∧ Below w.heap.size w (w8.setRow g12 #[.int .i64 f0, .int .i64 f1, .int .i64 f2, .int .i64 f3, .int .i64 f4, .int .i64 f5, .int .i64 f6, .int .i64 f7])) := Go.Lib.hid ⟨own_setRow_ne HO8.out HNB.out _, setRow_heap w8 g12 _ _ _ _ HR8.out, KB.keep HK8.out (fun q hq => setRow_ne (by omega)), (setRow_ne (by omega)).trans HZ8.out, (setRow_ne (by omega)).trans HN8.out, (setRow_ne (by omega)).trans HC8.out, below_setRow HB8.out hgw _⟩
                        unfold Hid
                        clear HO8 HR8 HK8 HZ8 HN8 HC8 HB8
                        generalize (w8.setRow g12 #[.int .i64 f0, .int .i64 f1, .int .i64 f2, .int .i64 f3, .int .i64 f4, .int .i64 f5, .int .i64 f6, .int .i64 f7]) = w9 at *
                        go_wp2_with fail
                        go_roundw
                        case rel => exact ⟨i + 1, a3 + kw, ok2, f0, f1, f2, f3, f4, f5, f6, f7, by go_num, rfl, by go_num, by omega, by omega, ⟨fun q => ⟨(HNX.out.1 q).1, by omega, (HNX.out.1 q).2⟩, HNX.out.2⟩, HREL.out.1, HREL.out.2.1, HREL.out.2.2.1, HREL.out.2.2.2.1, HREL.out.2.2.2.2.1, HREL.out.2.2.2.2.2.1, HREL.out.2.2.2.2.2.2⟩
                        case measure => simp [intOf]; omega
                      · have hiS : i = st.size := by omega
                        subst hiS
                        obtain ⟨h3a, h3b, h3c⟩ := HFN.out.1 rfl
                        rw [HSE.out] at h3c
                        simp only [partsP] at h3c
                        have HEN : Hid (entryP (l.drop a) = some ((⟨e0, e1, e2, e3, e4, e5, e6, e7⟩ : Ent), 1, l.drop a3)) := Go.Lib.hid (by rw [HEO.out, ← h3c]; rfl)
                        clear h3c HFN c0 c1 c2 c3 c4 c5 c6 c7 fg
                        have b6 : ((st.size : Int) < (st.size : Int)) = False := by simp
                        go_wp2_with fail
                        go_loopw [8, 20] (fun u8 u20 wr => ∃ i : Nat, u20 = .int .i64 (i : Nat) ∧ i ≤ 1 ∧ wr.ownsRow w.heap.size 53 8 u8 (es.length + i) ((es ++ List.replicate i ((⟨e0, e1, e2, e3, e4, e5, e6, e7⟩ : Ent))).map Ent.cells).flatten ∧ wr.heap[g12]? = some (.cells #[.int .i64 (e0), .int .i64 (e1), .int .i64 (e2), .int .i64 (e3), .int .i64 (e4), .int .i64 (e5), .int .i64 (e6), .int .i64 (e7)] 53) ∧ u8.ownBlock ≠ some g12 ∧ KBb B wr (.slice (some ⟨g, off, none⟩) l.length c) l ∧ wr.heap[w.heap.size]? = some (.cells #[.int .i64 0, .int .i64 0, .int .i64 0, .int .i64 0, .int .i64 0, .int .i64 0, .int .i64 0, .int .i64 0, .int .i64 0, .int .i64 0, .int .i64 0, .int .i64 0, .int .i64 0] 23) ∧ wr.heap[w.heap.size + 1]? = some (.cells #[.int .i64 0, .int .i64 0, .int .i64 0, .int .i64 0, .int .i64 0, .int .i64 0, .int .i64 0, .int .i64 0, .int .i64 0, .int .i64 0, .int .i64 0, .int .i64 0, .int .i64 0] 23) ∧ wr.heap[w.heap.size + 1 + 1]? = some (.cells #[.int .i64 (x 0), .int .i64 (x 1), .int .i64 (x 2), .int .i64 (x 3), .int .i64 (x 4), .int .i64 (x 5), .int .i64 (x 6), .int .i64 (x 7), .int .i64 (x 8), .int .i64 (x 9), .int .i64 (x 10), .int .i64 (x 11), .int .i64 (x 12)] 23) ∧ Below w.heap.size w wr) (fun _ i _ => 1 - (intOf i).toNat)
                        case atStart => exact ⟨0, rfl, Nat.zero_le _, by rw [List.replicate_zero, List.append_nil]; exact HOT.out, HRT.out, HNB.out, HKT.out, HZT.out, HNT.out, HCT.out, HBT.out⟩
                        case round =>
                          obtain ⟨i, rfl, hi, hown, hrow, hnb, hkb, hz, hnn, hc, hbw⟩ := hrel
                          obtain ⟨a11, c11, rfl⟩ := own_form hown
                          have HOW4 := Go.Lib.hid hown
                          have HROW4 := Go.Lib.hid hrow
                          have HNB4 := Go.Lib.hid hnb
                          have HKB4 := Go.Lib.hid hkb
                          have HZ4 := Go.Lib.hid hz
                          have HN4 := Go.Lib.hid hnn
                          have HC4 := Go.Lib.hid hc
                          have HBW4 := Go.Lib.hid hbw
                          have hg12 := heap_lt0 hrow
                          have c0 : wr.cell? ⟨g12, 0, none⟩ = some (.int .i64 (e0)) := cell_of_row _ _ _ _ _ _ hrow
                          have c1 : wr.cell? ⟨g12, 1, none⟩ = some (.int .i64 (e1)) := cell_of_row _ _ _ _ _ _ hrow
                          have c2 : wr.cell? ⟨g12, 2, none⟩ = some (.int .i64 (e2)) := cell_of_row _ _ _ _ _ _ hrow
                          have c3 : wr.cell? ⟨g12, 3, none⟩ = some (.int .i64 (e3)) := cell_of_row _ _ _ _ _ _ hrow
                          have c4 : wr.cell? ⟨g12, 4, none⟩ = some (.int .i64 (e4)) := cell_of_row _ _ _ _ _ _ hrow
                          have c5 : wr.cell? ⟨g12, 5, none⟩ = some (.int .i64 (e5)) := cell_of_row _ _ _ _ _ _ hrow
                          have c6 : wr.cell? ⟨g12, 6, none⟩ = some (.int .i64 (e6)) := cell_of_row _ _ _ _ _ _ hrow
                          have c7 : wr.cell? ⟨g12, 7, none⟩ = some (.int .i64 (e7)) := cell_of_row _ _ _ _ _ _ hrow
                          clear hown hrow hnb hkb hz hnn hc hbw HOT HRT HNB HKT HZT HNT HCT HBT
                          by_cases hit : i < 1
                          · have b4 : ((i : Int) < 1) := by omega
                            have HOA := Go.Lib.hid (HOW4.out.alloc (.cells #[.int .i64 (e0), .int .i64 (e1), .int .i64 (e2), .int .i64 (e3), .int .i64 (e4), .int .i64 (e5), .int .i64 (e6), .int .i64 (e7)] 53))
                            have HTA : Hid (Below w.heap.size w (wr.alloc (.cells #[.int .i64 (e0), .int .i64 (e1), .int .i64 (e2), .int .i64 (e3), .int .i64 (e4), .int .i64 (e5), .int .i64 (e6), .int .i64 (e7)] 53))) := Go.Lib.hid (HBW4.out.alloc HBW4.out.size _)
                            have HBA : Hid (Below wr.heap.size wr (wr.alloc (.cells #[.int .i64 (e0), .int .i64 (e1), .int .i64 (e2), .int .i64 (e3), .int .i64 (e4), .int .i64 (e5), .int .i64 (e6), .int .i64 (e7)] 53))) := Go.Lib.hid ((Below.refl _ _).alloc (Nat.le_refl _) _)
                            have HSZ := Go.Lib.hid HBW4.out.size
                            go_wp2_with (first
                              | (at_builtin; refine wpList_append_own5 rfl _ _ 34 rfl w.heap.size 53 i0 _ 8 64 hund hi0 hz0 hz1 hz2 rfl (by decide) _ (es.length + i) (((es ++ List.replicate i ((⟨e0, e1, e2, e3, e4, e5, e6, e7⟩ : Ent))).map Ent.cells).flatten) rfl HOA.out ⟨wr.heap.size, 0, none⟩ 1 1 [.int .i64 (e0), .int .i64 (e1), .int .i64 (e2), .int .i64 (e3), .int .i64 (e4), .int .i64 (e5), .int .i64 (e6), .int .i64 (e7)] rfl rfl (World.news_of_block (cs := #[.int .i64 (e0), .int .i64 (e1), .int .i64 (e2), .int .i64 (e3), .int .i64 (e4), .int .i64 (e5), .int .i64 (e6), .int .i64 (e7)]) (t := 53) (fr := (0, 0)) (heap_alloc_new _ _)) (by simp [Value.oneCell']) (by unfold maxLen; omega) (by omega) (by have := HSZ.out; rw [World.size_alloc]; omega) ?_; intro v6 w6 hown6 hgrow6 hob6)
                              | fail)
                            have HO6 := Go.Lib.hid hown6
                            have HRW6 : Hid (w6.heap[g12]? = some (.cells #[.int .i64 (e0), .int .i64 (e1), .int .i64 (e2), .int .i64 (e3), .int .i64 (e4), .int .i64 (e5), .int .i64 (e6), .int .i64 (e7)] 53)) := Go.Lib.hid ((hgrow6.block g12 (by rw [World.size_alloc]; omega) (Ne.symm HNB4.out)).trans (row_below HBA.out HROW4.out))
                            have HNB6 : Hid (v6.ownBlock ≠ some g12) := Go.Lib.hid (by
                              rcases hob6 with q | q
                              · rw [q]; exact HNB4.out
                              · rw [q, World.size_alloc]; intro q2; injection q2 with q2; omega)
                            have HT := Go.Lib.hid ((OntoT.refl w.heap.size 53 (wr.alloc (.cells #[.int .i64 (e0), .int .i64 (e1), .int .i64 (e2), .int .i64 (e3), .int .i64 (e4), .int .i64 (e5), .int .i64 (e6), .int .i64 (e7)] 53))).grown HOA.out hgrow6 (by have := HSZ.out; rw [World.size_alloc]; omega) (Nat.le_refl _))
                            clear hown6 hgrow6 hob6
                            go_roundw
                            case rel => exact ⟨i + 1, by go_num, by omega, by have := HO6.out; rw [List.replicate_succ', ← List.append_assoc, List.map_append, List.flatten_append, ← Nat.add_assoc]; exact this, HRW6.out, HNB6.out, (HKB4.out.below (Nat.le_trans hB HSZ.out) HBA.out).keep (fun q hq => HT.out.below.block q (by omega)), HT.out.keep _ _ _ _ (by decide) (row_below HBA.out HZ4.out), HT.out.keep _ _ _ _ (by decide) (row_below HBA.out HN4.out), HT.out.keep _ _ _ _ (by decide) (row_below HBA.out HC4.out), HTA.out.trans HT.out.below⟩
                            case measure => simp [intOf]; omega
                          · have hiT : i = 1 := by omega
                            subst hiT
                            have b4 : (((1 : Nat) : Int) < 1) = False := by first | (simp; done) | (simp; omega)
                            clear c0 c1 c2 c3 c4 c5 c6 c7
                            by_cases hfull : 20000 < es.length + (1)
                            · have HF9 := Go.Lib.hid (HDEC.out.symm.trans (decP_full HEN.out es hfull))
                              have hfi : (20000 : Int) < ((es.length + (1) : Nat) : Int) := by omega
                              have HZF := HZ4
                              have HSF := HN4
                              have HBF := HBW4
                              go_wp2_with (first
                                | ((with_reducible refine wpList_load_row (o := ⟨_, .load _ _, _, _, _, _⟩) rfl _ _ rfl ((w.heap.size + 1)) ?_ 23 #[.int .i64 0, .int .i64 0, .int .i64 0, .int .i64 0, .int .i64 0, .int .i64 0, .int .i64 0, .int .i64 0, .int .i64 0, .int .i64 0, .int .i64 0, .int .i64 0, .int .i64 0] (0, 0) _ ?_ Tryz.underlying23 ?_ ?_ ?_); rfl; exact HSF.out; rfl; exact HI.out)
                                | ((with_reducible refine wpList_store_rowTo (o := ⟨_, .store _ _ _, _, _, _, _⟩) rfl _ _ _ rfl ?_ w.heap.size #[.int .i64 0, .int .i64 0, .int .i64 0, .int .i64 0, .int .i64 0, .int .i64 0, .int .i64 0, .int .i64 0, .int .i64 0, .int .i64 0, .int .i64 0, .int .i64 0, .int .i64 0] ?_ ?_ 23 #[.int .i64 0, .int .i64 0, .int .i64 0, .int .i64 0, .int .i64 0, .int .i64 0, .int .i64 0, .int .i64 0, .int .i64 0, .int .i64 0, .int .i64 0, .int .i64 0, .int .i64 0] ?_ ?_ ?_ ?_ ?_); rfl; rfl; rfl; exact HZF.out; exact HI.out; rfl; exact (by simp [show ∀ k n, (Value.int k n).oneCell' = true from fun _ _ => rfl]); refine Hid.out ?_)
                                | fail)
                              have HB9 := Go.Lib.hid (below_setRow HBF.out (Nat.le_refl _) #[.int .i64 0, .int .i64 0, .int .i64 0, .int .i64 0, .int .i64 0, .int .i64 0, .int .i64 0, .int .i64 0, .int .i64 0, .int .i64 0, .int .i64 0, .int .i64 0, .int .i64 0])
                              have HZ9 := Go.Lib.hid (setRow_heap wr w.heap.size #[.int .i64 0, .int .i64 0, .int .i64 0, .int .i64 0, .int .i64 0, .int .i64 0, .int .i64 0, .int .i64 0, .int .i64 0, .int .i64 0, .int .i64 0, .int .i64 0, .int .i64 0] #[.int .i64 0, .int .i64 0, .int .i64 0, .int .i64 0, .int .i64 0, .int .i64 0, .int .i64 0, .int .i64 0, .int .i64 0, .int .i64 0, .int .i64 0, .int .i64 0, .int .i64 0] 23 (0, 0) HZF.out)
                              unfold Hid
                              clear HBF HZF HSF
                              generalize wr.setRow w.heap.size #[.int .i64 0, .int .i64 0, .int .i64 0, .int .i64 0, .int .i64 0, .int .i64 0, .int .i64 0, .int .i64 0, .int .i64 0, .int .i64 0, .int .i64 0, .int .i64 0, .int .i64 0] = w9 at *
                              go_wp2_with fail
                              exact bodyPost_ret (results_ctt (v1 := .slice none 0 0) (v2 := .int .i64 3) rfl _ _ _ (b1 := w.heap.size) (r1 := #[.int .i64 0, .int .i64 0, .int .i64 0, .int .i64 0, .int .i64 0, .int .i64 0, .int .i64 0, .int .i64 0, .int .i64 0, .int .i64 0, .int .i64 0, .int .i64 0, .int .i64 0]) rfl rfl rfl HZ9.out rfl Tryz.underlying23 HI.out) rfl (HDF.out _ HF9.out HB9.out)
                            · have HD9 := Go.Lib.hid ((decP_some HEN.out es hfull).symm.trans HDEC.out)
                              have hfi : ((20000 : Int) < ((es.length + (1) : Nat) : Int)) = False := by simp; omega
                              have HL9 : Hid ((es ++ List.replicate (1) ((⟨e0, e1, e2, e3, e4, e5, e6, e7⟩ : Ent))).length = es.length + (1)) := Go.Lib.hid (by rw [List.length_append, List.length_replicate])
                              go_wp2_with fail
                              go_roundw
                              case rel => exact ⟨a3, es ++ List.replicate (1) ((⟨e0, e1, e2, e3, e4, e5, e6, e7⟩ : Ent)), by first | rfl | go_num, by omega, HKB4.out, by rw [HL9.out]; omega, HD9.out, by rw [HL9.out]; exact HOW4.out, HZ4.out, HN4.out, HC4.out, HBW4.out⟩
                              case measure => simp [intOf]; omega
                · have HNUM : Hid (∀ W, KBb B W (.slice (some ⟨g, off, none⟩) l.length c) l → Calls Tryz.prog 26 #[.slice (some ⟨g, off, none⟩) l.length c, .int .i64 ((a : Int) + 1), .int .i64 1] W fun e w' => e = .returned (.tuple #[.int .i64 0, .bool false]) ∧ w' = W) := Go.Lib.hid (fun W hW => by
                    have := ref22_number_no (a + 1) 1 (by decide) (by omega) hW (by omega)
                    rwa [show (((a + 1 : Nat)) : Int) = (a : Int) + 1 by omega] at this)
                  have hmod : (x0 : Int) % 4 = 3 := by omega
                  simp only [hmod]
                  clear hmod
                  have HE9 : Hid (decP (l.drop a) es = some es) := Go.Lib.hid (decP_none (by rw [HDR.out, List.drop_eq_nil_of_le (show l.length ≤ a + 1 by omega)]; simp only [entryP]; rw [if_neg (by omega), if_neg (by omega)]) es)
                  have hal : Below W5.heap.size W5 (W5.alloc (.cells #[.int .i64 3, .int .i64 0, .int .i64 0, .int .i64 0, .int .i64 0, .int .i64 0, .int .i64 0, .int .i64 0] 53)) := (Below.refl _ _).alloc (Nat.le_refl _) _
                  go_wp2_with fail
                  refine (HNUM.out _ (HKB5.out.below (Nat.le_trans hB HBW5.out.size) hal)).mono ?_
                  rintro e w' ⟨rfl, rfl⟩
                  have HOF9 := Go.Lib.hid (own_below HOW5.out hal)
                  have HZF := Go.Lib.hid (row_below hal HZ5.out)
                  have HSF := Go.Lib.hid (row_below hal HC5.out)
                  have HBF := Go.Lib.hid (HBW5.out.trans (hal.mono HBW5.out.size))
                  clear hal HOW5 HKB5 HZ5 HN5 HC5 HBW5 HNUM
                  generalize (W5.alloc (.cells #[.int .i64 3, .int .i64 0, .int .i64 0, .int .i64 0, .int .i64 0, .int .i64 0, .int .i64 0, .int .i64 0] 53)) = W6 at *
                  go_wp2_with (first
                    | ((with_reducible refine wpList_load_row (o := ⟨_, .load _ _, _, _, _, _⟩) rfl _ _ rfl ((w.heap.size + 1 + 1)) ?_ 23 #[.int .i64 (x 0), .int .i64 (x 1), .int .i64 (x 2), .int .i64 (x 3), .int .i64 (x 4), .int .i64 (x 5), .int .i64 (x 6), .int .i64 (x 7), .int .i64 (x 8), .int .i64 (x 9), .int .i64 (x 10), .int .i64 (x 11), .int .i64 (x 12)] (0, 0) _ ?_ Tryz.underlying23 ?_ ?_ ?_); rfl; exact HSF.out; rfl; exact HI.out)
                    | ((with_reducible refine wpList_store_rowTo (o := ⟨_, .store _ _ _, _, _, _, _⟩) rfl _ _ _ rfl ?_ w.heap.size #[.int .i64 (x 0), .int .i64 (x 1), .int .i64 (x 2), .int .i64 (x 3), .int .i64 (x 4), .int .i64 (x 5), .int .i64 (x 6), .int .i64 (x 7), .int .i64 (x 8), .int .i64 (x 9), .int .i64 (x 10), .int .i64 (x 11), .int .i64 (x 12)] ?_ ?_ 23 #[.int .i64 0, .int .i64 0, .int .i64 0, .int .i64 0, .int .i64 0, .int .i64 0, .int .i64 0, .int .i64 0, .int .i64 0, .int .i64 0, .int .i64 0, .int .i64 0, .int .i64 0] ?_ ?_ ?_ ?_ ?_); rfl; rfl; rfl; exact HZF.out; exact HI.out; rfl; exact (by simp [show ∀ k n, (Value.int k n).oneCell' = true from fun _ _ => rfl]); refine Hid.out ?_)
                    | fail)
                  have HB9 := Go.Lib.hid (below_setRow HBF.out (Nat.le_refl _) #[.int .i64 (x 0), .int .i64 (x 1), .int .i64 (x 2), .int .i64 (x 3), .int .i64 (x 4), .int .i64 (x 5), .int .i64 (x 6), .int .i64 (x 7), .int .i64 (x 8), .int .i64 (x 9), .int .i64 (x 10), .int .i64 (x 11), .int .i64 (x 12)])
                  have HZ9 := Go.Lib.hid (setRow_heap W6 w.heap.size #[.int .i64 0, .int .i64 0, .int .i64 0, .int .i64 0, .int .i64 0, .int .i64 0, .int .i64 0, .int .i64 0, .int .i64 0, .int .i64 0, .int .i64 0, .int .i64 0, .int .i64 0] #[.int .i64 (x 0), .int .i64 (x 1), .int .i64 (x 2), .int .i64 (x 3), .int .i64 (x 4), .int .i64 (x 5), .int .i64 (x 6), .int .i64 (x 7), .int .i64 (x 8), .int .i64 (x 9), .int .i64 (x 10), .int .i64 (x 11), .int .i64 (x 12)] 23 (0, 0) HZF.out)
                  have HO9 := Go.Lib.hid (own_setRow HOF9.out HZF.out (by decide) #[.int .i64 (x 0), .int .i64 (x 1), .int .i64 (x 2), .int .i64 (x 3), .int .i64 (x 4), .int .i64 (x 5), .int .i64 (x 6), .int .i64 (x 7), .int .i64 (x 8), .int .i64 (x 9), .int .i64 (x 10), .int .i64 (x 11), .int .i64 (x 12)])
                  unfold Hid
                  clear HBF HZF HSF
                  generalize W6.setRow w.heap.size #[.int .i64 (x 0), .int .i64 (x 1), .int .i64 (x 2), .int .i64 (x 3), .int .i64 (x 4), .int .i64 (x 5), .int .i64 (x 6), .int .i64 (x 7), .int .i64 (x 8), .int .i64 (x 9), .int .i64 (x 10), .int .i64 (x 11), .int .i64 (x 12)] = w9 at *
                  go_wp2_with fail
                  exact bodyPost_ret (results_ctt (v1 := .slice a10 es.length c10) (v2 := .int .i64 0) rfl _ _ _ (b1 := w.heap.size) (r1 := #[.int .i64 (x 0), .int .i64 (x 1), .int .i64 (x 2), .int .i64 (x 3), .int .i64 (x 4), .int .i64 (x 5), .int .i64 (x 6), .int .i64 (x 7), .int .i64 (x 8), .int .i64 (x 9), .int .i64 (x 10), .int .i64 (x 11), .int .i64 (x 12)]) rfl rfl rfl HZ9.out rfl Tryz.underlying23 HI.out) rfl (HDE.out es _ _ (HDEC.out.symm.trans HE9.out) HO9.out HB9.out)
            · have hda : l.drop a = [] := List.drop_eq_nil_of_le (by omega)
              have HE9 : Hid (decP (l.drop a) es = some es) := Go.Lib.hid (by rw [hda]; rfl)
              clear hda
              have hai : ((a : Int) < (l.length : Int)) = False := by simp; omega
              have HZF := HZ
              have HSF := HC
              have HBF := HBW
              have HOF9 := HOW
              go_wp2_with (first
                | ((with_reducible refine wpList_load_row (o := ⟨_, .load _ _, _, _, _, _⟩) rfl _ _ rfl ((w.heap.size + 1 + 1)) ?_ 23 #[.int .i64 (x 0), .int .i64 (x 1), .int .i64 (x 2), .int .i64 (x 3), .int .i64 (x 4), .int .i64 (x 5), .int .i64 (x 6), .int .i64 (x 7), .int .i64 (x 8), .int .i64 (x 9), .int .i64 (x 10), .int .i64 (x 11), .int .i64 (x 12)] (0, 0) _ ?_ Tryz.underlying23 ?_ ?_ ?_); rfl; exact HSF.out; rfl; exact HI.out)
                | ((with_reducible refine wpList_store_rowTo (o := ⟨_, .store _ _ _, _, _, _, _⟩) rfl _ _ _ rfl ?_ w.heap.size #[.int .i64 (x 0), .int .i64 (x 1), .int .i64 (x 2), .int .i64 (x 3), .int .i64 (x 4), .int .i64 (x 5), .int .i64 (x 6), .int .i64 (x 7), .int .i64 (x 8), .int .i64 (x 9), .int .i64 (x 10), .int .i64 (x 11), .int .i64 (x 12)] ?_ ?_ 23 #[.int .i64 0, .int .i64 0, .int .i64 0, .int .i64 0, .int .i64 0, .int .i64 0, .int .i64 0, .int .i64 0, .int .i64 0, .int .i64 0, .int .i64 0, .int .i64 0, .int .i64 0] ?_ ?_ ?_ ?_ ?_); rfl; rfl; rfl; exact HZF.out; exact HI.out; rfl; exact (by simp [show ∀ k n, (Value.int k n).oneCell' = true from fun _ _ => rfl]); refine Hid.out ?_)
                | fail)
              have HB9 := Go.Lib.hid (below_setRow HBF.out (Nat.le_refl _) #[.int .i64 (x 0), .int .i64 (x 1), .int .i64 (x 2), .int .i64 (x 3), .int .i64 (x 4), .int .i64 (x 5), .int .i64 (x 6), .int .i64 (x 7), .int .i64 (x 8), .int .i64 (x 9), .int .i64 (x 10), .int .i64 (x 11), .int .i64 (x 12)])
              have HZ9 := Go.Lib.hid (setRow_heap wr w.heap.size #[.int .i64 0, .int .i64 0, .int .i64 0, .int .i64 0, .int .i64 0, .int .i64 0, .int .i64 0, .int .i64 0, .int .i64 0, .int .i64 0, .int .i64 0, .int .i64 0, .int .i64 0] #[.int .i64 (x 0), .int .i64 (x 1), .int .i64 (x 2), .int .i64 (x 3), .int .i64 (x 4), .int .i64 (x 5), .int .i64 (x 6), .int .i64 (x 7), .int .i64 (x 8), .int .i64 (x 9), .int .i64 (x 10), .int .i64 (x 11), .int .i64 (x 12)] 23 (0, 0) HZF.out)
              have HO9 := Go.Lib.hid (own_setRow HOF9.out HZF.out (by decide) #[.int .i64 (x 0), .int .i64 (x 1), .int .i64 (x 2), .int .i64 (x 3), .int .i64 (x 4), .int .i64 (x 5), .int .i64 (x 6), .int .i64 (x 7), .int .i64 (x 8), .int .i64 (x 9), .int .i64 (x 10), .int .i64 (x 11), .int .i64 (x 12)])
              unfold Hid
              clear HBF HZF HSF
              generalize wr.setRow w.heap.size #[.int .i64 (x 0), .int .i64 (x 1), .int .i64 (x 2), .int .i64 (x 3), .int .i64 (x 4), .int .i64 (x 5), .int .i64 (x 6), .int .i64 (x 7), .int .i64 (x 8), .int .i64 (x 9), .int .i64 (x 10), .int .i64 (x 11), .int .i64 (x 12)] = w9 at *
              go_wp2_with fail
              exact bodyPost_ret (results_ctt (v1 := .slice a10 es.length c10) (v2 := .int .i64 0) rfl _ _ _ (b1 := w.heap.size) (r1 := #[.int .i64 (x 0), .int .i64 (x 1), .int .i64 (x 2), .int .i64 (x 3), .int .i64 (x 4), .int .i64 (x 5), .int .i64 (x 6), .int .i64 (x 7), .int .i64 (x 8), .int .i64 (x 9), .int .i64 (x 10), .int .i64 (x 11), .int .i64 (x 12)]) rfl rfl rfl HZ9.out rfl Tryz.underlying23 HI.out) rfl (HDE.out es _ _ (HDEC.out.symm.trans HE9.out) HO9.out HB9.out)
        · have HCK : Hid (∀ W, Calls Tryz.prog 16 #[.agg #[.int .i64 (x 0), .int .i64 (x 1), .int .i64 (x 2), .int .i64 (x 3), .int .i64 (x 4), .int .i64 (x 5), .int .i64 (x 6), .int .i64 (x 7), .int .i64 (x 8), .int .i64 (x 9), .int .i64 (x 10), .int .i64 (x 11), .int .i64 (x 12)]] W fun e w' => e = .returned (.bool false) ∧ Below W.heap.size W w') := Go.Lib.hid (fun W => by
            have := ref_Right x W
            rwa [decide_eq_false hok] at this)
          have HD := Go.Lib.hid (fun w' (hb : Below w.heap.size w w') => DecPost.no (T := 53) (k := 7) (dec_bad hs (by rw [← HXE.out]; exact hok)) (by decide) hb)
          clear hok ha13
          go_wp2_with fail
          refine (HCK.out _).mono ?_
          rintro e w2 ⟨rfl, hb2⟩
          have HBF := Go.Lib.hid (HBW.out.trans (hb2.mono HBW.out.size))
          have HZF := Go.Lib.hid (row_below hb2 HZ.out)
          have HSF := Go.Lib.hid (row_below hb2 HN.out)
          clear hb2 c0 c1 c2 c3 c4 c5 c6 c7 c8 c9 c10 c11 c12 HBW HZ HN HA HKB
          go_wp2_with (first
            | ((with_reducible refine wpList_load_row (o := ⟨_, .load _ _, _, _, _, _⟩) rfl _ _ rfl ((w.heap.size + 1)) ?_ 23 #[.int .i64 0, .int .i64 0, .int .i64 0, .int .i64 0, .int .i64 0, .int .i64 0, .int .i64 0, .int .i64 0, .int .i64 0, .int .i64 0, .int .i64 0, .int .i64 0, .int .i64 0] (0, 0) _ ?_ Tryz.underlying23 ?_ ?_ ?_); rfl; exact HSF.out; rfl; exact HI.out)
            | ((with_reducible refine wpList_store_rowTo (o := ⟨_, .store _ _ _, _, _, _, _⟩) rfl _ _ _ rfl ?_ w.heap.size #[.int .i64 0, .int .i64 0, .int .i64 0, .int .i64 0, .int .i64 0, .int .i64 0, .int .i64 0, .int .i64 0, .int .i64 0, .int .i64 0, .int .i64 0, .int .i64 0, .int .i64 0] ?_ ?_ 23 #[.int .i64 0, .int .i64 0, .int .i64 0, .int .i64 0, .int .i64 0, .int .i64 0, .int .i64 0, .int .i64 0, .int .i64 0, .int .i64 0, .int .i64 0, .int .i64 0, .int .i64 0] ?_ ?_ ?_ ?_ ?_); rfl; rfl; rfl; exact HZF.out; exact HI.out; rfl; exact (by simp [show ∀ k n, (Value.int k n).oneCell' = true from fun _ _ => rfl]); refine Hid.out ?_)
            | fail)
          have HB9 := Go.Lib.hid (below_setRow HBF.out (Nat.le_refl _) #[.int .i64 0, .int .i64 0, .int .i64 0, .int .i64 0, .int .i64 0, .int .i64 0, .int .i64 0, .int .i64 0, .int .i64 0, .int .i64 0, .int .i64 0, .int .i64 0, .int .i64 0])
          have HZ9 := Go.Lib.hid (setRow_heap w2 w.heap.size #[.int .i64 0, .int .i64 0, .int .i64 0, .int .i64 0, .int .i64 0, .int .i64 0, .int .i64 0, .int .i64 0, .int .i64 0, .int .i64 0, .int .i64 0, .int .i64 0, .int .i64 0] #[.int .i64 0, .int .i64 0, .int .i64 0, .int .i64 0, .int .i64 0, .int .i64 0, .int .i64 0, .int .i64 0, .int .i64 0, .int .i64 0, .int .i64 0, .int .i64 0, .int .i64 0] 23 (0, 0) HZF.out)
          unfold Hid
          clear HBF HZF HSF
          generalize w2.setRow w.heap.size #[.int .i64 0, .int .i64 0, .int .i64 0, .int .i64 0, .int .i64 0, .int .i64 0, .int .i64 0, .int .i64 0, .int .i64 0, .int .i64 0, .int .i64 0, .int .i64 0, .int .i64 0] = w9 at *
          go_wp2_with fail
          exact bodyPost_ret (results_ctt (v1 := .slice none 0 0) (v2 := .int .i64 7) rfl _ _ _ (b1 := w.heap.size) (r1 := #[.int .i64 0, .int .i64 0, .int .i64 0, .int .i64 0, .int .i64 0, .int .i64 0, .int .i64 0, .int .i64 0, .int .i64 0, .int .i64 0, .int .i64 0, .int .i64 0, .int .i64 0]) rfl rfl rfl HZ9.out rfl Tryz.underlying23 HI.out) rfl (HD.out _ HB9.out)
end Go.Proofs.YtdemhabgaimnmaaGreatDoor
