/- Words: laying numbers into one. -/
import Derived.Test.YtlbjjooiiikmjaaW
namespace Go.Proofs.Ytlbjjooiiikmjaa
open Go.RowKit
set_option maxRecDepth 100000
set_option linter.unusedVariables false

def allFit (ws : List Nat) (ns : List Int) (k : Nat) : Prop := ∀ j, j < k → 0 ≤ ns.getD j 0 ∧ ns.getD j 0 < 2 ^ ws.getD j 0

theorem wsum_succ (ws : List Nat) (k : Nat) (h : k < ws.length) : wsum ws (k + 1) = wsum ws k + ws.getD k 0 := by
  unfold wsum
  rw [List.take_succ_eq_append_getElem h, List.sum_append]
  simp [h]
theorem packAcc_dvd (ws : List Nat) (ns : List Int) (hw : ∀ k, k ≤ ws.length → wsum ws k ≤ 64) : ∀ k, k ≤ ws.length → ∃ q, packAcc ws ns k = 2 ^ (64 - wsum ws k) * q
  | 0, _ => ⟨0, rfl⟩
  | k + 1, h => by
    obtain ⟨q, hq⟩ := packAcc_dvd ws ns hw k (by omega)
    have h1 := wsum_succ ws k (by omega)
    have h2 := hw (k + 1) h
    refine ⟨2 ^ ws.getD k 0 * q + (ns.getD k 0).toNat, ?_⟩
    show packAcc ws ns k + _ = _
    rw [hq, Nat.mul_add, ← Nat.mul_assoc, ← Nat.pow_add, show 64 - wsum ws (k + 1) + ws.getD k 0 = 64 - wsum ws k from by omega, Nat.mul_comm (2 ^ (64 - wsum ws (k + 1)))  (ns.getD k 0).toNat]
theorem packAcc_lt (ws : List Nat) (ns : List Int) (hw : ∀ k, k ≤ ws.length → wsum ws k ≤ 64) : ∀ k, k ≤ ws.length → allFit ws ns k → packAcc ws ns k + 2 ^ (64 - wsum ws k) ≤ 18446744073709551616
  | 0, _, _ => by show 0 + 2 ^ (64 - 0) ≤ _; decide
  | k + 1, h, hf => by
    have ih := packAcc_lt ws ns hw k (by omega) (fun j hj => hf j (by omega))
    have h1 := wsum_succ ws k (by omega)
    have h2 := hw (k + 1) h
    obtain ⟨f0, f1⟩ := hf k (by omega)
    have f2 : (ns.getD k 0).toNat + 1 ≤ 2 ^ ws.getD k 0 := by
      have : ((ns.getD k 0).toNat : Int) < ((2 ^ ws.getD k 0 : Nat) : Int) := by rw [Int.toNat_of_nonneg f0]; simpa using f1
      omega
    have f3 : ((ns.getD k 0).toNat + 1) * 2 ^ (64 - wsum ws (k + 1)) ≤ 2 ^ ws.getD k 0 * 2 ^ (64 - wsum ws (k + 1)) := Nat.mul_le_mul_right _ f2
    rw [← Nat.pow_add, show ws.getD k 0 + (64 - wsum ws (k + 1)) = 64 - wsum ws k from by omega, Nat.add_mul, Nat.one_mul] at f3
    show packAcc ws ns k + _ + _ ≤ _
    omega
/-- One round: a number is laid below those that lie already. -/
theorem pack_or (ws : List Nat) (ns : List Int) (hw : ∀ k, k ≤ ws.length → wsum ws k ≤ 64) (k : Nat) (h : k < ws.length) (hf : allFit ws ns (k + 1)) :
    bits BinOp.or IntKind.u64 (packAcc ws ns k : Nat) (((ns.getD k 0).toNat * 2 ^ (64 - wsum ws (k + 1)) : Nat) : Int) = (packAcc ws ns (k + 1) : Nat) := by
  have h1 := packAcc_lt ws ns hw (k + 1) h hf
  have h0 := packAcc_lt ws ns hw k (by omega) (fun j hj => hf j (by omega))
  have h2 : packAcc ws ns (k + 1) = packAcc ws ns k + (ns.getD k 0).toNat * 2 ^ (64 - wsum ws (k + 1)) := rfl
  have h3 := Nat.two_pow_pos (64 - wsum ws (k + 1))
  have h4 := Nat.two_pow_pos (64 - wsum ws k)
  rw [u64_or_nat _ _ (by omega) (by omega), h2]
  obtain ⟨q, hq⟩ := packAcc_dvd ws ns hw k (by omega)
  have h5 := wsum_succ ws k h
  have h6 := hw (k + 1) h
  obtain ⟨f0, f1⟩ := hf k (by omega)
  have f2 : (ns.getD k 0).toNat < 2 ^ ws.getD k 0 := by
    have : ((ns.getD k 0).toNat : Int) < ((2 ^ ws.getD k 0 : Nat) : Int) := by rw [Int.toNat_of_nonneg f0]; simpa using f1
    omega
  have f3 : (ns.getD k 0).toNat * 2 ^ (64 - wsum ws (k + 1)) < 2 ^ (64 - wsum ws k) := by
    have := Nat.mul_lt_mul_of_pos_right f2 h3
    rwa [← Nat.pow_add, show ws.getD k 0 + (64 - wsum ws (k + 1)) = 64 - wsum ws k from by omega] at this
  rw [hq, Nat.two_pow_add_eq_or_of_lt f3]

theorem packed_lt (ws : List Nat) (ns : List Int) (hw : ∀ k, k ≤ ws.length → wsum ws k ≤ 64) (hl : ws.length = ns.length) : (packed ws ns).1 < 18446744073709551616 := by
  unfold packed
  split
  · rename_i h
    rw [List.all_eq_true] at h
    have := packAcc_lt ws ns hw ws.length (Nat.le_refl _) (fun j hj => by
      have := h j (List.mem_range.2 hj)
      unfold fits at this
      simpa using this)
    have := Nat.two_pow_pos (64 - wsum ws ws.length)
    show packAcc ws ns ws.length < _
    omega
  · show 0 < _; decide

theorem andNot_mask_fit (n : Int) (w : Nat) (hw : 1 ≤ w) (hw2 : w ≤ 62) (h0 : 0 ≤ n) (h1 : n < 9223372036854775808) :
    (bits BinOp.andNot IntKind.u64 n (2 ^ w - 1) = 0) ↔ n < 2 ^ w := by
  obtain ⟨m, rfl⟩ := Int.eq_ofNat_of_zero_le h0
  have hp := pow_le62 hw2
  rw [two_pow_cast, u64_andNot_nat _ _ (by omega) (by omega)]
  have e : 18446744073709551615 - (2 ^ w - 1) = 2 ^ 64 - (2 ^ w - 1 + 1) := by omega
  have hX : 18446744073709551615 - (2 ^ w - 1) = (2 ^ (64 - w) - 1) <<< w := by
    rw [Nat.shiftLeft_eq, Nat.sub_mul, ← Nat.pow_add, show 64 - w + w = 64 from by omega, Nat.one_mul]
    have := Nat.two_pow_pos w
    have e64 : 2 ^ 64 = 18446744073709551616 := rfl
    rw [e64]
    omega
  have hm : m >>> w < 2 ^ (64 - w) := by
    rw [Nat.shiftRight_eq_div_pow, Nat.div_lt_iff_lt_mul (Nat.two_pow_pos w), ← Nat.pow_add, show 64 - w + w = 64 from by omega]
    omega
  have hs : m &&& (2 ^ (64 - w) - 1) <<< w = (m >>> w &&& (2 ^ (64 - w) - 1)) <<< w := by
    apply Nat.eq_of_testBit_eq
    intro i
    simp only [Nat.testBit_and, Nat.testBit_shiftLeft, Nat.testBit_shiftRight]
    by_cases hi : w ≤ i
    · simp [hi, show w + (i - w) = i from by omega]
    · simp [hi]
  have key : m &&& (18446744073709551615 - (2 ^ w - 1)) = m - m % 2 ^ w := by
    rw [hX, hs, Nat.and_two_pow_sub_one_eq_mod, Nat.mod_eq_of_lt hm, Nat.shiftLeft_eq, Nat.shiftRight_eq_div_pow]
    have := Nat.div_add_mod m (2 ^ w)
    rw [Nat.mul_comm] at this
    omega
  rw [key]
  have := Nat.mod_lt m (Nat.two_pow_pos w)
  have := Nat.mod_le m (2 ^ w)
  have c : ((2 : Int) ^ w) = ((2 ^ w : Nat) : Int) := by simp
  rw [c]
  constructor
  · intro h
    have : m = m % 2 ^ w := by omega
    omega
  · intro h
    have h' : m < 2 ^ w := by omega
    rw [Nat.mod_eq_of_lt h']; simp

set_option maxHeartbeats 2000000 in
theorem pack_any (ws : List Nat) (ns : List Int) (b c capb capc : Nat) (w : World) (hl : ws.length = ns.length) (h4 : ws.length ≤ 4) (h1 : ∀ j, j < ws.length → 1 ≤ ws.getD j 0 ∧ ws.getD j 0 ≤ 62)
    (hw : ∀ k, k ≤ ws.length → wsum ws k ≤ 64) (h64 : ∀ j, j < ns.length → ns.getD j 0 < 9223372036854775808)
    (hb : ∀ j, j < ws.length → w.cell? ⟨b, j, none⟩ = some (.int .i64 (ws.getD j 0 : Nat)))
    (hc : ∀ j, j < ws.length → w.cell? ⟨c, j, none⟩ = some (.int .i64 (ns.getD j 0))) :
    Calls Try.prog 94 #[.slice (some ⟨b, 0, none⟩) ws.length capb, .slice (some ⟨c, 0, none⟩) ws.length capc] w fun e w' =>
      e = .returned (.tuple #[.int .u64 (packed ws ns).1, .int .i64 (packed ws ns).2]) ∧ w' = w := by
  have hall : ∀ k, k ≤ ws.length → allFit ws ns k → k = ws.length → packed ws ns = (packAcc ws ns ws.length, 0) := by
    intro k _ hf hk
    unfold packed
    rw [if_pos]
    rw [List.all_eq_true]
    intro j hj
    have := hf j (by rw [hk]; exact List.mem_range.1 hj)
    unfold fits; simpa using this
  have hno : ∀ k, k < ws.length → ¬ (0 ≤ ns.getD k 0 ∧ ns.getD k 0 < 2 ^ ws.getD k 0) → packed ws ns = (0, 2) := by
    intro k hk hn
    unfold packed
    rw [if_neg]
    rw [List.all_eq_true]
    intro h
    have := h k (List.mem_range.2 hk)
    unfold fits at this
    exact hn (by simpa using this)
  have HALL := Go.Lib.hid hall
  have HNO := Go.Lib.hid hno
  have HB := Go.Lib.hid hb
  have HC := Go.Lib.hid hc
  have HW := Go.Lib.hid hw
  have H1 := Go.Lib.hid h1
  have H64 := Go.Lib.hid h64
  have HL := Go.Lib.hid hl
  have HP : Hid (∀ k, k < ws.length → allFit ws ns (k + 1) → bits BinOp.or IntKind.u64 (packAcc ws ns k : Nat) (((ns.getD k 0).toNat * 2 ^ (64 - wsum ws (k + 1)) : Nat) : Int) = (packAcc ws ns (k + 1) : Nat)) := fun k hk hf => pack_or ws ns hw k hk hf
  clear hall hno hb hc hw h1 h64 hl
  generalize hgl : ws.length = l at *
  have HGL := Go.Lib.hid hgl
  clear hgl
  go_enter Try.func94, Try.ntmps94
  go_wp2
  go_loop [6, 7, 12] (fun u s i => ∃ k : Nat, k ≤ l ∧ i = .int .i64 k ∧ s = .int .i64 (64 - wsum ws k : Nat) ∧ u = .int .u64 (packAcc ws ns k : Nat) ∧ allFit ws ns k) (fun _ _ i => l - (intOf i).toNat)
  case atStart => exact ⟨0, Nat.zero_le _, rfl, rfl, rfl, fun j hj => absurd hj (by omega)⟩
  case round =>
    obtain ⟨k, hk, rfl, rfl, rfl, hfit⟩ := hrel
    have HF := Go.Lib.hid hfit
    clear hfit
    by_cases hlt : k < l
    · have e1 := HB.out k hlt
      have e2 := HC.out k hlt
      obtain ⟨b1, b2⟩ := H1.out k hlt
      have b3 := H64.out k (by rw [← HL.out]; exact hlt)
      generalize hn : ns.getD k 0 = n at e2 b3
      generalize hm : ws.getD k 0 = m at e1 b1 b2
      have HN := Go.Lib.hid hn
      have HM := Go.Lib.hid hm
      clear hn hm
      have hmask := mask_any m
      have HMK := Go.Lib.hid hmask
      clear hmask
      by_cases h0 : n < 0
      · go_wp2
        go_ret2
        exact ⟨by rw [HNO.out k hlt (by rw [HN.out]; omega)]; rfl, rfl⟩
      · have hsh := HW.out (k + 1) (by omega)
        have hsu := wsum_succ ws k (by rw [HGL.out]; exact hlt)
        rw [HM.out] at hsu
        have HSU := Go.Lib.hid hsu
        have hs2 : m ≤ 64 - wsum ws k := by omega
        clear hsu
        by_cases h1 : n < 2 ^ m
        · have hA : (bits BinOp.andNot IntKind.u64 n (2 ^ m - 1) != 0) = false := by
            rw [(andNot_mask_fit n m b1 b2 (by omega) b3).2 h1]; rfl
          go_wp2_with (go_at_call 97; refine (HMK.out _ b1 (by omega)).mono ?_; rintro e w' ⟨rfl, rfl⟩)
          have hfit' : allFit ws ns (k + 1) := by
            intro j hj
            by_cases e : j = k
            · subst e; rw [HN.out, HM.out]; exact ⟨by omega, h1⟩
            · exact HF.out j (by omega)
          have hor := HP.out k hlt hfit'
          have hlast := packAcc_lt ws ns (by rw [HGL.out]; exact HW.out) (k + 1) (by rw [HGL.out]; exact hlt) hfit'
          have hsu := HSU.out
          have hacc : packAcc ws ns (k + 1) = packAcc ws ns k + (ns.getD k 0).toNat * 2 ^ (64 - wsum ws (k + 1)) := rfl
          rw [HN.out, hsu, show 64 - (wsum ws k + m) = 64 - wsum ws k - m from by omega] at hor hacc
          refine ⟨⟨k + 1, by omega, by go_num, ?_, ?_, hfit'⟩, by simp [intOf]; omega⟩
          · rw [hsu]; congr 1; omega
          · rw [← hor]
            have hnn : ((n.toNat : Nat) : Int) = n := Int.toNat_of_nonneg (by omega)
            have e1 : n * 2 ^ (64 - wsum ws k - m) = ((n.toNat * 2 ^ (64 - wsum ws k - m) : Nat) : Int) := by rw [Int.natCast_mul, hnn]; simp
            rw [e1]
            have hp := Nat.two_pow_pos (64 - wsum ws (k + 1))
            rw [IntKind.wrap_u64, Int.emod_eq_of_lt (by omega) (by omega)]
        · have hA : (bits BinOp.andNot IntKind.u64 n (2 ^ m - 1) != 0) = true := by
            rw [bne_iff_ne]; intro h; exact h1 ((andNot_mask_fit n m b1 b2 (by omega) b3).1 h)
          have HH1 := Go.Lib.hid h1
          clear h1
          go_wp2_with (go_at_call 97; refine (HMK.out _ b1 (by omega)).mono ?_; rintro e w' ⟨rfl, rfl⟩)
          go_ret2
          exact ⟨by rw [HNO.out k hlt (by rw [HN.out, HM.out]; have := HH1.out; omega)]; rfl, rfl⟩
    · go_wp2
      go_ret2
      have hkl : k = l := by omega
      subst hkl
      rw [HALL.out k (Nat.le_refl _) HF.out rfl]
      exact ⟨rfl, rfl⟩
end Go.Proofs.Ytlbjjooiiikmjaa
