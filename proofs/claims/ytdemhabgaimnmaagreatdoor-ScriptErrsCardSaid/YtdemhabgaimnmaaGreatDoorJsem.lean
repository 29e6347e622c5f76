/- 'knelllaw22.ScriptErrs' returns true for every input, and leaves its arguments as they were. The listed package-level variables start as the program's text lays them. -/
import Derived.Test.YtdemhabgaimnmaaGreatDoorJsel
import Derived.Deep.RegionHeld3
import Derived.ProofKit
import Derived.OpenShut
import Derived.ChangeSlices
import Derived.Test.YtdemhabgaimnmaaGreatDoorRows
import Derived.Test.YtdemhabgaimnmaaGreatDoorTie
import Derived.Test.YtdemhabgaimnmaaGreatDoorCards
import Derived.SevenTiedAt
import Derived.LaidMore
import Derived.Stop.Joined
import Derived.WalkKit
import Derived.ShutString
import Derived.ChangeOld
import Derived.Below
namespace Go.Proofs.YtdemhabgaimnmaaGreatDoor
open Go.RowKit
set_option maxRecDepth 100000
set_option linter.unusedVariables false

/-- What a Decode answers, by letters. -/
def DecGot (T : TypeId) (Y : Nat → Int) (k : Int) (es : List Ent) (w : World) (e : Ending) (w' : World) : Prop :=
  ∃ v, e = .returned (.tuple #[.agg #[.int .i64 (Y 0), .int .i64 (Y 1), .int .i64 (Y 2), .int .i64 (Y 3), .int .i64 (Y 4), .int .i64 (Y 5), .int .i64 (Y 6), .int .i64 (Y 7), .int .i64 (Y 8), .int .i64 (Y 9), .int .i64 (Y 10), .int .i64 (Y 11), .int .i64 (Y 12)], v, .int .i64 k]) ∧ KE (fun b => w.heap.size ≤ b ∧ b < w'.heap.size) w' v es ∧ Below w.heap.size w w'
theorem DecPost.got {T : TypeId} {w w' : World} {l : List Nat} {e : Ending} (h : DecPost T w l e w') : DecGot T (decX l) (decK l) (decL l) w e w' := by
  obtain ⟨v, he, ho, hb⟩ := h
  exact ⟨v, he, KE.own ho, hb⟩
set_option maxHeartbeats 2000000 in
theorem script_run_bad {B : Nat} {v : Value} {l : List Nat} {w : World} (h : KBb B w v l) (hB : B ≤ w.heap.size) (hb : ∀ z ∈ l, z < 256) (hm : l.length ≤ 9000000000000000000) (hk : decK l ≠ 0) :
    Calls Tryz.prog 15 #[v] w fun e w' => e = .returned (.tuple #[.slice none 0 0, .int .i64 (decK l)]) ∧ Below w.heap.size w w' := by
  have hd := script_Decode h hB hb hm
  obtain ⟨p0, q0, rfl, _⟩ := id (KB.form h)
  have HDC : Hid (Calls Tryz.prog 10 #[.slice p0 l.length q0] w (DecGot 56 (decX l) (decK l) (decL l) w)) := Go.Lib.hid (hd.mono fun _ _ h => h.got)
  have hx : decX l = fun _ => 0 := decX_no hk
  rw [hx] at HDC
  generalize decK l = k at *
  have k1 : (k != 0) = true := by simp [hk]
  have k2 : (k = 0) = False := by simp [hk]
  generalize decL l = es at *
  clear h hd hx hk
  go_enter Tryz.func15, Tryz.ntmps15
  go_wp2_with fail
  refine HDC.out.mono ?_
  rintro e w1 ⟨v1, rfl, hke, hb1⟩
  have HB := Go.Lib.hid (hb1.alloc (Nat.le_trans (Nat.le_refl _) hb1.size) (.cells #[.int .i64 0, .int .i64 0, .int .i64 0, .int .i64 0, .int .i64 0, .int .i64 0, .int .i64 0, .int .i64 0, .int .i64 0, .int .i64 0, .int .i64 0, .int .i64 0, .int .i64 0] 29))
  clear hke hb1 HDC
  go_wp2
  go_ret2
  exact ⟨rfl, HB.out⟩

set_option maxHeartbeats 4000000 in
theorem law22_ScriptErrs (zs : List Nat) (v : Value) (w : World) (h : KBb w.heap.size w v zs) (hz : ∀ z ∈ zs, z < 256) :
    Calls Tryz.prog 4 #[v] w fun e w' => e = .returned (.bool true) ∧ Below w.heap.size w w' := by
  obtain ⟨p0, q0, rfl, _⟩ := id (KB.form h)
  by_cases hl : zs.length ≤ 300
  · have HR : Hid (∀ W, Below w.heap.size w W → Calls Tryz.prog 11 #[.slice p0 zs.length q0] W (DecGot 53 (decX zs) (decK zs) (decL zs) W)) := Go.Lib.hid (fun W hb => (ref22_Decode (h.below (Nat.le_refl _) hb) hb.size hz (by omega)).mono fun _ _ h => h.got)
    have HS : Hid (∀ W, Below w.heap.size w W → Calls Tryz.prog 10 #[.slice p0 zs.length q0] W (DecGot 56 (decX zs) (decK zs) (decL zs) W)) := Go.Lib.hid (fun W hb => (script_Decode (h.below (Nat.le_refl _) hb) hb.size hz (by omega)).mono fun _ _ h => h.got)
    have HX : Hid (decK zs ≠ 0 → decX zs = (fun _ => 0) ∧ decL zs = []) := Go.Lib.hid (fun hk => ⟨decX_no hk, decL_no hk⟩)
    have HRN : Hid (decK zs ≠ 0 → ∀ W, Below w.heap.size w W → Calls Tryz.prog 15 #[.slice p0 zs.length q0] W fun e w' => e = .returned (.tuple #[.slice none 0 0, .int .i64 (decK zs)]) ∧ Below W.heap.size W w') := Go.Lib.hid (fun hk W hb => script_run_bad (h.below (Nat.le_refl _) hb) hb.size hz (by omega) hk)
    have hl1 : ((zs.length : Int) > 300) = False := by simp; omega
    have hl2 : ((300 : Int) < (zs.length : Int)) = False := by simp; omega
    generalize hk : decK zs = k at *
    generalize hn : zs.length = n at *
    have HK := Go.Lib.hid hk
    clear hk hn h hz hl
    go_enter Tryz.func4, Tryz.ntmps4
    go_wp2_with fail
    refine (law22_speaks _).mono ?_
    rintro e w1 ⟨rfl, hb1⟩
    have HB1 := Go.Lib.hid hb1
    clear hb1
    go_wp2_with fail
    refine (HR.out _ HB1.out).mono ?_
    by_cases hk0 : k = 0
    · subst hk0
      generalize decX zs = Y at *
      rintro e w2 ⟨v2, rfl, hke, hb2⟩
      have HB2 := Go.Lib.hid ((HB1.out.trans (hb2.mono HB1.out.size)).alloc (Nat.le_trans HB1.out.size hb2.size) (.cells #[.int .i64 (Y 0), .int .i64 (Y 1), .int .i64 (Y 2), .int .i64 (Y 3), .int .i64 (Y 4), .int .i64 (Y 5), .int .i64 (Y 6), .int .i64 (Y 7), .int .i64 (Y 8), .int .i64 (Y 9), .int .i64 (Y 10), .int .i64 (Y 11), .int .i64 (Y 12)] 23))
      clear hke hb2
      go_wp2
      go_ret
      exact ⟨rfl, HB2.out⟩
    · obtain ⟨hX, hL⟩ := HX.out hk0
      have HRN2 := Go.Lib.hid (HRN.out hk0)
      rw [hX, hL] at HR HS ⊢
      rintro e w2 ⟨v2, rfl, hke, hb2⟩
      have HB2 := Go.Lib.hid ((HB1.out.trans (hb2.mono HB1.out.size)).alloc (Nat.le_trans HB1.out.size hb2.size) (.cells #[.int .i64 0, .int .i64 0, .int .i64 0, .int .i64 0, .int .i64 0, .int .i64 0, .int .i64 0, .int .i64 0, .int .i64 0, .int .i64 0, .int .i64 0, .int .i64 0, .int .i64 0] 23))
      have k1 : (k == 0) = false := by simp [hk0]
      have k2 : (k = 0) = False := by simp [hk0]
      clear hke hb2 hX hL HRN HX hk0 HB1
      go_wp2_with fail
      generalize (w2.alloc (.cells #[.int .i64 0, .int .i64 0, .int .i64 0, .int .i64 0, .int .i64 0, .int .i64 0, .int .i64 0, .int .i64 0, .int .i64 0, .int .i64 0, .int .i64 0, .int .i64 0, .int .i64 0] 23)) = W3 at *
      refine (HRN2.out _ HB2.out).mono ?_
      rintro e w4 ⟨rfl, hb4⟩
      have HB4 := Go.Lib.hid (HB2.out.trans (hb4.mono HB2.out.size))
      clear hb4 HB2
      go_wp2_with fail
      refine (HS.out _ HB4.out).mono ?_
      rintro e w5 ⟨v5, rfl, hke, hb5⟩
      obtain ⟨p5, c5, rfl⟩ := KE.form hke
      have HB5 := Go.Lib.hid ((HB4.out.trans (hb5.mono HB4.out.size)).alloc (Nat.le_trans HB4.out.size hb5.size) (.cells #[.int .i64 0, .int .i64 0, .int .i64 0, .int .i64 0, .int .i64 0, .int .i64 0, .int .i64 0, .int .i64 0, .int .i64 0, .int .i64 0, .int .i64 0, .int .i64 0, .int .i64 0] 29))
      rw [List.length_nil]
      clear hke hb5 HB4 HS HR
      go_wp2
      go_ret
      exact ⟨rfl, HB5.out⟩
  · have hl1 : ((zs.length : Int) > 300) = True := by simp; omega
    have hl2 : ((300 : Int) < (zs.length : Int)) = True := by simp; omega
    generalize zs.length = n at *
    clear h hz hl
    go_enter Tryz.func4, Tryz.ntmps4
    go_wp2_with fail
    refine (law22_speaks _).mono ?_
    rintro e w1 ⟨rfl, hb1⟩
    have HB1 := Go.Lib.hid hb1
    clear hb1
    go_wp2_with fail
    refine (law22_speaks _).mono ?_
    rintro e w2 ⟨rfl, hb2⟩
    have HB2 := Go.Lib.hid (HB1.out.trans (hb2.mono HB1.out.size))
    clear hb2
    go_wp2
    go_ret
    exact ⟨rfl, HB2.out⟩

end Go.Proofs.YtdemhabgaimnmaaGreatDoor
/- What a row's proof opens: a configuration that came in; facts on the program. -/
namespace Go.Proofs.YtdemhabgaimnmaaGreatDoor
open Go.ChangeShapes Go.WideShapes Go.ChangeAt Go.RowKit
set_option maxRecDepth 100000

theorem prog_own : ownKnob Tryz.prog.godebug = none := by kernel_rfl
theorem prog_laidOut : laidOutB Tryz.prog = true := by kernel_rfl

end Go.Proofs.YtdemhabgaimnmaaGreatDoor
/- Bytes among a law's arguments. -/
namespace Go.Proofs.YtdemhabgaimnmaaGreatDoor
open Go.ChangeShapes Go.WideShapes Go.ChangeAt Go.RowKit
set_option maxRecDepth 100000

section
variable {H : Type} {enc : TypeId × Value → H} {W : World} {base : Nat} {spare : Nat → Bool} {held : Bool}
theorem spot_none {r : Reach} {b0 : Nat} {t e : TypeId} {a : Addr} {n c : Nat} (ht : Tryz.prog.underlying t = some (.slice e)) (h : Value.okWide Tryz.prog W r b0 t (.slice (some a) n c)) : a.spot = none := by
  simp only [Value.okWide, ht, Cell.okWide, Cell.ok] at h
  exact h.2.2.2.1
theorem bytes_openK {v : Value} {r : Reach} {b0 : Nat} (hv : Value.okWide Tryz.prog W r b0 24 v) {fuel : Nat} {x : DataW H × List MemPlace} (h : DataW.trod enc Tryz.prog W base spare held fuel 24 [v] = some x) :
    ∃ zs : List Nat, KBb W.heap.size W v zs ∧ ∀ z ∈ zs, z < 256 := by
  rcases open_ints Tryz.underlying24 Tryz.underlying5 (by kernel_rfl) h with ⟨hc, _⟩ | ⟨a, len, cap, zs, hc, _, hl, _, hzl, _, hcell, hwf⟩
  · injection hc with hc _
    subst hc
    refine ⟨[], ⟨⟨none, 0, rfl, fun i r hi => by cases hi⟩, fun a n c e hn => absurd rfl hn, fun n c e => (by cases e; rfl), fun p n c e => (by cases e; exact Nat.le_refl _)⟩, fun d hd => by cases hd⟩
  · injection hc with hc _
    subst hc
    have hlm : len ≤ zs.length := by rw [hzl]; split <;> omega
    have hb : ∀ z ∈ zs, 0 ≤ z ∧ z < 256 := fun z hz => by
      have := bounds_u8 (hwf z hz)
      omega
    have hcl : ∀ i, i < len → ∃ z : Nat, ((zs.take len).map Int.toNat)[i]? = some z ∧ W.cell? (a.add i) = some (.int .u8 (z : Int)) := by
      intro i hi
      have hil2 : i < zs.length := by omega
      have hm : zs[i] ∈ zs := List.getElem_mem hil2
      have h0 := hb _ hm
      refine ⟨zs[i].toNat, ?_, ?_⟩
      · rw [List.getElem?_map, List.getElem?_take, if_pos hi, List.getElem?_eq_getElem hil2]; rfl
      · rw [hcell i hil2, List.getD_eq_getElem?_getD, List.getElem?_eq_getElem hil2]
        show some (Value.int .u8 zs[i]) = _
        rw [show ((zs[i].toNat : Nat) : Int) = zs[i] by omega]
    have hla : ((zs.take len).map Int.toNat).length = len := by rw [List.length_map, List.length_take, Nat.min_eq_left hlm]
    obtain ⟨g, off, sp⟩ := a
    obtain rfl : sp = none := spot_none Tryz.underlying24 hv
    have hadd : ∀ i, (⟨g, off, none⟩ : Addr).add i = ⟨g, off + i, none⟩ := by
      intro i
      unfold Addr.add
      split
      · rename_i e; subst e; rfl
      · rfl
    refine ⟨(zs.take len).map Int.toNat, ⟨⟨some ⟨g, off, none⟩, cap, by rw [List.length_map, hla], fun i r hi => ?_⟩, fun a' n c e hn => ?_, fun n c e => (by cases e), fun p n c e => (by cases e; exact hl)⟩, fun z hz => ?_⟩
    · rw [List.getElem?_map] at hi
      have hil : i < len := by
        have : i < ((zs.take len).map Int.toNat).length := by
          rcases Nat.lt_or_ge i ((zs.take len).map Int.toNat).length with q | q
          · exact q
          · rw [List.getElem?_eq_none q] at hi; cases hi
        omega
      obtain ⟨z, h1, h2⟩ := hcl i hil
      rw [h1] at hi
      cases hi
      refine ⟨g, off, rfl, fun j u hj => ?_⟩
      have hj0 : j = 0 := by
        have : j < 1 := (List.getElem?_eq_some_iff.1 hj).1
        omega
      subst hj0
      cases hj
      rw [hadd] at h2
      rwa [Nat.mul_one, Nat.add_zero]
    · cases e
      have h0 : 0 < len := by
        rcases Nat.eq_zero_or_pos len with q | q
        · exact absurd (List.map_eq_nil_iff.2 (List.length_eq_zero_iff.1 (by rw [hla]; exact q))) hn
        · exact q
      obtain ⟨z, h1, h2⟩ := hcl 0 h0
      rw [hadd] at h2
      exact cell_lt h2
    · obtain ⟨z', hz', rfl⟩ := List.mem_map.1 hz
      have := hb _ (List.mem_of_mem_take hz')
      omega
end
end Go.Proofs.YtdemhabgaimnmaaGreatDoor
namespace Go.Proofs.YtdemhabgaimnmaaGreatDoor
open Go.ChangeShapes Go.WideShapes Go.ChangeAt Go.RowKit
set_option maxRecDepth 100000

def scriptErrs_laid : List (String × DataW Unit) := [("math/bits.deBruijn32tab", Rows.laid_math_bits_deBruijn32tab), ("math/bits.deBruijn64tab", Rows.laid_math_bits_deBruijn64tab), ("internal/strconv.uint64pow10", Rows.laid_internal_strconv_uint64pow10)]
theorem scriptErrs_door (os : Os) (args : Array Value) : laidMetH Tryz.prog scriptErrs_laid ((World.doorLaid Tryz.prog 400 os).forCall (fun _ _ => 0) ⟨#[], args, []⟩).memory :=
  laidMetH_of_parts3 (fuel := 80) (laidMet_of_run' 80 (by kernel_rfl) (by kernel_rfl)) (by kernel_rfl) (by kernel_rfl)
theorem scriptErrs_lifted (os : Os) (started : os.Started) (H : Type) (enc : TypeId × Value → H) :
    ReturnsInHanded {} Tryz.checked os 4 .any (fun w args => (Rows.scriptErrsSpec.pre enc Tryz.prog Tryz.f4 [] false w args ∧ laidMetH Tryz.prog scriptErrs_laid w) ∧ sizedMet enc Tryz.prog Tryz.f4 (OpenSpec.ofChange Rows.scriptErrsSpec) false w args)
      (Rows.scriptErrsSpec.post enc Tryz.prog Tryz.f4 false true false false) := by
  refine returnsInHanded_of_change_and (C := Tryz.checked) (X := fun w _ => laidMetH Tryz.prog scriptErrs_laid w) (fun _ _ _ hh h => h.of_heap hh) prog_own started (by kernel_rfl) Tryz.func4
    (ChangeSpec.witness_shaped (enc := enc) (C := Tryz.checked) (os := os) (X := fun w _ => laidMetH Tryz.prog scriptErrs_laid w) false (World.doorLaid Tryz.prog 400 os) #[.slice none 0 0] 8 rfl (World.shaped_of_RefB (by kernel_rfl) (by kernel_rfl)) (by kernel_rfl) (by kernel_rfl) (by kernel_rfl) (scriptErrs_door os _)) ?_
  intro W base args ds gs before hval0 hW _ _ hLaid _
  have hval : ∀ (j : Nat) t v, Tryz.f4.params[j]? = some t → args[j]? = some v → Value.okWide Tryz.prog W .any base t v := hval0
  have hW' := hW
  obtain ⟨p, q, hA0, hV, rfl, hfz, hnd⟩ := hW
  have hA : DataW.TrodAll enc Tryz.prog W 0 (fun _ => true) true Tryz.f4.params.toList args.toList ds p := hA0
  rw [Tryz.params4] at hA hval
  obtain ⟨v0, vs0, d0, ds0, p0, q0, hargs, rfl, rfl, h0, r0⟩ := trodAll_cons hA
  obtain ⟨rfl, rfl, rfl⟩ := trodAll_nil r0
  obtain rfl : args = #[v0] := by cases args; simp_all
  obtain ⟨rfl, rfl⟩ := trodVars_none hV
  obtain ⟨m0, y0, ht0⟩ : ∃ m y, DataW.trod enc Tryz.prog W 0 (fun _ => true) true m 24 [v0] = some y := by obtain ⟨m, hm⟩ := h0; obtain ⟨p, l, c, rfl⟩ := okWide_slice Tryz.underlying24 (hval 0 24 v0 rfl rfl); exact ⟨m, _, hm⟩
  obtain ⟨x0, hr0, hb0⟩ := bytes_openK (hval 0 24 v0 rfl rfl) ht0
  have lt0 : ∀ x ∈ p0, x.block < W.heap.size := by obtain ⟨m, hm⟩ := h0; exact DataW.trod_lt m _ _ _ hm
  clear hA0 hval0
  refine (law22_ScriptErrs x0 v0 W hr0 hb0).mono fun e W' ⟨he, bel⟩ => ?_
  subst he
  exact ⟨_, rfl, _, _, _, [], _, [], hW', trodAll_mk1 (shut_bool Tryz.underlying4 _), (trodAll_cons_mk (Below.trod prog_laidOut (by kernel_rfl) (of_decide_eq_true (by kernel_rfl)) h0 bel lt0) trodAll_mk0), rfl, bel.frame _, fun h => by cases h⟩

theorem scriptErrs_holds : Rows.ScriptErrsSaid :=
  OpenClaim.holds_of_wide 4 Tryz.f4 rfl rfl rfl rfl rfl rfl rfl ⟨rfl, rfl, rfl, rfl, rfl⟩ rfl rfl rfl rfl rfl (by kernel_rfl) Tryz.func4 (by kernel_rfl)
    (of_decide_eq_true (by kernel_rfl)) (by unfold Func.isWrapper; first | (rw [if_pos (by decide +kernel)]; kernel_rfl) | (rw [if_neg (by decide +kernel)]; exact ⟨rfl, rfl⟩))
    (fun os started H enc _ => scriptErrs_lifted os started H enc)
/-- The tied card. -/
theorem scriptErrsCard_holds : Rows.ScriptErrsCardSaid :=
  Claim7.holds_tied_plain_at .later [] [.data, .data, .data] true (true, "7ee59cfadd85b9d8d77ffc91b184254bf60d5ace98b6cf4c77b288a6fe9ad314") false
    scriptErrs_holds (fun _ h => by cases h) (by kernel_rfl) (fun _ h => by cases h) scriptErrs_row_tie rfl ⟨rfl, rfl⟩ (by kernel_rfl) rfl
    (fun f fn hf hfn => by
      obtain rfl : f = 4 := Option.some.inj ((show Tryz.prog.funcNamed "knell/knelllaw22.ScriptErrs" = some 4 by kernel_rfl).symm.trans hf) |>.symm
      obtain rfl : fn = Tryz.f4 := (Option.some.inj (Tryz.func4.symm.trans hfn)).symm
      exact ⟨by kernel_rfl, fun j t ht => by
        rw [Tryz.params4] at ht
        have hm : t ∈ [24] := by simpa using Array.mem_of_getElem? ht
        have hall : ([24].all fun u => !Tryz.prog.wantsStandIn u) = true := by kernel_rfl
        exact (show Tryz.prog.wantsStandIn t = false by simpa using List.all_eq_true.1 hall t hm)⟩)
    (by kernel_rfl)
#print axioms scriptErrsCard_holds
end Go.Proofs.YtdemhabgaimnmaaGreatDoor
