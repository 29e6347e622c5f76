/- A stack's indices, first to last. -/
import Derived.Test.YtlbjjooiiikmjaaJ
import Derived.Laws.EntriesVeiled
namespace Go.Proofs.Ytlbjjooiiikmjaa
open Go.RowKit
set_option maxRecDepth 100000
set_option linter.unusedVariables false

/-- From index i on the chain is xs. -/
def ChainOf (S : St) (lk : Nat → Nat) : Int → List Nat → Prop
  | i, [] => i < 0 ∧ -1 ≤ i
  | i, x :: xs => i = (x : Int) ∧ lk x < S.n ∧ S.m (lk x) < 4611686018427387904 ∧ ChainOf S lk ((S.m (lk x) : Int) - 1) xs

theorem own_form {w : World} {base : Nat} {e : TypeId} {size : Nat} {v : Value} {n : Nat} {xs : List Value} (h : w.ownsRow base e size v n xs) : ∃ a cap, v = .slice a n cap := by
  rcases h.2 with ⟨rfl, h0⟩ | ⟨g, cap, cur, rfl, _⟩
  · exact ⟨none, 0, by rw [h0]⟩
  · exact ⟨_, cap, rfl⟩
theorem own_ge {w : World} {base : Nat} {e : TypeId} {size : Nat} {v : Value} {n : Nat} {xs : List Value} (h : w.ownsRow base e size v n xs) {g : Nat} (hg : v.ownBlock = some g) : base ≤ g := by
  rcases h.2 with ⟨rfl, _⟩ | ⟨g', cap, cur, rfl, hb, _⟩
  · cases hg
  · have : g' = g := by simpa [Value.ownBlock] using hg
    omega

theorem own_mono {w : World} {base base' : Nat} {e : TypeId} {size : Nat} {v : Value} {n : Nat} {xs : List Value} (h : w.ownsRow base e size v n xs) (hb : base' ≤ base) : w.ownsRow base' e size v n xs :=
  ⟨h.1, h.2.elim .inl fun ⟨g, cap, cur, h1, h2, h3⟩ => .inr ⟨g, cap, cur, h1, Nat.le_trans hb h2, h3⟩⟩

set_option maxHeartbeats 4000000 in
theorem stack_list {E : G} {L : Lab} {S : St} {w : World} (hg : Good E L S w) (f : FuncId) (hf : ∀ (args : Array Value) (w : World), (callFunc f args).run Try.prog w = .ok (.enter f args) w) (head : Nat) (hh : head < S.n) (lk : Nat → Nat) (xs : List Nat)
    (hlk : ∀ x, x ∈ xs → ∀ w, PlanAt w E.p E.cf → Calls Try.prog f #[.pointer (some ⟨E.p, 0, none⟩), .int .i64 x] w (Qt (.int .i64 (lk x)) w))
    (hch : ChainOf S lk ((part (S.m head) 0 32 : Int) - 1) xs) (hlen : xs.length ≤ S.n) :
    Calls Try.prog 26 #[.agg #[.pointer (some ⟨E.a, 0, none⟩), .int .i64 head, .func (.func f) #[.pointer (some ⟨E.p, 0, none⟩)] #[]]] w fun e w' => ∃ v, e = .returned v ∧
      w'.ownsRow w.heap.size 3 1 v xs.length (xs.map fun (x : Nat) => Value.int .i64 (x : Int)) ∧ Below w.heap.size w w' := by
  have hinfo : (Try.prog.info? 3).map (fun i => (i.zero, i.size, i.bytes)) = some (some (.int .i64 0), 1, 8) := by kernel_rfl
  have hund : Try.prog.underlying 53 = some (.slice 3) := by kernel_rfl
  obtain ⟨i0, hi0, hz0, hz1, hz2⟩ := info_parts hinfo
  have hfield : ∀ (a b : Int) (w : World), (Instr.field 101 (.agg #[.int .i64 a, .int .i64 b]) 1).run Try.prog w = .ok (.int .i64 b) w := fun _ _ _ => by kernel_rfl
  have hb : Below w.heap.size w (w.alloc (.cells #[.pointer (some ⟨E.a, 0, none⟩), .int .i64 head, .func (.func f) #[.pointer (some ⟨E.p, 0, none⟩)] #[]] 56)) := (Below.refl _ _).alloc (Nat.le_refl _) _
  have q0 : (w.alloc (.cells #[.pointer (some ⟨E.a, 0, none⟩), .int .i64 head, .func (.func f) #[.pointer (some ⟨E.p, 0, none⟩)] #[]] 56)).cell? ⟨w.heap.size, 0, none⟩ = some (.pointer (some ⟨E.a, 0, none⟩)) := by go_simp
  have q1 : (w.alloc (.cells #[.pointer (some ⟨E.a, 0, none⟩), .int .i64 head, .func (.func f) #[.pointer (some ⟨E.p, 0, none⟩)] #[]] 56)).cell? ⟨w.heap.size, 1, none⟩ = some (.int .i64 head) := by go_simp
  have q2 : (w.alloc (.cells #[.pointer (some ⟨E.a, 0, none⟩), .int .i64 head, .func (.func f) #[.pointer (some ⟨E.p, 0, none⟩)] #[]] 56)).cell? ⟨w.heap.size, 2, none⟩ = some (.func (.func f) #[.pointer (some ⟨E.p, 0, none⟩)] #[]) := by go_simp
  have hgb := hg.below hb
  have HA := Go.Lib.hid (arena_all hgb.ar)
  have hn2 := hg.ar.n2
  have hm64 := hg.ar.m64 head
  have HP := Go.Lib.hid hgb.pl
  have HLK := Go.Lib.hid hlk
  have HF := Go.Lib.hid hf
  have HCH := Go.Lib.hid hch
  clear hg hgb hlk hch
  go_enter Try.func26, Try.ntmps26
  go_wp2_with fail
  generalize (w.alloc (.cells #[.pointer (some ⟨E.a, 0, none⟩), .int .i64 head, .func (.func f) #[.pointer (some ⟨E.p, 0, none⟩)] #[]] 56)) = W0 at *
  refine HA.out.mono ?_
  rintro e W1 ⟨rfl, hall⟩
  have hb1 := hall.bl
  have HC : Hid (∀ i, i < S.n → W1.cell? ⟨W0.heap.size, i, none⟩ = some (.int .u64 (S.m i : Nat))) := fun i hi => by have := hall.c0 i hi; rwa [if_pos hi] at this
  have q0 := below_cell hb1 q0
  have q1 := below_cell hb1 q1
  have q2 := below_cell hb1 q2
  have hp1 := HP.out.mono (hb1.block E.p (cell_lt HP.out.c0))
  have hbw := hb.trans (hb1.mono hb.size)
  generalize W0.heap.size = r at *
  have ch := HC.out head hh
  have i1 : (0 : Int) ≤ (head : Int) := by omega
  have i2 : (head : Int) < (S.n : Int) := by omega
  clear hall HA HP hb1 hb
  have HW := Go.Lib.hid (of_HeadOf (S.m head) W1 hm64)
  go_wp2_with fail
  refine HW.out.mono ?_
  rintro e W2 ⟨rfl, hb2⟩
  have q0 := below_cell hb2 q0
  have q1 := below_cell hb2 q1
  have q2 := below_cell hb2 q2
  have HC2 : Hid (∀ i, i < S.n → W2.cell? ⟨r, i, none⟩ = some (.int .u64 (S.m i : Nat))) := fun i hi => below_cell hb2 (HC.out i hi)
  have HP2 := Go.Lib.hid (hp1.mono (hb2.block E.p (cell_lt hp1.c0)))
  have hbw2 := hbw.trans (hb2.mono hbw.size)
  clear HW HC ch hp1 hb2 hbw
  have HBW := Go.Lib.hid hbw2
  clear hbw2
  generalize hiv : ((part (S.m head) 0 32 : Nat) : Int) - 1 = iv0 at *
  clear hiv
  go_wp2
  go_loopw [4, 5] (fun v i wr => ∃ (dn rest : List Nat) (iv : Int), xs = dn ++ rest ∧ i = .int .i64 iv ∧ ChainOf S lk iv rest ∧ wr.ownsRow W2.heap.size 3 1 v dn.length (dn.map fun (x : Nat) => Value.int .i64 (x : Int)) ∧ Below W2.heap.size W2 wr) (fun v _ _ => xs.length - (match v with | .slice _ n _ => n | _ => 0))
  case atStart => exact ⟨[], xs, iv0, rfl, rfl, HCH.out, World.ownsRow_nil _ _ _ _, Below.refl _ _⟩
  case round =>
    obtain ⟨dn, rest, iv, hxs, rfl, hch', hown, hbl⟩ := hrel
    obtain ⟨a, cap, hv⟩ := own_form hown
    have HOWN := Go.Lib.hid hown
    have HBL := Go.Lib.hid hbl
    subst hv
    cases rest with
    | nil =>
      obtain ⟨h1, h2⟩ := hch'
      have hD : decide (0 ≤ iv) = false := by simp; omega
      clear hown hbl q0 q1 q2
      go_wp2
      go_ret
      have hdn : dn = xs := by rw [hxs]; simp
      subst hdn
      exact ⟨_, rfl, own_mono HOWN.out HBW.out.size, HBW.out.trans (HBL.out.mono HBW.out.size)⟩
    | cons x rest' =>
      obtain ⟨rfl, h1, h2, h3⟩ := hch'
      have hD : decide ((0 : Int) ≤ (x : Int)) = true := by simp
      have hl1 : dn.length < xs.length := by rw [hxs]; simp
      have hD2 : decide ((dn.length : Int) ≤ (S.n : Int)) = true := by simp; omega
      have hmem : x ∈ xs := by rw [hxs]; simp
      have hsz := hbl.size
      have s1 : IntKind.i64.wrap (S.m (lk x) : Int) = (S.m (lk x) : Int) := IntWalk.i64_in _ (by omega)
      have s2 : IntKind.i64.wrap ((S.m (lk x) : Int) - 1) = (S.m (lk x) : Int) - 1 := IntWalk.i64_in _ (by omega)
      have j1 : (0 : Int) ≤ (lk x : Int) := by omega
      have j2 : (lk x : Int) < (S.n : Int) := by omega
      have HXS := Go.Lib.hid hxs
      have HLEN := Go.Lib.hid hlen
      have HH2 := Go.Lib.hid h2
      have HH3 := Go.Lib.hid h3
      have hl2 : dn.length ≤ 1048576 := by omega
      have hle : dn.length ≤ S.n := by omega
      clear hxs hlen h2 h3 hbl
      go_wp2_with (first
        | (at_builtin; refine wpList_append_own _ rfl _ _ 53 rfl W2.heap.size 3 i0 (.int .i64 0) 1 8 hund hi0 hz0 hz1 hz2 rfl (by decide) _ _ _ rfl (hown.alloc _) ⟨wr.heap.size, 0, none⟩ 1 1 [.int .i64 x] rfl rfl (cell_one_new _ _ _) (by intro u hu; simp at hu; subst hu; rfl) (by unfold maxLen; omega) (by omega) (by simp; omega) ?_; intro v1 w1 hown1 hgrow1 hnil1; have hb4 : Below W2.heap.size W2 w1 := (HBL.out.alloc hsz _).grown hgrow1 (by simp; omega) (fun k h => own_ge hown h); have r2 := below_cell hb4 q2; have r3 := below_cell hb4 (HC2.out _ h1))
        | (refine (HLK.out x hmem w1 (HP2.out.mono (hb4.block E.p (cell_lt HP2.out.c0)))).mono ?_; intro e w5 hq; obtain ⟨rfl, hb5⟩ := hq.below; clear hq; have r4 := below_cell hb5 r3))
      go_roundw
      case rel =>
        refine ⟨dn ++ [x], rest', (S.m (lk x) : Int) - 1, by rw [HXS.out]; simp, by first | rfl | simp [s1, s2], HH3.out, ?_, hb4.trans (hb5.mono hb4.size)⟩
        have h9 := own_kept hown1 (fun g hg => hb5.block g (own_lt hown1 hg))
        simp only [List.length_append, List.length_singleton, List.map_append, List.map_cons, List.map_nil]
        exact h9
      case measure =>
        obtain ⟨a1, cap1, hv1⟩ := own_form hown1
        subst hv1
        show xs.length - (dn.length + 1) < xs.length - dn.length
        omega
end Go.Proofs.Ytlbjjooiiikmjaa

