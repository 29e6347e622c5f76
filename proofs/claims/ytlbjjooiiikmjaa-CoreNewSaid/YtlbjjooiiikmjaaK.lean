/- Code in memory, and the step layer. -/
import Derived.Test.YtlbjjooiiikmjaaW3
import Derived.Deep.RegionWith
import Derived.Deep.RegionHeld3
namespace Go.Proofs.Ytlbjjooiiikmjaa
open Go.RowKit
set_option maxRecDepth 100000
set_option linter.unusedVariables false

def EntersF (f : FuncId) : Prop := ∀ (args : Array Value) (w : World), (callFunc f args).run Try.prog w = .ok (.enter f args) w

section
variable {ρ : Type} (cf : Cf) (R : ρ → Arg → St → St × Option (K ρ)) (E : G) (t : Nat)

/-- Value v is code that does as κ says, for n steps at least. -/
def CodeSim : Nat → Lab → World → Value → Option (K ρ) → Prop
  | 0, _, _, _, _ => True
  | _ + 1, _, _, v, none => v = .nilFunc
  | n + 1, L, w, v, some κ => ∃ f cap, v = .func (.func f) #[] cap ∧ EntersF f ∧
      ∀ L' w' S, Ext t L w L' w' → Good E L' S w' → Bd (step cf R κ S).1 →
        Calls Try.prog f cap w' fun e w'' => ∃ v' L'', e = .returned v' ∧ Did t L' w' L'' w'' ∧ Good E L'' (step cf R κ S).1 w'' ∧ CodeSim n L'' w'' v' (step cf R κ S).2

/-- What a call leaves that does as a pure function says, and hands back code. -/
def Post (n : Nat) (L : Lab) (w : World) (r : St × Option (K ρ)) (e : Ending) (w' : World) : Prop :=
  ∃ v L', e = .returned v ∧ Did t L w L' w' ∧ Good E L' r.1 w' ∧ CodeSim cf R E t n L' w' v r.2

/-- Value v is a continuation that does as c says. -/
def ConSim (sh : Arg → Prop) (n : Nat) (L : Lab) (w : World) (v : Value) (c : C ρ) : Prop :=
  ∃ f cap, v = .func (.func f) #[] cap ∧ EntersF f ∧
    ∀ a L' w' S, sh a → Ext t L w L' w' → Good E L' S w' → Bd (app cf R c a S).1 →
      Calls Try.prog f (a.vals ++ cap) w' (Post cf R E t n L' w' (app cf R c a S))

theorem CodeSim.ext {n : Nat} {L L' : Lab} {w w' : World} {v : Value} {k : Option (K ρ)} (h : CodeSim cf R E t n L w v k) (hx : Ext t L w L' w') : CodeSim cf R E t n L' w' v k := by
  cases n with
  | zero => trivial
  | succ n => cases k with
    | none => exact h
    | some κ =>
      obtain ⟨f, cap, h1, h2, h3⟩ := h
      exact ⟨f, cap, h1, h2, fun L2 w2 S hx2 hg hb => h3 L2 w2 S (hx.trans hx2) hg hb⟩

theorem CodeSim.down {n : Nat} : ∀ {L : Lab} {w : World} {v : Value} {k : Option (K ρ)}, CodeSim cf R E t (n + 1) L w v k → CodeSim cf R E t n L w v k := by
  induction n with
  | zero => intros; trivial
  | succ n ih =>
    intro L w v k h
    cases k with
    | none => exact h
    | some κ =>
      obtain ⟨f, cap, h1, h2, h3⟩ := h
      exact ⟨f, cap, h1, h2, fun L2 w2 S hx2 hg hb => (h3 L2 w2 S hx2 hg hb).mono fun e w3 ⟨v', L3, q1, q2, q3, q4⟩ => ⟨v', L3, q1, q2, q3, ih q4⟩⟩

theorem Post.down {n : Nat} {L : Lab} {w w' : World} {r : St × Option (K ρ)} {e : Ending} (h : Post cf R E t (n + 1) L w r e w') : Post cf R E t n L w r e w' := by
  obtain ⟨v, L', h1, h2, h3, h4⟩ := h
  exact ⟨v, L', h1, h2, h3, CodeSim.down cf R E t h4⟩
theorem ConSim.ext {sh : Arg → Prop} {n : Nat} {L L' : Lab} {w w' : World} {v : Value} {c : C ρ} (h : ConSim cf R E t sh n L w v c) (hx : Ext t L w L' w') : ConSim cf R E t sh n L' w' v c := by
  obtain ⟨f, cap, h1, h2, h3⟩ := h
  exact ⟨f, cap, h1, h2, fun a L2 w2 S hs hx2 hg hb => h3 a L2 w2 S hs (hx.trans hx2) hg hb⟩
theorem ConSim.down {sh : Arg → Prop} {n : Nat} {L : Lab} {w : World} {v : Value} {c : C ρ} (h : ConSim cf R E t sh (n + 1) L w v c) : ConSim cf R E t sh n L w v c := by
  obtain ⟨f, cap, h1, h2, h3⟩ := h
  exact ⟨f, cap, h1, h2, fun a L2 w2 S hs hx2 hg hb => (h3 a L2 w2 S hs hx2 hg hb).mono fun e w3 hp => Post.down cf R E t hp⟩
theorem ConSim.sub {sh sh' : Arg → Prop} {n : Nat} {L : Lab} {w : World} {v : Value} {c : C ρ} (h : ConSim cf R E t sh n L w v c) (hs : ∀ a, sh' a → sh a) : ConSim cf R E t sh' n L w v c := by
  obtain ⟨f, cap, h1, h2, h3⟩ := h
  exact ⟨f, cap, h1, h2, fun a L2 w2 S hs2 hx2 hg hb => h3 a L2 w2 S (hs a hs2) hx2 hg hb⟩
/-- A step ahead of what a call leaves. -/
theorem Post.before {n : Nat} {L L1 : Lab} {w w1 w' : World} {r : St × Option (K ρ)} {e : Ending} (h : Post cf R E t n L1 w1 r e w') (hd : Did t L w L1 w1) : Post cf R E t n L w r e w' := by
  obtain ⟨v, L', h1, h2, h3, h4⟩ := h
  exact ⟨v, L', h1, hd.trans h2, h3, h4⟩
end

/-- The shapes of what is handed to a continuation. -/
def isU : Arg → Prop | .u => True | _ => False
def isW : Arg → Prop | .w x => x < 18446744073709551616 | _ => False
def isB : Arg → Prop | .b _ => True | _ => False
def isI : Arg → Prop | .i x => -9223372036854775808 ≤ x ∧ x < 9223372036854775808 | _ => False
def isPop : Arg → Prop | .pop x _ => -1 ≤ x ∧ x ≤ 4294967294 | _ => False
def isKey : Arg → Prop | .key g v n d => (0 ≤ g ∧ g < 4294967296) ∧ (0 ≤ v ∧ v < 65536) ∧ (0 ≤ n ∧ n < 65536) ∧ (-9223372036854775808 ≤ d ∧ d < 9223372036854775808) | _ => False

theorem below_did {w w' : World} (h : Below w.heap.size w w') (t : Nat) (L : Lab) : Did t L w L w' := (Shr.of_below h L).did t
theorem below_ext {w w' : World} (h : Below w.heap.size w w') (t : Nat) (L : Lab) : Ext t L w L w' := (Shr.of_below h L).ext t
theorem St.get_lt {S : St} {i : Int} (h : ∀ j, S.m j < 18446744073709551616) : S.get i < 18446744073709551616 := by
  unfold St.get; split
  · exact h _
  · decide

section
variable {ρ : Type} {cf : Cf} {R : ρ → Arg → St → St × Option (K ρ)} {E : G} {t : Nat}

theorem Good.drew {L : Lab} {S : St} {w : World} (h : Good E L S w) : Good E L S w.drew := h.below ((Below.refl _ w).drew)
theorem below_drewN {w : World} (q : Nat) : Below w.heap.size w (w.drewN q) := ⟨rfl, rfl, rfl, Nat.le_refl _, fun _ _ => rfl⟩
theorem Qt.below {v : Value} {w : World} {e : Ending} {w' : World} (h : Qt v w e w') : e = .returned v ∧ Below w.heap.size w w' := by
  obtain ⟨h1, q, rfl⟩ := h; exact ⟨h1, below_drewN q⟩
theorem Good.drewN {L : Lab} {S : St} {w : World} (h : Good E L S w) (q : Nat) : Good E L S (w.drewN q) := h.below (below_drewN q)
/-- A new block of one cell is nobody's. -/
theorem Good.lab_new {L : Lab} {S : St} {w : World} (h : Good E L S w) (b : Nat) (hb : w.heap.size ≤ b) : L b = 0 := h.new b hb

set_option maxHeartbeats 1000000 in
theorem load1 {n : Nat} {i : Int} {vk : Value} {c : C ρ} {L : Lab} {w : World} {S : St} {b0 b1 b2 : Nat}
    (h0 : w.cell? ⟨b0, 0, none⟩ = some vk) (h1 : w.cell? ⟨b1, 0, none⟩ = some (.pointer (some ⟨E.a, 0, none⟩))) (h2 : w.cell? ⟨b2, 0, none⟩ = some (.int .i64 i))
    (hk : ConSim cf R E t isW n L w vk c) (hg : Good E L S w) (hbd : Bd (app cf R c (.w (S.get i)) (S.touch i)).1) (hbt : (S.touch i).cnt ≤ 4611686018427387904)
    (l0 : L b0 = 0) (l1 : L b1 = 0) (l2 : L b2 = 0) :
    Calls Try.prog 98 #[.pointer (some ⟨b0, 0, none⟩), .pointer (some ⟨b1, 0, none⟩), .pointer (some ⟨b2, 0, none⟩)] w
      (Post cf R E t n L w (app cf R c (.w (S.get i)) (S.touch i))) := by
  obtain ⟨f, cap, rfl, hf, hk⟩ := hk
  have HK := Go.Lib.hid hk
  clear hk
  have hf' : ∀ (args : Array Value) (w : World), (callFunc f args).run Try.prog w = .ok (.enter f args) w := hf
  have hgd := hg.drew
  go_enter Try.func98, Try.ntmps98
  go_wp2_with fail
  go_region_held3 (fun w' => w'.cell? ⟨b0, 0, none⟩ = some (.func (.func f) #[] cap) ∧ w'.cell? ⟨b1, 0, none⟩ = some (.pointer (some ⟨E.a, 0, none⟩)) ∧ w'.cell? ⟨b2, 0, none⟩ = some (.int .i64 i))
    (first | exact ⟨h0, h1, h2⟩ | exact ⟨hs1.cell h0 (.inl l0), hs1.cell h1 (.inl l1), hs1.cell h2 (.inl l2)⟩ | exact ⟨hd2.cell0 (hs1.cell h0 (.inl l0)) l0, hd2.cell0 (hs1.cell h1 (.inl l1)) l1, hd2.cell0 (hs1.cell h2 (.inl l2)) l2⟩)
    (first
    | (go_at_call 99; refine (arena_load hgd i hbt).mono ?_; rintro e w1 ⟨rfl, hg1, hs1⟩)
    | (go_at_fn f; refine (HK.out (.w (S.get i)) _ _ _ (St.get_lt hg.ar.m64) ((below_ext ((Below.refl _ w).drew) t L).trans (hs1.ext t)) hg1 hbd).mono ?_; rintro e w2 ⟨v2, L2, rfl, hd2, hg2, hc2⟩))
  go_wp2
  go_ret
  exact ⟨v2, L2, rfl, (((below_did ((Below.refl _ w).drew) t L).trans (hs1.did t))).trans hd2, hg2, hc2⟩

theorem enters_load1 : EntersF 98 := enters_of Try.func98 (by kernel_rfl) rfl

set_option maxHeartbeats 1000000 in
theorem load_any (hR : RMono R) {n : Nat} {i : Int} {vk : Value} {c : C ρ} {L : Lab} {w : World} {S : St}
    (hg : Good E L S w) (hk : ConSim cf R E t isW n L w vk c) :
    Calls Try.prog 83 #[.pointer (some ⟨E.a, 0, none⟩), .int .i64 i, vk] w (Post cf R E t (n + 1) L w (S, some (.load i c))) := by
  obtain ⟨f, cap, rfl, hfe, hk⟩ := hk
  have HK := Go.Lib.hid hk
  have HF := Go.Lib.hid hfe
  clear hk hfe
  go_enter Try.func83, Try.ntmps83
  go_wp2
  go_ret
  have hb : Below w.heap.size w (((w.alloc (.cells #[.pointer (some ⟨E.a, 0, none⟩)] 28)).alloc (.cells #[.int .i64 i] 3)).alloc (.cells #[.func (.func f) #[] cap] 136)) :=
    ((((Below.refl _ _).alloc (Nat.le_refl _) _).alloc (by simp) _).alloc (by simp; omega) _)
  have z0 := hg.new w.heap.size (Nat.le_refl _)
  have z1 := hg.new (w.heap.size + 1) (by omega)
  have z2 := hg.new (w.heap.size + 1 + 1) (by omega)
  refine ⟨_, L, rfl, below_did hb t L, hg.below hb, 98, _, rfl, enters_load1, fun L' w' S' hx hg' hbd => ?_⟩
  have hbs : Bd (S'.touch i) := Bd.of_app hR hbd
  exact load1 (hx.cell0 (by go_simp) z2) (hx.cell0 (by go_simp) z0) (hx.cell0 (by go_simp) z1) ⟨f, cap, rfl, HF.out, fun a L2 w2 S2 q1 q2 => HK.out a L2 w2 S2 q1 (((below_ext hb t L).trans hx).trans q2)⟩ hg' hbd hbs.cnt
    ((hx.lab _ (by simp)).trans z2) ((hx.lab _ (by simp; omega)).trans z0) ((hx.lab _ (by simp)).trans z1)

theorem ConSim.unit {n : Nat} {L : Lab} {w : World} {f : FuncId} {cap : Array Value} {c : C ρ}
    (h : ∀ a L' w' S, isU a → Ext t L w L' w' → Good E L' S w' → Bd (app cf R c a S).1 → Calls Try.prog f (a.vals ++ cap) w' (Post cf R E t n L' w' (app cf R c a S))) :
    ∀ L' w' S, Ext t L w L' w' → Good E L' S w' → Bd (app cf R c .u S).1 → Calls Try.prog f cap w' (Post cf R E t n L' w' (app cf R c .u S)) := fun L' w' S a b d => by
  have h := h .u L' w' S trivial a b d
  rwa [show (Arg.u.vals ++ cap) = cap from Array.empty_append] at h



end
end Go.Proofs.Ytlbjjooiiikmjaa

