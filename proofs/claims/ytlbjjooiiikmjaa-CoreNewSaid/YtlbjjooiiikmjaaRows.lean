/-
  No cell of these rows narrows 'for every input' (looked for: loops, veiled, ifaces, maps, wideKeys, modest, calm, conditions, laid).
  DERIVED. THE GIVEN ROWS OF THIS SEAT. 2 by the template 'for every input the law returns true; each argument reads behind the call as it read before'; 0 by the template 'total and deterministic' (their statements: YtlbjjooiiikmjaaTotals.lean).
  GIVEN WITH THE SEED: the statements are not yours to turn. If you find one false, say at which input.
  Laid BY PROGRAM, IN A SANDBOX (cutbox-rows.mjs): the forced cells as the released guide's own fill.sh prints them over the translation f586f598438e39ae… (all of the seat's roots in one cut). By AI agents, Wed Nov 11 2026. No macro, syntax, notation, axiom, sorry.
-/
import Derived.Test.YtlbjjooiiikmjaaChecked
import GoSem.Claim
import GoSem.ClaimJoined
import GoSem.ClaimMapViews
import Derived.JoinedTies
import Derived.KernelRfl
namespace Go.Proofs.Ytlbjjooiiikmjaa
/- THE CELL 'sum', in the pinned program and in every row, IS THE sha256 OF THE DUMP (.gsa) THAT YtlbjjooiiikmjaaProg.lean LOADS. Nothing in Lean hashes anything: it is a label: what it is worth is what the hold of that sum in a sandbox is worth. -/
noncomputable def Try.pinned : Pinned := { name := "ytlbjjooiiikmjaa", sum := "f586f598438e39aea37f9bcd6e0bf1e55301cb2432aecf9890d901a1647158c3", checked := Try.checked }
namespace Rows
def none {H : Type} : Left H := { results := [], args := [] }

/-- 'knelllaw15.CoreTicks': WHATEVER THE INPUT: true; the input reads as it did. -/
def coreTicksSpec : ChangeSpec := { name := "coreTicks", fn := fun _ => fun
  | [d1, d2, d3] => { results := [.lit (.bool true)], args := [d1, d2, d3] }
  | _ => none }
def coreTicksRow : OpenClaim := { program := "ytlbjjooiiikmjaa", sum := "f586f598438e39aea37f9bcd6e0bf1e55301cb2432aecf9890d901a1647158c3", func := "knell/knelllaw15.CoreTicks", spec := "coreTicks", inPlace := ["sync/atomic.StoreUint64", "sync/atomic.AddInt64", "sync/atomic.LoadUint64", "sync/atomic.AddUint64"], unfollowed := true, recurses := true, apart := false }
def CoreTicksSaid : Prop := coreTicksRow.holds Try.pinned (OpenSpec.ofChange coreTicksSpec)

/-- ITS FALSE NEIGHBOUR: 'it returns false'. Refute it at one input. -/
def coreTicksWrong : ChangeSpec := { name := "coreTicks", fn := fun _ => fun
  | [d1, d2, d3] => { results := [.lit (.bool false)], args := [d1, d2, d3] }
  | _ => none }
def CoreTicksWrongFalsely : Prop := coreTicksRow.holds Try.pinned (OpenSpec.ofChange coreTicksWrong)

/-- 'knelllaw15.CoreNew': WHATEVER THE INPUT: true; the input reads as it did. -/
def coreNewSpec : ChangeSpec := { name := "coreNew", fn := fun _ => fun
  | [d] => { results := [.lit (.bool true)], args := [d] }
  | _ => none }
def coreNewRow : OpenClaim := { program := "ytlbjjooiiikmjaa", sum := "f586f598438e39aea37f9bcd6e0bf1e55301cb2432aecf9890d901a1647158c3", func := "knell/knelllaw15.CoreNew", spec := "coreNew", inPlace := ["sync/atomic.StoreUint64", "sync/atomic.AddInt64", "sync/atomic.LoadUint64", "sync/atomic.AddUint64", "sync/atomic.LoadInt64"], unfollowed := true, recurses := true, apart := false }
def CoreNewSaid : Prop := coreNewRow.holds Try.pinned (OpenSpec.ofChange coreNewSpec)

/-- ITS FALSE NEIGHBOUR: 'it returns false'. Refute it at one input. -/
def coreNewWrong : ChangeSpec := { name := "coreNew", fn := fun _ => fun
  | [d] => { results := [.lit (.bool false)], args := [d] }
  | _ => none }
def CoreNewWrongFalsely : Prop := coreNewRow.holds Try.pinned (OpenSpec.ofChange coreNewWrong)

/- THE SECOND FORM. 'bulk': how many values and letters a reading holds, each counted each time it is reached (what is shared counts as often as it is met; a slice's spare places count too). A statement '..UptoSaid' is the law's where the arguments, and the package variables that the reading takes, are together of bulk at most 1048576: NARROWER than '..Said'. Prove '..Said' where nothing that the law and all that it calls make is longer than what came in: it says more and counts as full. Else prove '..UptoSaid'. A law counts once. -/
mutual
def uptoBulk {H : Type} : DataW H → Nat
  | .lit (.string bytes) => bytes.length + 1
  | .lit _ => 1
  | .nil => 1
  | .ptr d => uptoBulk d + 1
  | .slice elems spare => uptoBulkAll elems + uptoBulkAll spare + 1
  | .agg parts => uptoBulkAll parts + 1
  | .iface _ d => uptoBulk d + 1
  | .map entries => uptoBulkEntries entries + 1
  | .held _ => 1
def uptoBulkAll {H : Type} : List (DataW H) → Nat
  | [] => 0
  | d :: r => uptoBulk d + uptoBulkAll r
def uptoBulkEntries {H : Type} : List (Lit × DataW H) → Nat
  | [] => 0
  | x :: r => uptoBulkEntry x + uptoBulkEntries r
def uptoBulkEntry {H : Type} : Lit × DataW H → Nat
  | (.string bytes, d) => bytes.length + uptoBulk d + 1
  | (_, d) => uptoBulk d + 1
 end
def uptoSmall : (H : Type) → List (DataW H) → Bool := fun _ ds => decide (uptoBulkAll ds ≤ 1048576)
def OpenSpec.upto (s : _root_.Go.ChangeSpec) : _root_.Go.OpenSpec := { _root_.Go.OpenSpec.ofChange s with cond := some uptoSmall }

/-- 'knelllaw15.CoreTicks', WHERE WHAT IT READS IS OF BULK AT MOST 1048576: true; the input reads as it did. -/
def coreTicksUptoRow : OpenClaim := { program := "ytlbjjooiiikmjaa", sum := "f586f598438e39aea37f9bcd6e0bf1e55301cb2432aecf9890d901a1647158c3", func := "knell/knelllaw15.CoreTicks", spec := "coreTicks", inPlace := ["sync/atomic.StoreUint64", "sync/atomic.AddInt64", "sync/atomic.LoadUint64", "sync/atomic.AddUint64"], unfollowed := true, recurses := true, apart := false, narrowed := true }
def CoreTicksUptoSaid : Prop := coreTicksUptoRow.holds Try.pinned (OpenSpec.upto coreTicksSpec)

/-- 'knelllaw15.CoreNew', WHERE WHAT IT READS IS OF BULK AT MOST 1048576: true; the input reads as it did. -/
def coreNewUptoRow : OpenClaim := { program := "ytlbjjooiiikmjaa", sum := "f586f598438e39aea37f9bcd6e0bf1e55301cb2432aecf9890d901a1647158c3", func := "knell/knelllaw15.CoreNew", spec := "coreNew", inPlace := ["sync/atomic.StoreUint64", "sync/atomic.AddInt64", "sync/atomic.LoadUint64", "sync/atomic.AddUint64", "sync/atomic.LoadInt64"], unfollowed := true, recurses := true, apart := false, narrowed := true }
def CoreNewUptoSaid : Prop := coreNewUptoRow.holds Try.pinned (OpenSpec.upto coreNewSpec)

end Rows
end Go.Proofs.Ytlbjjooiiikmjaa
