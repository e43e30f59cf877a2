/-
  No cell of these rows narrows 'for every input' (looked for: loops, veiled, ifaces, maps, wideKeys, modest, calm, conditions, laid).
  DERIVED. THE GIVEN ROWS OF THIS SEAT. 5 by the template 'for every input the law returns true; each argument reads behind the call as it read before'; 0 by the template 'total and deterministic' (their statements: YtbpklgllihhgpaaGreatTotals.lean).
  GIVEN WITH THE SEED: the statements are not yours to turn. If you find one false, say at which input.
  Laid BY PROGRAM, IN A SANDBOX (cutbox-rows.mjs): the forced cells as the released guide's own fill.sh prints them over the translation f8901befbbf8f32f… (all of the seat's roots in one cut). By AI agents, Wed Nov 11 2026. No macro, syntax, notation, axiom, sorry.
-/
import Derived.Test.YtbpklgllihhgpaaGreatChecked
import GoSem.Claim
import GoSem.ClaimJoined
import GoSem.ClaimMapViews
import Derived.JoinedTies
import Derived.KernelRfl
namespace Go.Proofs.YtbpklgllihhgpaaGreat
/- THE CELL 'sum', in the pinned program and in every row, IS THE sha256 OF THE DUMP (.gsa) THAT YtbpklgllihhgpaaGreatProg.lean LOADS. Nothing in Lean hashes anything: it is a label: what it is worth is what the hold of that sum in a sandbox is worth. -/
noncomputable def Tryz.pinned : Pinned := { name := "ytbpklgllihhgpaagreat", sum := "f8901befbbf8f32fe186fd0837d0384ec17a641249255a307557e5f672abdb8e", checked := Tryz.checked }
namespace Rows
def none {H : Type} : Left H := { results := [], args := [] }

/-- 'gouachelaw18.GraphDeps': WHATEVER THE INPUT: true; the input reads as it did. -/
def graphDepsSpec : ChangeSpec := { name := "graphDeps", fn := fun _ => fun
  | [d1, d2, d3] => { results := [.lit (.bool true)], args := [d1, d2, d3] }
  | _ => none }
def graphDepsRow : OpenClaim := { program := "ytbpklgllihhgpaagreat", sum := "f8901befbbf8f32fe186fd0837d0384ec17a641249255a307557e5f672abdb8e", func := "gouache/gouachelaw18.GraphDeps", spec := "graphDeps", inPlace := ["internal/bytealg.IndexByteString", "internal/bytealg.IndexString"], unfollowed := true, recurses := true, named := ["internal/bytealg.MaxLen"], apart := false }
def GraphDepsSaid : Prop := graphDepsRow.holds Tryz.pinned (OpenSpec.ofChange graphDepsSpec)

/-- ITS FALSE NEIGHBOUR: 'it returns false'. Refute it at one input. -/
def graphDepsWrong : ChangeSpec := { name := "graphDeps", fn := fun _ => fun
  | [d1, d2, d3] => { results := [.lit (.bool false)], args := [d1, d2, d3] }
  | _ => none }
def GraphDepsWrongFalsely : Prop := graphDepsRow.holds Tryz.pinned (OpenSpec.ofChange graphDepsWrong)

/-- 'gouachelaw18.GraphAreas': WHATEVER THE INPUT: true; the input reads as it did. -/
def graphAreasSpec : ChangeSpec := { name := "graphAreas", fn := fun _ => fun
  | [d1, d2] => { results := [.lit (.bool true)], args := [d1, d2] }
  | _ => none }
def graphAreasRow : OpenClaim := { program := "ytbpklgllihhgpaagreat", sum := "f8901befbbf8f32fe186fd0837d0384ec17a641249255a307557e5f672abdb8e", func := "gouache/gouachelaw18.GraphAreas", spec := "graphAreas", inPlace := ["internal/bytealg.IndexByteString", "internal/bytealg.IndexString"], unfollowed := true, recurses := true, named := ["internal/bytealg.MaxLen"], apart := false }
def GraphAreasSaid : Prop := graphAreasRow.holds Tryz.pinned (OpenSpec.ofChange graphAreasSpec)

/-- ITS FALSE NEIGHBOUR: 'it returns false'. Refute it at one input. -/
def graphAreasWrong : ChangeSpec := { name := "graphAreas", fn := fun _ => fun
  | [d1, d2] => { results := [.lit (.bool false)], args := [d1, d2] }
  | _ => none }
def GraphAreasWrongFalsely : Prop := graphAreasRow.holds Tryz.pinned (OpenSpec.ofChange graphAreasWrong)

/-- 'gouachelaw18.GraphEnds': WHATEVER THE INPUT: true; the input reads as it did. -/
def graphEndsSpec : ChangeSpec := { name := "graphEnds", fn := fun _ => fun
  | [d1, d2] => { results := [.lit (.bool true)], args := [d1, d2] }
  | _ => none }
def graphEndsRow : OpenClaim := { program := "ytbpklgllihhgpaagreat", sum := "f8901befbbf8f32fe186fd0837d0384ec17a641249255a307557e5f672abdb8e", func := "gouache/gouachelaw18.GraphEnds", spec := "graphEnds", inPlace := ["internal/bytealg.IndexByteString", "internal/bytealg.IndexString"], unfollowed := true, recurses := true, named := ["internal/bytealg.MaxLen"], apart := false }
def GraphEndsSaid : Prop := graphEndsRow.holds Tryz.pinned (OpenSpec.ofChange graphEndsSpec)

/-- ITS FALSE NEIGHBOUR: 'it returns false'. Refute it at one input. -/
def graphEndsWrong : ChangeSpec := { name := "graphEnds", fn := fun _ => fun
  | [d1, d2] => { results := [.lit (.bool false)], args := [d1, d2] }
  | _ => none }
def GraphEndsWrongFalsely : Prop := graphEndsRow.holds Tryz.pinned (OpenSpec.ofChange graphEndsWrong)

/-- 'gouachelaw18.GraphCaches': WHATEVER THE INPUT: true; the input reads as it did. -/
def graphCachesSpec : ChangeSpec := { name := "graphCaches", fn := fun _ => fun
  | [d1, d2, d3] => { results := [.lit (.bool true)], args := [d1, d2, d3] }
  | _ => none }
def graphCachesRow : OpenClaim := { program := "ytbpklgllihhgpaagreat", sum := "f8901befbbf8f32fe186fd0837d0384ec17a641249255a307557e5f672abdb8e", func := "gouache/gouachelaw18.GraphCaches", spec := "graphCaches", inPlace := ["internal/bytealg.IndexByteString", "internal/bytealg.IndexString"], unfollowed := true, recurses := true, named := ["internal/bytealg.MaxLen"], apart := false }
def GraphCachesSaid : Prop := graphCachesRow.holds Tryz.pinned (OpenSpec.ofChange graphCachesSpec)

/-- ITS FALSE NEIGHBOUR: 'it returns false'. Refute it at one input. -/
def graphCachesWrong : ChangeSpec := { name := "graphCaches", fn := fun _ => fun
  | [d1, d2, d3] => { results := [.lit (.bool false)], args := [d1, d2, d3] }
  | _ => none }
def GraphCachesWrongFalsely : Prop := graphCachesRow.holds Tryz.pinned (OpenSpec.ofChange graphCachesWrong)

/-- 'gouachelaw18.GraphNil': WHATEVER THE INPUT: true; the input reads as it did. -/
def graphNilSpec : ChangeSpec := { name := "graphNil", fn := fun _ => fun
  | [d] => { results := [.lit (.bool true)], args := [d] }
  | _ => none }
def graphNilRow : OpenClaim := { program := "ytbpklgllihhgpaagreat", sum := "f8901befbbf8f32fe186fd0837d0384ec17a641249255a307557e5f672abdb8e", func := "gouache/gouachelaw18.GraphNil", spec := "graphNil", inPlace := ["internal/bytealg.IndexByteString", "internal/bytealg.IndexString"], unfollowed := true, recurses := true, named := ["internal/bytealg.MaxLen"], apart := false }
def GraphNilSaid : Prop := graphNilRow.holds Tryz.pinned (OpenSpec.ofChange graphNilSpec)

/-- ITS FALSE NEIGHBOUR: 'it returns false'. Refute it at one input. -/
def graphNilWrong : ChangeSpec := { name := "graphNil", fn := fun _ => fun
  | [d] => { results := [.lit (.bool false)], args := [d] }
  | _ => none }
def GraphNilWrongFalsely : Prop := graphNilRow.holds Tryz.pinned (OpenSpec.ofChange graphNilWrong)

/- THE SECOND FORM. 'bulk': how many values and letters a reading holds, each counted each time it is reached (what is shared counts as often as it is met; a slice's spare places count too). A statement '..UptoSaid' is the law's where the arguments, and the package variables that the reading takes, are together of bulk at most 1048576: NARROWER than '..Said'. Prove '..Said' where nothing that the law and all that it calls make is longer than what came in: it says more and counts as full. Else prove '..UptoSaid'. A law counts once. -/
mutual
def uptoBulk {H : Type} : DataW H → Nat
  | .lit (.string bytes) => bytes.length + 1
  | .lit _ => 1
  | .nil => 1
  | .ptr d => uptoBulk d + 1
  | .slice elems spare => uptoBulkAll elems + uptoBulkAll spare + 1
  | .agg parts => uptoBulkAll parts + 1
  | .iface _ d => uptoBulk d + 1
  | .map entries => uptoBulkEntries entries + 1
  | .held _ => 1
def uptoBulkAll {H : Type} : List (DataW H) → Nat
  | [] => 0
  | d :: r => uptoBulk d + uptoBulkAll r
def uptoBulkEntries {H : Type} : List (Lit × DataW H) → Nat
  | [] => 0
  | x :: r => uptoBulkEntry x + uptoBulkEntries r
def uptoBulkEntry {H : Type} : Lit × DataW H → Nat
  | (.string bytes, d) => bytes.length + uptoBulk d + 1
  | (_, d) => uptoBulk d + 1
 end
def uptoSmall : (H : Type) → List (DataW H) → Bool := fun _ ds => decide (uptoBulkAll ds ≤ 1048576)
def OpenSpec.upto (s : _root_.Go.ChangeSpec) : _root_.Go.OpenSpec := { _root_.Go.OpenSpec.ofChange s with cond := some uptoSmall }

/-- 'gouachelaw18.GraphDeps', WHERE WHAT IT READS IS OF BULK AT MOST 1048576: true; the input reads as it did. -/
def graphDepsUptoRow : OpenClaim := { program := "ytbpklgllihhgpaagreat", sum := "f8901befbbf8f32fe186fd0837d0384ec17a641249255a307557e5f672abdb8e", func := "gouache/gouachelaw18.GraphDeps", spec := "graphDeps", inPlace := ["internal/bytealg.IndexByteString", "internal/bytealg.IndexString"], unfollowed := true, recurses := true, named := ["internal/bytealg.MaxLen"], apart := false, narrowed := true }
def GraphDepsUptoSaid : Prop := graphDepsUptoRow.holds Tryz.pinned (OpenSpec.upto graphDepsSpec)

/-- 'gouachelaw18.GraphAreas', WHERE WHAT IT READS IS OF BULK AT MOST 1048576: true; the input reads as it did. -/
def graphAreasUptoRow : OpenClaim := { program := "ytbpklgllihhgpaagreat", sum := "f8901befbbf8f32fe186fd0837d0384ec17a641249255a307557e5f672abdb8e", func := "gouache/gouachelaw18.GraphAreas", spec := "graphAreas", inPlace := ["internal/bytealg.IndexByteString", "internal/bytealg.IndexString"], unfollowed := true, recurses := true, named := ["internal/bytealg.MaxLen"], apart := false, narrowed := true }
def GraphAreasUptoSaid : Prop := graphAreasUptoRow.holds Tryz.pinned (OpenSpec.upto graphAreasSpec)

/-- 'gouachelaw18.GraphEnds', WHERE WHAT IT READS IS OF BULK AT MOST 1048576: true; the input reads as it did. -/
def graphEndsUptoRow : OpenClaim := { program := "ytbpklgllihhgpaagreat", sum := "f8901befbbf8f32fe186fd0837d0384ec17a641249255a307557e5f672abdb8e", func := "gouache/gouachelaw18.GraphEnds", spec := "graphEnds", inPlace := ["internal/bytealg.IndexByteString", "internal/bytealg.IndexString"], unfollowed := true, recurses := true, named := ["internal/bytealg.MaxLen"], apart := false, narrowed := true }
def GraphEndsUptoSaid : Prop := graphEndsUptoRow.holds Tryz.pinned (OpenSpec.upto graphEndsSpec)

/-- 'gouachelaw18.GraphCaches', WHERE WHAT IT READS IS OF BULK AT MOST 1048576: true; the input reads as it did. -/
def graphCachesUptoRow : OpenClaim := { program := "ytbpklgllihhgpaagreat", sum := "f8901befbbf8f32fe186fd0837d0384ec17a641249255a307557e5f672abdb8e", func := "gouache/gouachelaw18.GraphCaches", spec := "graphCaches", inPlace := ["internal/bytealg.IndexByteString", "internal/bytealg.IndexString"], unfollowed := true, recurses := true, named := ["internal/bytealg.MaxLen"], apart := false, narrowed := true }
def GraphCachesUptoSaid : Prop := graphCachesUptoRow.holds Tryz.pinned (OpenSpec.upto graphCachesSpec)

/-- 'gouachelaw18.GraphNil', WHERE WHAT IT READS IS OF BULK AT MOST 1048576: true; the input reads as it did. -/
def graphNilUptoRow : OpenClaim := { program := "ytbpklgllihhgpaagreat", sum := "f8901befbbf8f32fe186fd0837d0384ec17a641249255a307557e5f672abdb8e", func := "gouache/gouachelaw18.GraphNil", spec := "graphNil", inPlace := ["internal/bytealg.IndexByteString", "internal/bytealg.IndexString"], unfollowed := true, recurses := true, named := ["internal/bytealg.MaxLen"], apart := false, narrowed := true }
def GraphNilUptoSaid : Prop := graphNilUptoRow.holds Tryz.pinned (OpenSpec.upto graphNilSpec)

end Rows
end Go.Proofs.YtbpklgllihhgpaaGreat
