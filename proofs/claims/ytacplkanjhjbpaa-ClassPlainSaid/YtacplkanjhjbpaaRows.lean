/-
  No cell of these rows narrows 'for every input' (looked for: loops, veiled, ifaces, maps, wideKeys, modest, calm, conditions, laid).
  DERIVED. THE GIVEN ROWS OF THIS SEAT. 6 by the template 'for every input the law returns true; each argument reads behind the call as it read before'; 0 by the template 'total and deterministic' (their statements: YtacplkanjhjbpaaTotals.lean).
  GIVEN WITH THE SEED: the statements are not yours to turn. If you find one false, say at which input.
  Laid BY PROGRAM, IN A SANDBOX (cutbox-rows.mjs): the forced cells as the released guide's own fill.sh prints them over the translation d830861bb9a59890… (all of the seat's roots in one cut). By AI agents, Wed Nov 11 2026. No macro, syntax, notation, axiom, sorry.
-/
import Derived.Test.YtacplkanjhjbpaaChecked
import GoSem.Claim
import GoSem.ClaimJoined
import GoSem.ClaimMapViews
import Derived.JoinedTies
import Derived.KernelRfl
namespace Go.Proofs.Ytacplkanjhjbpaa
/- THE CELL 'sum', in the pinned program and in every row, IS THE sha256 OF THE DUMP (.gsa) THAT YtacplkanjhjbpaaProg.lean LOADS. Nothing in Lean hashes anything: it is a label: what it is worth is what the hold of that sum in a sandbox is worth. -/
noncomputable def Try.pinned : Pinned := { name := "ytacplkanjhjbpaa", sum := "d830861bb9a59890601ed27dffb3786079ee6333518a4d308b0c3c9aee044131", checked := Try.checked }
namespace Rows
def none {H : Type} : Left H := { results := [], args := [] }

/-- 'permafrostlaw08.ClassChooses': WHATEVER THE INPUT: true; the input reads as it did. -/
def classChoosesSpec : ChangeSpec := { name := "classChooses", fn := fun _ => fun
  | [d1, d2, d3] => { results := [.lit (.bool true)], args := [d1, d2, d3] }
  | _ => none }
def classChoosesRow : OpenClaim := { program := "ytacplkanjhjbpaa", sum := "d830861bb9a59890601ed27dffb3786079ee6333518a4d308b0c3c9aee044131", func := "permafrost/permafrostlaw08.ClassChooses", spec := "classChooses", apart := false }
def ClassChoosesSaid : Prop := classChoosesRow.holds Try.pinned (OpenSpec.ofChange classChoosesSpec)

/-- ITS FALSE NEIGHBOUR: 'it returns false'. Refute it at one input. -/
def classChoosesWrong : ChangeSpec := { name := "classChooses", fn := fun _ => fun
  | [d1, d2, d3] => { results := [.lit (.bool false)], args := [d1, d2, d3] }
  | _ => none }
def ClassChoosesWrongFalsely : Prop := classChoosesRow.holds Try.pinned (OpenSpec.ofChange classChoosesWrong)

/-- 'permafrostlaw08.ClassRoom': WHATEVER THE INPUT: true; the input reads as it did. -/
def classRoomSpec : ChangeSpec := { name := "classRoom", fn := fun _ => fun
  | [d] => { results := [.lit (.bool true)], args := [d] }
  | _ => none }
def classRoomRow : OpenClaim := { program := "ytacplkanjhjbpaa", sum := "d830861bb9a59890601ed27dffb3786079ee6333518a4d308b0c3c9aee044131", func := "permafrost/permafrostlaw08.ClassRoom", spec := "classRoom", apart := false }
def ClassRoomSaid : Prop := classRoomRow.holds Try.pinned (OpenSpec.ofChange classRoomSpec)

/-- ITS FALSE NEIGHBOUR: 'it returns false'. Refute it at one input. -/
def classRoomWrong : ChangeSpec := { name := "classRoom", fn := fun _ => fun
  | [d] => { results := [.lit (.bool false)], args := [d] }
  | _ => none }
def ClassRoomWrongFalsely : Prop := classRoomRow.holds Try.pinned (OpenSpec.ofChange classRoomWrong)

/-- 'permafrostlaw08.ClassPlain': WHATEVER THE INPUT: true; the input reads as it did. -/
def classPlainSpec : ChangeSpec := { name := "classPlain", fn := fun _ => fun
  | [d] => { results := [.lit (.bool true)], args := [d] }
  | _ => none }
def classPlainRow : OpenClaim := { program := "ytacplkanjhjbpaa", sum := "d830861bb9a59890601ed27dffb3786079ee6333518a4d308b0c3c9aee044131", func := "permafrost/permafrostlaw08.ClassPlain", spec := "classPlain", apart := false }
def ClassPlainSaid : Prop := classPlainRow.holds Try.pinned (OpenSpec.ofChange classPlainSpec)

/-- ITS FALSE NEIGHBOUR: 'it returns false'. Refute it at one input. -/
def classPlainWrong : ChangeSpec := { name := "classPlain", fn := fun _ => fun
  | [d] => { results := [.lit (.bool false)], args := [d] }
  | _ => none }
def ClassPlainWrongFalsely : Prop := classPlainRow.holds Try.pinned (OpenSpec.ofChange classPlainWrong)

/-- 'permafrostlaw08.ClassMirror': WHATEVER THE INPUT: true; the input reads as it did. -/
def classMirrorSpec : ChangeSpec := { name := "classMirror", fn := fun _ => fun
  | [d] => { results := [.lit (.bool true)], args := [d] }
  | _ => none }
def classMirrorRow : OpenClaim := { program := "ytacplkanjhjbpaa", sum := "d830861bb9a59890601ed27dffb3786079ee6333518a4d308b0c3c9aee044131", func := "permafrost/permafrostlaw08.ClassMirror", spec := "classMirror", apart := false }
def ClassMirrorSaid : Prop := classMirrorRow.holds Try.pinned (OpenSpec.ofChange classMirrorSpec)

/-- ITS FALSE NEIGHBOUR: 'it returns false'. Refute it at one input. -/
def classMirrorWrong : ChangeSpec := { name := "classMirror", fn := fun _ => fun
  | [d] => { results := [.lit (.bool false)], args := [d] }
  | _ => none }
def ClassMirrorWrongFalsely : Prop := classMirrorRow.holds Try.pinned (OpenSpec.ofChange classMirrorWrong)

/-- 'permafrostlaw08.ClassMore': WHATEVER THE INPUT: true; the input reads as it did. -/
def classMoreSpec : ChangeSpec := { name := "classMore", fn := fun _ => fun
  | [d1, d2] => { results := [.lit (.bool true)], args := [d1, d2] }
  | _ => none }
def classMoreRow : OpenClaim := { program := "ytacplkanjhjbpaa", sum := "d830861bb9a59890601ed27dffb3786079ee6333518a4d308b0c3c9aee044131", func := "permafrost/permafrostlaw08.ClassMore", spec := "classMore", apart := false }
def ClassMoreSaid : Prop := classMoreRow.holds Try.pinned (OpenSpec.ofChange classMoreSpec)

/-- ITS FALSE NEIGHBOUR: 'it returns false'. Refute it at one input. -/
def classMoreWrong : ChangeSpec := { name := "classMore", fn := fun _ => fun
  | [d1, d2] => { results := [.lit (.bool false)], args := [d1, d2] }
  | _ => none }
def ClassMoreWrongFalsely : Prop := classMoreRow.holds Try.pinned (OpenSpec.ofChange classMoreWrong)

/-- 'permafrostlaw08.ClassNeeds': WHATEVER THE INPUT: true; the input reads as it did. -/
def classNeedsSpec : ChangeSpec := { name := "classNeeds", fn := fun _ => fun
  | [d1, d2, d3] => { results := [.lit (.bool true)], args := [d1, d2, d3] }
  | _ => none }
def classNeedsRow : OpenClaim := { program := "ytacplkanjhjbpaa", sum := "d830861bb9a59890601ed27dffb3786079ee6333518a4d308b0c3c9aee044131", func := "permafrost/permafrostlaw08.ClassNeeds", spec := "classNeeds", apart := false }
def ClassNeedsSaid : Prop := classNeedsRow.holds Try.pinned (OpenSpec.ofChange classNeedsSpec)

/-- ITS FALSE NEIGHBOUR: 'it returns false'. Refute it at one input. -/
def classNeedsWrong : ChangeSpec := { name := "classNeeds", fn := fun _ => fun
  | [d1, d2, d3] => { results := [.lit (.bool false)], args := [d1, d2, d3] }
  | _ => none }
def ClassNeedsWrongFalsely : Prop := classNeedsRow.holds Try.pinned (OpenSpec.ofChange classNeedsWrong)

/- THE SECOND FORM. 'bulk': how many values and letters a reading holds, each counted each time it is reached (what is shared counts as often as it is met; a slice's spare places count too). A statement '..UptoSaid' is the law's where the arguments, and the package variables that the reading takes, are together of bulk at most 1048576: NARROWER than '..Said'. Prove '..Said' where nothing that the law and all that it calls make is longer than what came in: it says more and counts as full. Else prove '..UptoSaid'. A law counts once. -/
mutual
def uptoBulk {H : Type} : DataW H → Nat
  | .lit (.string bytes) => bytes.length + 1
  | .lit _ => 1
  | .nil => 1
  | .ptr d => uptoBulk d + 1
  | .slice elems spare => uptoBulkAll elems + uptoBulkAll spare + 1
  | .agg parts => uptoBulkAll parts + 1
  | .iface _ d => uptoBulk d + 1
  | .map entries => uptoBulkEntries entries + 1
  | .held _ => 1
def uptoBulkAll {H : Type} : List (DataW H) → Nat
  | [] => 0
  | d :: r => uptoBulk d + uptoBulkAll r
def uptoBulkEntries {H : Type} : List (Lit × DataW H) → Nat
  | [] => 0
  | x :: r => uptoBulkEntry x + uptoBulkEntries r
def uptoBulkEntry {H : Type} : Lit × DataW H → Nat
  | (.string bytes, d) => bytes.length + uptoBulk d + 1
  | (_, d) => uptoBulk d + 1
 end
def uptoSmall : (H : Type) → List (DataW H) → Bool := fun _ ds => decide (uptoBulkAll ds ≤ 1048576)
def OpenSpec.upto (s : _root_.Go.ChangeSpec) : _root_.Go.OpenSpec := { _root_.Go.OpenSpec.ofChange s with cond := some uptoSmall }

/-- 'permafrostlaw08.ClassChooses', WHERE WHAT IT READS IS OF BULK AT MOST 1048576: true; the input reads as it did. -/
def classChoosesUptoRow : OpenClaim := { program := "ytacplkanjhjbpaa", sum := "d830861bb9a59890601ed27dffb3786079ee6333518a4d308b0c3c9aee044131", func := "permafrost/permafrostlaw08.ClassChooses", spec := "classChooses", apart := false, narrowed := true }
def ClassChoosesUptoSaid : Prop := classChoosesUptoRow.holds Try.pinned (OpenSpec.upto classChoosesSpec)

/-- 'permafrostlaw08.ClassRoom', WHERE WHAT IT READS IS OF BULK AT MOST 1048576: true; the input reads as it did. -/
def classRoomUptoRow : OpenClaim := { program := "ytacplkanjhjbpaa", sum := "d830861bb9a59890601ed27dffb3786079ee6333518a4d308b0c3c9aee044131", func := "permafrost/permafrostlaw08.ClassRoom", spec := "classRoom", apart := false, narrowed := true }
def ClassRoomUptoSaid : Prop := classRoomUptoRow.holds Try.pinned (OpenSpec.upto classRoomSpec)

/-- 'permafrostlaw08.ClassPlain', WHERE WHAT IT READS IS OF BULK AT MOST 1048576: true; the input reads as it did. -/
def classPlainUptoRow : OpenClaim := { program := "ytacplkanjhjbpaa", sum := "d830861bb9a59890601ed27dffb3786079ee6333518a4d308b0c3c9aee044131", func := "permafrost/permafrostlaw08.ClassPlain", spec := "classPlain", apart := false, narrowed := true }
def ClassPlainUptoSaid : Prop := classPlainUptoRow.holds Try.pinned (OpenSpec.upto classPlainSpec)

/-- 'permafrostlaw08.ClassMirror', WHERE WHAT IT READS IS OF BULK AT MOST 1048576: true; the input reads as it did. -/
def classMirrorUptoRow : OpenClaim := { program := "ytacplkanjhjbpaa", sum := "d830861bb9a59890601ed27dffb3786079ee6333518a4d308b0c3c9aee044131", func := "permafrost/permafrostlaw08.ClassMirror", spec := "classMirror", apart := false, narrowed := true }
def ClassMirrorUptoSaid : Prop := classMirrorUptoRow.holds Try.pinned (OpenSpec.upto classMirrorSpec)

/-- 'permafrostlaw08.ClassMore', WHERE WHAT IT READS IS OF BULK AT MOST 1048576: true; the input reads as it did. -/
def classMoreUptoRow : OpenClaim := { program := "ytacplkanjhjbpaa", sum := "d830861bb9a59890601ed27dffb3786079ee6333518a4d308b0c3c9aee044131", func := "permafrost/permafrostlaw08.ClassMore", spec := "classMore", apart := false, narrowed := true }
def ClassMoreUptoSaid : Prop := classMoreUptoRow.holds Try.pinned (OpenSpec.upto classMoreSpec)

/-- 'permafrostlaw08.ClassNeeds', WHERE WHAT IT READS IS OF BULK AT MOST 1048576: true; the input reads as it did. -/
def classNeedsUptoRow : OpenClaim := { program := "ytacplkanjhjbpaa", sum := "d830861bb9a59890601ed27dffb3786079ee6333518a4d308b0c3c9aee044131", func := "permafrost/permafrostlaw08.ClassNeeds", spec := "classNeeds", apart := false, narrowed := true }
def ClassNeedsUptoSaid : Prop := classNeedsUptoRow.holds Try.pinned (OpenSpec.upto classNeedsSpec)

end Rows
end Go.Proofs.Ytacplkanjhjbpaa
