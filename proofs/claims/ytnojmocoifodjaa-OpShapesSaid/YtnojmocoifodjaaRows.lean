/-
  NARROWER THAN 'FOR EVERY INPUT', by the rows' own cells (each row's printed sentence says how): GenAny: loops · ExprTwo: loops.
  DERIVED. THE GIVEN ROWS OF THIS SEAT. 10 by the template 'for every input the law returns true; each argument reads behind the call as it read before'; 0 by the template 'total and deterministic' (their statements: YtnojmocoifodjaaTotals.lean).
  GIVEN WITH THE SEED: the statements are not yours to turn. If you find one false, say at which input.
  Laid BY PROGRAM, IN A SANDBOX (cutbox-rows.mjs): the forced cells as the released guide's own fill.sh prints them over the translation e1d0ce7edaaadd04… (all of the seat's roots in one cut). By AI agents, Wed Nov 11 2026. No macro, syntax, notation, axiom, sorry.
-/
import Derived.Test.YtnojmocoifodjaaChecked
import GoSem.Claim
import GoSem.ClaimJoined
import GoSem.ClaimMapViews
import Derived.JoinedTies
import Derived.KernelRfl
namespace Go.Proofs.Ytnojmocoifodjaa
/- THE CELL 'sum', in the pinned program and in every row, IS THE sha256 OF THE DUMP (.gsa) THAT YtnojmocoifodjaaProg.lean LOADS. Nothing in Lean hashes anything: it is a label: what it is worth is what the hold of that sum in a sandbox is worth. -/
noncomputable def Try.pinned : Pinned := { name := "ytnojmocoifodjaa", sum := "e1d0ce7edaaadd04755c23e969fea6777bd69d054c539ac0d032ad515bc4c200", checked := Try.checked }
namespace Rows
def none {H : Type} : Left H := { results := [], args := [] }

/-- 'runnellaw12.GenAny': WHATEVER THE INPUT: true; the input reads as it did. -/
def genAnySpec : ChangeSpec := { name := "genAny", fn := fun _ => fun
  | [d1, d2] => { results := [.lit (.bool true)], args := [d1, d2] }
  | _ => none }
def genAnyRow : OpenClaim := { program := "ytnojmocoifodjaa", sum := "e1d0ce7edaaadd04755c23e969fea6777bd69d054c539ac0d032ad515bc4c200", func := "runnel/runnellaw12.GenAny", spec := "genAny", unfollowed := true, recurses := true, loops := true, apart := false }
def GenAnySaid : Prop := genAnyRow.holds Try.pinned (OpenSpec.ofChange genAnySpec)

/-- ITS FALSE NEIGHBOUR: 'it returns false'. Refute it at one input. -/
def genAnyWrong : ChangeSpec := { name := "genAny", fn := fun _ => fun
  | [d1, d2] => { results := [.lit (.bool false)], args := [d1, d2] }
  | _ => none }
def GenAnyWrongFalsely : Prop := genAnyRow.holds Try.pinned (OpenSpec.ofChange genAnyWrong)

/-- 'runnellaw12.GenSizes': WHATEVER THE INPUT: true; the input reads as it did. -/
def genSizesSpec : ChangeSpec := { name := "genSizes", fn := fun _ => fun
  | [d] => { results := [.lit (.bool true)], args := [d] }
  | _ => none }
def genSizesRow : OpenClaim := { program := "ytnojmocoifodjaa", sum := "e1d0ce7edaaadd04755c23e969fea6777bd69d054c539ac0d032ad515bc4c200", func := "runnel/runnellaw12.GenSizes", spec := "genSizes", unfollowed := true, recurses := true, apart := false }
def GenSizesSaid : Prop := genSizesRow.holds Try.pinned (OpenSpec.ofChange genSizesSpec)

/-- ITS FALSE NEIGHBOUR: 'it returns false'. Refute it at one input. -/
def genSizesWrong : ChangeSpec := { name := "genSizes", fn := fun _ => fun
  | [d] => { results := [.lit (.bool false)], args := [d] }
  | _ => none }
def GenSizesWrongFalsely : Prop := genSizesRow.holds Try.pinned (OpenSpec.ofChange genSizesWrong)

/-- 'runnellaw1.TypeTexts': WHATEVER THE INPUT: true; the input reads as it did. -/
def typeTextsSpec : ChangeSpec := { name := "typeTexts", fn := fun _ => fun
  | [d] => { results := [.lit (.bool true)], args := [d] }
  | _ => none }
def typeTextsRow : OpenClaim := { program := "ytnojmocoifodjaa", sum := "e1d0ce7edaaadd04755c23e969fea6777bd69d054c539ac0d032ad515bc4c200", func := "runnel/runnellaw1.TypeTexts", spec := "typeTexts", inPlace := ["internal/abi.NoEscape", "internal/bytealg.MakeNoZero"], unfollowed := true, recurses := true, apart := false }
def TypeTextsSaid : Prop := typeTextsRow.holds Try.pinned (OpenSpec.ofChange typeTextsSpec)

/-- ITS FALSE NEIGHBOUR: 'it returns false'. Refute it at one input. -/
def typeTextsWrong : ChangeSpec := { name := "typeTexts", fn := fun _ => fun
  | [d] => { results := [.lit (.bool false)], args := [d] }
  | _ => none }
def TypeTextsWrongFalsely : Prop := typeTextsRow.holds Try.pinned (OpenSpec.ofChange typeTextsWrong)

/-- 'runnellaw1.TypeDeep': WHATEVER THE INPUT: true; the input reads as it did. -/
def typeDeepSpec : ChangeSpec := { name := "typeDeep", fn := fun _ => fun
  | [d] => { results := [.lit (.bool true)], args := [d] }
  | _ => none }
def typeDeepRow : OpenClaim := { program := "ytnojmocoifodjaa", sum := "e1d0ce7edaaadd04755c23e969fea6777bd69d054c539ac0d032ad515bc4c200", func := "runnel/runnellaw1.TypeDeep", spec := "typeDeep", inPlace := ["internal/abi.NoEscape", "internal/bytealg.MakeNoZero"], unfollowed := true, recurses := true, apart := false }
def TypeDeepSaid : Prop := typeDeepRow.holds Try.pinned (OpenSpec.ofChange typeDeepSpec)

/-- ITS FALSE NEIGHBOUR: 'it returns false'. Refute it at one input. -/
def typeDeepWrong : ChangeSpec := { name := "typeDeep", fn := fun _ => fun
  | [d] => { results := [.lit (.bool false)], args := [d] }
  | _ => none }
def TypeDeepWrongFalsely : Prop := typeDeepRow.holds Try.pinned (OpenSpec.ofChange typeDeepWrong)

/-- 'runnellaw1.TypeWide': WHATEVER THE INPUT: true; the input reads as it did. -/
def typeWideSpec : ChangeSpec := { name := "typeWide", fn := fun _ => fun
  | [d1, d2] => { results := [.lit (.bool true)], args := [d1, d2] }
  | _ => none }
def typeWideRow : OpenClaim := { program := "ytnojmocoifodjaa", sum := "e1d0ce7edaaadd04755c23e969fea6777bd69d054c539ac0d032ad515bc4c200", func := "runnel/runnellaw1.TypeWide", spec := "typeWide", inPlace := ["internal/abi.NoEscape", "internal/bytealg.MakeNoZero"], unfollowed := true, recurses := true, apart := false }
def TypeWideSaid : Prop := typeWideRow.holds Try.pinned (OpenSpec.ofChange typeWideSpec)

/-- ITS FALSE NEIGHBOUR: 'it returns false'. Refute it at one input. -/
def typeWideWrong : ChangeSpec := { name := "typeWide", fn := fun _ => fun
  | [d1, d2] => { results := [.lit (.bool false)], args := [d1, d2] }
  | _ => none }
def TypeWideWrongFalsely : Prop := typeWideRow.holds Try.pinned (OpenSpec.ofChange typeWideWrong)

/-- 'runnellaw4.ExprTwo': WHATEVER THE INPUT: true; the input reads as it did. -/
def exprTwoSpec : ChangeSpec := { name := "exprTwo", fn := fun _ => fun
  | [d1, d2, d3] => { results := [.lit (.bool true)], args := [d1, d2, d3] }
  | _ => none }
def exprTwoRow : OpenClaim := { program := "ytnojmocoifodjaa", sum := "e1d0ce7edaaadd04755c23e969fea6777bd69d054c539ac0d032ad515bc4c200", func := "runnel/runnellaw4.ExprTwo", spec := "exprTwo", inPlace := ["internal/bytealg.abigen_runtime_cmpstring"], unfollowed := true, recurses := true, loops := true, apart := false }
def ExprTwoSaid : Prop := exprTwoRow.holds Try.pinned (OpenSpec.ofChange exprTwoSpec)

/-- ITS FALSE NEIGHBOUR: 'it returns false'. Refute it at one input. -/
def exprTwoWrong : ChangeSpec := { name := "exprTwo", fn := fun _ => fun
  | [d1, d2, d3] => { results := [.lit (.bool false)], args := [d1, d2, d3] }
  | _ => none }
def ExprTwoWrongFalsely : Prop := exprTwoRow.holds Try.pinned (OpenSpec.ofChange exprTwoWrong)

/-- 'runnellaw4.ExprNest': WHATEVER THE INPUT: true; the input reads as it did. -/
def exprNestSpec : ChangeSpec := { name := "exprNest", fn := fun _ => fun
  | [d1, d2] => { results := [.lit (.bool true)], args := [d1, d2] }
  | _ => none }
def exprNestRow : OpenClaim := { program := "ytnojmocoifodjaa", sum := "e1d0ce7edaaadd04755c23e969fea6777bd69d054c539ac0d032ad515bc4c200", func := "runnel/runnellaw4.ExprNest", spec := "exprNest", inPlace := ["internal/bytealg.abigen_runtime_cmpstring"], unfollowed := true, recurses := true, apart := false }
def ExprNestSaid : Prop := exprNestRow.holds Try.pinned (OpenSpec.ofChange exprNestSpec)

/-- ITS FALSE NEIGHBOUR: 'it returns false'. Refute it at one input. -/
def exprNestWrong : ChangeSpec := { name := "exprNest", fn := fun _ => fun
  | [d1, d2] => { results := [.lit (.bool false)], args := [d1, d2] }
  | _ => none }
def ExprNestWrongFalsely : Prop := exprNestRow.holds Try.pinned (OpenSpec.ofChange exprNestWrong)

/-- 'runnellaw8.GraphGrows': WHATEVER THE INPUT: true; the input reads as it did. -/
def graphGrowsSpec : ChangeSpec := { name := "graphGrows", fn := fun _ => fun
  | [d] => { results := [.lit (.bool true)], args := [d] }
  | _ => none }
def graphGrowsRow : OpenClaim := { program := "ytnojmocoifodjaa", sum := "e1d0ce7edaaadd04755c23e969fea6777bd69d054c539ac0d032ad515bc4c200", func := "runnel/runnellaw8.GraphGrows", spec := "graphGrows", inPlace := ["internal/bytealg.abigen_runtime_cmpstring"], unfollowed := true, recurses := true, apart := false }
def GraphGrowsSaid : Prop := graphGrowsRow.holds Try.pinned (OpenSpec.ofChange graphGrowsSpec)

/-- ITS FALSE NEIGHBOUR: 'it returns false'. Refute it at one input. -/
def graphGrowsWrong : ChangeSpec := { name := "graphGrows", fn := fun _ => fun
  | [d] => { results := [.lit (.bool false)], args := [d] }
  | _ => none }
def GraphGrowsWrongFalsely : Prop := graphGrowsRow.holds Try.pinned (OpenSpec.ofChange graphGrowsWrong)

/-- 'runnellaw7.OpShapes': WHATEVER THE INPUT: true; the input reads as it did. -/
def opShapesSpec : ChangeSpec := { name := "opShapes", fn := fun _ => fun
  | [d1, d2] => { results := [.lit (.bool true)], args := [d1, d2] }
  | _ => none }
def opShapesRow : OpenClaim := { program := "ytnojmocoifodjaa", sum := "e1d0ce7edaaadd04755c23e969fea6777bd69d054c539ac0d032ad515bc4c200", func := "runnel/runnellaw7.OpShapes", spec := "opShapes", inPlace := ["internal/bytealg.abigen_runtime_cmpstring", "internal/abi.NoEscape", "internal/bytealg.MakeNoZero"], unfollowed := true, recurses := true, apart := false }
def OpShapesSaid : Prop := opShapesRow.holds Try.pinned (OpenSpec.ofChange opShapesSpec)

/-- ITS FALSE NEIGHBOUR: 'it returns false'. Refute it at one input. -/
def opShapesWrong : ChangeSpec := { name := "opShapes", fn := fun _ => fun
  | [d1, d2] => { results := [.lit (.bool false)], args := [d1, d2] }
  | _ => none }
def OpShapesWrongFalsely : Prop := opShapesRow.holds Try.pinned (OpenSpec.ofChange opShapesWrong)

/-- 'runnellaw7.OpFields': WHATEVER THE INPUT: true; the input reads as it did. -/
def opFieldsSpec : ChangeSpec := { name := "opFields", fn := fun _ => fun
  | [d1, d2] => { results := [.lit (.bool true)], args := [d1, d2] }
  | _ => none }
def opFieldsRow : OpenClaim := { program := "ytnojmocoifodjaa", sum := "e1d0ce7edaaadd04755c23e969fea6777bd69d054c539ac0d032ad515bc4c200", func := "runnel/runnellaw7.OpFields", spec := "opFields", inPlace := ["internal/bytealg.abigen_runtime_cmpstring", "internal/abi.NoEscape", "internal/bytealg.MakeNoZero"], unfollowed := true, recurses := true, apart := false }
def OpFieldsSaid : Prop := opFieldsRow.holds Try.pinned (OpenSpec.ofChange opFieldsSpec)

/-- ITS FALSE NEIGHBOUR: 'it returns false'. Refute it at one input. -/
def opFieldsWrong : ChangeSpec := { name := "opFields", fn := fun _ => fun
  | [d1, d2] => { results := [.lit (.bool false)], args := [d1, d2] }
  | _ => none }
def OpFieldsWrongFalsely : Prop := opFieldsRow.holds Try.pinned (OpenSpec.ofChange opFieldsWrong)

/- THE SECOND FORM. 'bulk': how many values and letters a reading holds, each counted each time it is reached (what is shared counts as often as it is met; a slice's spare places count too). A statement '..UptoSaid' is the law's where the arguments, and the package variables that the reading takes, are together of bulk at most 1048576: NARROWER than '..Said'. Prove '..Said' where nothing that the law and all that it calls make is longer than what came in: it says more and counts as full. Else prove '..UptoSaid'. A law counts once. -/
mutual
def uptoBulk {H : Type} : DataW H → Nat
  | .lit (.string bytes) => bytes.length + 1
  | .lit _ => 1
  | .nil => 1
  | .ptr d => uptoBulk d + 1
  | .slice elems spare => uptoBulkAll elems + uptoBulkAll spare + 1
  | .agg parts => uptoBulkAll parts + 1
  | .iface _ d => uptoBulk d + 1
  | .map entries => uptoBulkEntries entries + 1
  | .held _ => 1
def uptoBulkAll {H : Type} : List (DataW H) → Nat
  | [] => 0
  | d :: r => uptoBulk d + uptoBulkAll r
def uptoBulkEntries {H : Type} : List (Lit × DataW H) → Nat
  | [] => 0
  | x :: r => uptoBulkEntry x + uptoBulkEntries r
def uptoBulkEntry {H : Type} : Lit × DataW H → Nat
  | (.string bytes, d) => bytes.length + uptoBulk d + 1
  | (_, d) => uptoBulk d + 1
 end
def uptoSmall : (H : Type) → List (DataW H) → Bool := fun _ ds => decide (uptoBulkAll ds ≤ 1048576)
def OpenSpec.upto (s : _root_.Go.ChangeSpec) : _root_.Go.OpenSpec := { _root_.Go.OpenSpec.ofChange s with cond := some uptoSmall }

/-- 'runnellaw12.GenAny', WHERE WHAT IT READS IS OF BULK AT MOST 1048576: true; the input reads as it did. -/
def genAnyUptoRow : OpenClaim := { program := "ytnojmocoifodjaa", sum := "e1d0ce7edaaadd04755c23e969fea6777bd69d054c539ac0d032ad515bc4c200", func := "runnel/runnellaw12.GenAny", spec := "genAny", unfollowed := true, recurses := true, loops := true, apart := false, narrowed := true }
def GenAnyUptoSaid : Prop := genAnyUptoRow.holds Try.pinned (OpenSpec.upto genAnySpec)

/-- 'runnellaw12.GenSizes', WHERE WHAT IT READS IS OF BULK AT MOST 1048576: true; the input reads as it did. -/
def genSizesUptoRow : OpenClaim := { program := "ytnojmocoifodjaa", sum := "e1d0ce7edaaadd04755c23e969fea6777bd69d054c539ac0d032ad515bc4c200", func := "runnel/runnellaw12.GenSizes", spec := "genSizes", unfollowed := true, recurses := true, apart := false, narrowed := true }
def GenSizesUptoSaid : Prop := genSizesUptoRow.holds Try.pinned (OpenSpec.upto genSizesSpec)

/-- 'runnellaw1.TypeTexts', WHERE WHAT IT READS IS OF BULK AT MOST 1048576: true; the input reads as it did. -/
def typeTextsUptoRow : OpenClaim := { program := "ytnojmocoifodjaa", sum := "e1d0ce7edaaadd04755c23e969fea6777bd69d054c539ac0d032ad515bc4c200", func := "runnel/runnellaw1.TypeTexts", spec := "typeTexts", inPlace := ["internal/abi.NoEscape", "internal/bytealg.MakeNoZero"], unfollowed := true, recurses := true, apart := false, narrowed := true }
def TypeTextsUptoSaid : Prop := typeTextsUptoRow.holds Try.pinned (OpenSpec.upto typeTextsSpec)

/-- 'runnellaw1.TypeDeep', WHERE WHAT IT READS IS OF BULK AT MOST 1048576: true; the input reads as it did. -/
def typeDeepUptoRow : OpenClaim := { program := "ytnojmocoifodjaa", sum := "e1d0ce7edaaadd04755c23e969fea6777bd69d054c539ac0d032ad515bc4c200", func := "runnel/runnellaw1.TypeDeep", spec := "typeDeep", inPlace := ["internal/abi.NoEscape", "internal/bytealg.MakeNoZero"], unfollowed := true, recurses := true, apart := false, narrowed := true }
def TypeDeepUptoSaid : Prop := typeDeepUptoRow.holds Try.pinned (OpenSpec.upto typeDeepSpec)

/-- 'runnellaw1.TypeWide', WHERE WHAT IT READS IS OF BULK AT MOST 1048576: true; the input reads as it did. -/
def typeWideUptoRow : OpenClaim := { program := "ytnojmocoifodjaa", sum := "e1d0ce7edaaadd04755c23e969fea6777bd69d054c539ac0d032ad515bc4c200", func := "runnel/runnellaw1.TypeWide", spec := "typeWide", inPlace := ["internal/abi.NoEscape", "internal/bytealg.MakeNoZero"], unfollowed := true, recurses := true, apart := false, narrowed := true }
def TypeWideUptoSaid : Prop := typeWideUptoRow.holds Try.pinned (OpenSpec.upto typeWideSpec)

/-- 'runnellaw4.ExprTwo', WHERE WHAT IT READS IS OF BULK AT MOST 1048576: true; the input reads as it did. -/
def exprTwoUptoRow : OpenClaim := { program := "ytnojmocoifodjaa", sum := "e1d0ce7edaaadd04755c23e969fea6777bd69d054c539ac0d032ad515bc4c200", func := "runnel/runnellaw4.ExprTwo", spec := "exprTwo", inPlace := ["internal/bytealg.abigen_runtime_cmpstring"], unfollowed := true, recurses := true, loops := true, apart := false, narrowed := true }
def ExprTwoUptoSaid : Prop := exprTwoUptoRow.holds Try.pinned (OpenSpec.upto exprTwoSpec)

/-- 'runnellaw4.ExprNest', WHERE WHAT IT READS IS OF BULK AT MOST 1048576: true; the input reads as it did. -/
def exprNestUptoRow : OpenClaim := { program := "ytnojmocoifodjaa", sum := "e1d0ce7edaaadd04755c23e969fea6777bd69d054c539ac0d032ad515bc4c200", func := "runnel/runnellaw4.ExprNest", spec := "exprNest", inPlace := ["internal/bytealg.abigen_runtime_cmpstring"], unfollowed := true, recurses := true, apart := false, narrowed := true }
def ExprNestUptoSaid : Prop := exprNestUptoRow.holds Try.pinned (OpenSpec.upto exprNestSpec)

/-- 'runnellaw8.GraphGrows', WHERE WHAT IT READS IS OF BULK AT MOST 1048576: true; the input reads as it did. -/
def graphGrowsUptoRow : OpenClaim := { program := "ytnojmocoifodjaa", sum := "e1d0ce7edaaadd04755c23e969fea6777bd69d054c539ac0d032ad515bc4c200", func := "runnel/runnellaw8.GraphGrows", spec := "graphGrows", inPlace := ["internal/bytealg.abigen_runtime_cmpstring"], unfollowed := true, recurses := true, apart := false, narrowed := true }
def GraphGrowsUptoSaid : Prop := graphGrowsUptoRow.holds Try.pinned (OpenSpec.upto graphGrowsSpec)

/-- 'runnellaw7.OpShapes', WHERE WHAT IT READS IS OF BULK AT MOST 1048576: true; the input reads as it did. -/
def opShapesUptoRow : OpenClaim := { program := "ytnojmocoifodjaa", sum := "e1d0ce7edaaadd04755c23e969fea6777bd69d054c539ac0d032ad515bc4c200", func := "runnel/runnellaw7.OpShapes", spec := "opShapes", inPlace := ["internal/bytealg.abigen_runtime_cmpstring", "internal/abi.NoEscape", "internal/bytealg.MakeNoZero"], unfollowed := true, recurses := true, apart := false, narrowed := true }
def OpShapesUptoSaid : Prop := opShapesUptoRow.holds Try.pinned (OpenSpec.upto opShapesSpec)

/-- 'runnellaw7.OpFields', WHERE WHAT IT READS IS OF BULK AT MOST 1048576: true; the input reads as it did. -/
def opFieldsUptoRow : OpenClaim := { program := "ytnojmocoifodjaa", sum := "e1d0ce7edaaadd04755c23e969fea6777bd69d054c539ac0d032ad515bc4c200", func := "runnel/runnellaw7.OpFields", spec := "opFields", inPlace := ["internal/bytealg.abigen_runtime_cmpstring", "internal/abi.NoEscape", "internal/bytealg.MakeNoZero"], unfollowed := true, recurses := true, apart := false, narrowed := true }
def OpFieldsUptoSaid : Prop := opFieldsUptoRow.holds Try.pinned (OpenSpec.upto opFieldsSpec)

end Rows
end Go.Proofs.Ytnojmocoifodjaa
