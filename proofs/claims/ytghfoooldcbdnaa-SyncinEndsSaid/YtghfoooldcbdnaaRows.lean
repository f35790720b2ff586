/-
  No cell of these rows narrows 'for every input' (looked for: loops, veiled, ifaces, maps, wideKeys, modest, calm, conditions, laid).
  DERIVED. THE GIVEN ROWS OF THIS SEAT. 17 by the template 'for every input the law returns true; each argument reads behind the call as it read before'; 0 by the template 'total and deterministic' (their statements: YtghfoooldcbdnaaTotals.lean).
  GIVEN WITH THE SEED: the statements are not yours to turn. If you find one false, say at which input.
  Laid BY PROGRAM, IN A SANDBOX (cutbox-rows.mjs): the forced cells as the released guide's own fill.sh prints them over the translation 71213f327398b123… (all of the seat's roots in one cut). By AI agents, Wed Nov 11 2026. No macro, syntax, notation, axiom, sorry.
-/
import Derived.Test.YtghfoooldcbdnaaChecked
import GoSem.Claim
import GoSem.ClaimJoined
import GoSem.ClaimMapViews
import Derived.JoinedTies
import Derived.KernelRfl
namespace Go.Proofs.Ytghfoooldcbdnaa
/- THE CELL 'sum', in the pinned program and in every row, IS THE sha256 OF THE DUMP (.gsa) THAT YtghfoooldcbdnaaProg.lean LOADS. Nothing in Lean hashes anything: it is a label: what it is worth is what the hold of that sum in a sandbox is worth. -/
noncomputable def Try.pinned : Pinned := { name := "ytghfoooldcbdnaa", sum := "71213f327398b123c79ec71f341d74a9c932d20ecb06e0aba73744c3dc76de52", checked := Try.checked }
namespace Rows
def none {H : Type} : Left H := { results := [], args := [] }

/-- 'outriderlaw16.SyncinAll': WHATEVER THE INPUT: true; the input reads as it did. -/
def syncinAllSpec : ChangeSpec := { name := "syncinAll", fn := fun _ => fun
  | [d] => { results := [.lit (.bool true)], args := [d] }
  | _ => none }
def syncinAllRow : OpenClaim := { program := "ytghfoooldcbdnaa", sum := "71213f327398b123c79ec71f341d74a9c932d20ecb06e0aba73744c3dc76de52", func := "outrider/outriderlaw16.SyncinAll", spec := "syncinAll", unfollowed := true, recurses := true, plainKeys := false, apart := false }
def SyncinAllSaid : Prop := syncinAllRow.holds Try.pinned (OpenSpec.ofChange syncinAllSpec)

/-- ITS FALSE NEIGHBOUR: 'it returns false'. Refute it at one input. -/
def syncinAllWrong : ChangeSpec := { name := "syncinAll", fn := fun _ => fun
  | [d] => { results := [.lit (.bool false)], args := [d] }
  | _ => none }
def SyncinAllWrongFalsely : Prop := syncinAllRow.holds Try.pinned (OpenSpec.ofChange syncinAllWrong)

/-- 'outriderlaw16.SyncinOrder': WHATEVER THE INPUT: true; the input reads as it did. -/
def syncinOrderSpec : ChangeSpec := { name := "syncinOrder", fn := fun _ => fun
  | [d] => { results := [.lit (.bool true)], args := [d] }
  | _ => none }
def syncinOrderRow : OpenClaim := { program := "ytghfoooldcbdnaa", sum := "71213f327398b123c79ec71f341d74a9c932d20ecb06e0aba73744c3dc76de52", func := "outrider/outriderlaw16.SyncinOrder", spec := "syncinOrder", unfollowed := true, recurses := true, plainKeys := false, apart := false }
def SyncinOrderSaid : Prop := syncinOrderRow.holds Try.pinned (OpenSpec.ofChange syncinOrderSpec)

/-- ITS FALSE NEIGHBOUR: 'it returns false'. Refute it at one input. -/
def syncinOrderWrong : ChangeSpec := { name := "syncinOrder", fn := fun _ => fun
  | [d] => { results := [.lit (.bool false)], args := [d] }
  | _ => none }
def SyncinOrderWrongFalsely : Prop := syncinOrderRow.holds Try.pinned (OpenSpec.ofChange syncinOrderWrong)

/-- 'outriderlaw16.SyncinAgain': WHATEVER THE INPUT: true; the input reads as it did. -/
def syncinAgainSpec : ChangeSpec := { name := "syncinAgain", fn := fun _ => fun
  | [d1, d2] => { results := [.lit (.bool true)], args := [d1, d2] }
  | _ => none }
def syncinAgainRow : OpenClaim := { program := "ytghfoooldcbdnaa", sum := "71213f327398b123c79ec71f341d74a9c932d20ecb06e0aba73744c3dc76de52", func := "outrider/outriderlaw16.SyncinAgain", spec := "syncinAgain", unfollowed := true, recurses := true, plainKeys := false, apart := false }
def SyncinAgainSaid : Prop := syncinAgainRow.holds Try.pinned (OpenSpec.ofChange syncinAgainSpec)

/-- ITS FALSE NEIGHBOUR: 'it returns false'. Refute it at one input. -/
def syncinAgainWrong : ChangeSpec := { name := "syncinAgain", fn := fun _ => fun
  | [d1, d2] => { results := [.lit (.bool false)], args := [d1, d2] }
  | _ => none }
def SyncinAgainWrongFalsely : Prop := syncinAgainRow.holds Try.pinned (OpenSpec.ofChange syncinAgainWrong)

/-- 'outriderlaw16.SyncinNew': WHATEVER THE INPUT: true; the input reads as it did. -/
def syncinNewSpec : ChangeSpec := { name := "syncinNew", fn := fun _ => fun
  | [d1, d2] => { results := [.lit (.bool true)], args := [d1, d2] }
  | _ => none }
def syncinNewRow : OpenClaim := { program := "ytghfoooldcbdnaa", sum := "71213f327398b123c79ec71f341d74a9c932d20ecb06e0aba73744c3dc76de52", func := "outrider/outriderlaw16.SyncinNew", spec := "syncinNew", unfollowed := true, recurses := true, plainKeys := false, apart := false }
def SyncinNewSaid : Prop := syncinNewRow.holds Try.pinned (OpenSpec.ofChange syncinNewSpec)

/-- ITS FALSE NEIGHBOUR: 'it returns false'. Refute it at one input. -/
def syncinNewWrong : ChangeSpec := { name := "syncinNew", fn := fun _ => fun
  | [d1, d2] => { results := [.lit (.bool false)], args := [d1, d2] }
  | _ => none }
def SyncinNewWrongFalsely : Prop := syncinNewRow.holds Try.pinned (OpenSpec.ofChange syncinNewWrong)

/-- 'outriderlaw15.SyncoutBounds': WHATEVER THE INPUT: true; the input reads as it did. -/
def syncoutBoundsSpec : ChangeSpec := { name := "syncoutBounds", fn := fun _ => fun
  | [d1, d2] => { results := [.lit (.bool true)], args := [d1, d2] }
  | _ => none }
def syncoutBoundsRow : OpenClaim := { program := "ytghfoooldcbdnaa", sum := "71213f327398b123c79ec71f341d74a9c932d20ecb06e0aba73744c3dc76de52", func := "outrider/outriderlaw15.SyncoutBounds", spec := "syncoutBounds", unfollowed := true, recurses := true, plainKeys := false, apart := false }
def SyncoutBoundsSaid : Prop := syncoutBoundsRow.holds Try.pinned (OpenSpec.ofChange syncoutBoundsSpec)

/-- ITS FALSE NEIGHBOUR: 'it returns false'. Refute it at one input. -/
def syncoutBoundsWrong : ChangeSpec := { name := "syncoutBounds", fn := fun _ => fun
  | [d1, d2] => { results := [.lit (.bool false)], args := [d1, d2] }
  | _ => none }
def SyncoutBoundsWrongFalsely : Prop := syncoutBoundsRow.holds Try.pinned (OpenSpec.ofChange syncoutBoundsWrong)

/-- 'outriderlaw14.SyncwireReads': WHATEVER THE INPUT: true; the input reads as it did. -/
def syncwireReadsSpec : ChangeSpec := { name := "syncwireReads", fn := fun _ => fun
  | [d] => { results := [.lit (.bool true)], args := [d] }
  | _ => none }
def syncwireReadsRow : OpenClaim := { program := "ytghfoooldcbdnaa", sum := "71213f327398b123c79ec71f341d74a9c932d20ecb06e0aba73744c3dc76de52", func := "outrider/outriderlaw14.SyncwireReads", spec := "syncwireReads", unfollowed := true, recurses := true, plainKeys := false, apart := false }
def SyncwireReadsSaid : Prop := syncwireReadsRow.holds Try.pinned (OpenSpec.ofChange syncwireReadsSpec)

/-- ITS FALSE NEIGHBOUR: 'it returns false'. Refute it at one input. -/
def syncwireReadsWrong : ChangeSpec := { name := "syncwireReads", fn := fun _ => fun
  | [d] => { results := [.lit (.bool false)], args := [d] }
  | _ => none }
def SyncwireReadsWrongFalsely : Prop := syncwireReadsRow.holds Try.pinned (OpenSpec.ofChange syncwireReadsWrong)

/-- 'outriderlaw16.SyncinEnds': WHATEVER THE INPUT: true; the input reads as it did. -/
def syncinEndsSpec : ChangeSpec := { name := "syncinEnds", fn := fun _ => fun
  | [d] => { results := [.lit (.bool true)], args := [d] }
  | _ => none }
def syncinEndsRow : OpenClaim := { program := "ytghfoooldcbdnaa", sum := "71213f327398b123c79ec71f341d74a9c932d20ecb06e0aba73744c3dc76de52", func := "outrider/outriderlaw16.SyncinEnds", spec := "syncinEnds", unfollowed := true, recurses := true, plainKeys := false, apart := false }
def SyncinEndsSaid : Prop := syncinEndsRow.holds Try.pinned (OpenSpec.ofChange syncinEndsSpec)

/-- ITS FALSE NEIGHBOUR: 'it returns false'. Refute it at one input. -/
def syncinEndsWrong : ChangeSpec := { name := "syncinEnds", fn := fun _ => fun
  | [d] => { results := [.lit (.bool false)], args := [d] }
  | _ => none }
def SyncinEndsWrongFalsely : Prop := syncinEndsRow.holds Try.pinned (OpenSpec.ofChange syncinEndsWrong)

/-- 'outriderlaw14.SyncwireBack': WHATEVER THE INPUT: true; the input reads as it did. -/
def syncwireBackSpec : ChangeSpec := { name := "syncwireBack", fn := fun _ => fun
  | [d1, d2] => { results := [.lit (.bool true)], args := [d1, d2] }
  | _ => none }
def syncwireBackRow : OpenClaim := { program := "ytghfoooldcbdnaa", sum := "71213f327398b123c79ec71f341d74a9c932d20ecb06e0aba73744c3dc76de52", func := "outrider/outriderlaw14.SyncwireBack", spec := "syncwireBack", unfollowed := true, recurses := true, plainKeys := false, apart := false }
def SyncwireBackSaid : Prop := syncwireBackRow.holds Try.pinned (OpenSpec.ofChange syncwireBackSpec)

/-- ITS FALSE NEIGHBOUR: 'it returns false'. Refute it at one input. -/
def syncwireBackWrong : ChangeSpec := { name := "syncwireBack", fn := fun _ => fun
  | [d1, d2] => { results := [.lit (.bool false)], args := [d1, d2] }
  | _ => none }
def SyncwireBackWrongFalsely : Prop := syncwireBackRow.holds Try.pinned (OpenSpec.ofChange syncwireBackWrong)

/-- 'outriderlaw14.SyncwireRoom': WHATEVER THE INPUT: true; the input reads as it did. -/
def syncwireRoomSpec : ChangeSpec := { name := "syncwireRoom", fn := fun _ => fun
  | [d] => { results := [.lit (.bool true)], args := [d] }
  | _ => none }
def syncwireRoomRow : OpenClaim := { program := "ytghfoooldcbdnaa", sum := "71213f327398b123c79ec71f341d74a9c932d20ecb06e0aba73744c3dc76de52", func := "outrider/outriderlaw14.SyncwireRoom", spec := "syncwireRoom", unfollowed := true, recurses := true, plainKeys := false, apart := false }
def SyncwireRoomSaid : Prop := syncwireRoomRow.holds Try.pinned (OpenSpec.ofChange syncwireRoomSpec)

/-- ITS FALSE NEIGHBOUR: 'it returns false'. Refute it at one input. -/
def syncwireRoomWrong : ChangeSpec := { name := "syncwireRoom", fn := fun _ => fun
  | [d] => { results := [.lit (.bool false)], args := [d] }
  | _ => none }
def SyncwireRoomWrongFalsely : Prop := syncwireRoomRow.holds Try.pinned (OpenSpec.ofChange syncwireRoomWrong)

/-- 'outriderlaw14.SyncwireAnswers': WHATEVER THE INPUT: true; the input reads as it did. -/
def syncwireAnswersSpec : ChangeSpec := { name := "syncwireAnswers", fn := fun _ => fun
  | [d1, d2] => { results := [.lit (.bool true)], args := [d1, d2] }
  | _ => none }
def syncwireAnswersRow : OpenClaim := { program := "ytghfoooldcbdnaa", sum := "71213f327398b123c79ec71f341d74a9c932d20ecb06e0aba73744c3dc76de52", func := "outrider/outriderlaw14.SyncwireAnswers", spec := "syncwireAnswers", unfollowed := true, recurses := true, plainKeys := false, apart := false }
def SyncwireAnswersSaid : Prop := syncwireAnswersRow.holds Try.pinned (OpenSpec.ofChange syncwireAnswersSpec)

/-- ITS FALSE NEIGHBOUR: 'it returns false'. Refute it at one input. -/
def syncwireAnswersWrong : ChangeSpec := { name := "syncwireAnswers", fn := fun _ => fun
  | [d1, d2] => { results := [.lit (.bool false)], args := [d1, d2] }
  | _ => none }
def SyncwireAnswersWrongFalsely : Prop := syncwireAnswersRow.holds Try.pinned (OpenSpec.ofChange syncwireAnswersWrong)

/-- 'outriderlaw14.SyncwireCut': WHATEVER THE INPUT: true; the input reads as it did. -/
def syncwireCutSpec : ChangeSpec := { name := "syncwireCut", fn := fun _ => fun
  | [d1, d2, d3] => { results := [.lit (.bool true)], args := [d1, d2, d3] }
  | _ => none }
def syncwireCutRow : OpenClaim := { program := "ytghfoooldcbdnaa", sum := "71213f327398b123c79ec71f341d74a9c932d20ecb06e0aba73744c3dc76de52", func := "outrider/outriderlaw14.SyncwireCut", spec := "syncwireCut", unfollowed := true, recurses := true, plainKeys := false, apart := false }
def SyncwireCutSaid : Prop := syncwireCutRow.holds Try.pinned (OpenSpec.ofChange syncwireCutSpec)

/-- ITS FALSE NEIGHBOUR: 'it returns false'. Refute it at one input. -/
def syncwireCutWrong : ChangeSpec := { name := "syncwireCut", fn := fun _ => fun
  | [d1, d2, d3] => { results := [.lit (.bool false)], args := [d1, d2, d3] }
  | _ => none }
def SyncwireCutWrongFalsely : Prop := syncwireCutRow.holds Try.pinned (OpenSpec.ofChange syncwireCutWrong)

/-- 'outriderlaw14.SyncwireKinds': WHATEVER THE INPUT: true; the input reads as it did. -/
def syncwireKindsSpec : ChangeSpec := { name := "syncwireKinds", fn := fun _ => fun
  | [d] => { results := [.lit (.bool true)], args := [d] }
  | _ => none }
def syncwireKindsRow : OpenClaim := { program := "ytghfoooldcbdnaa", sum := "71213f327398b123c79ec71f341d74a9c932d20ecb06e0aba73744c3dc76de52", func := "outrider/outriderlaw14.SyncwireKinds", spec := "syncwireKinds", unfollowed := true, recurses := true, plainKeys := false, apart := false }
def SyncwireKindsSaid : Prop := syncwireKindsRow.holds Try.pinned (OpenSpec.ofChange syncwireKindsSpec)

/-- ITS FALSE NEIGHBOUR: 'it returns false'. Refute it at one input. -/
def syncwireKindsWrong : ChangeSpec := { name := "syncwireKinds", fn := fun _ => fun
  | [d] => { results := [.lit (.bool false)], args := [d] }
  | _ => none }
def SyncwireKindsWrongFalsely : Prop := syncwireKindsRow.holds Try.pinned (OpenSpec.ofChange syncwireKindsWrong)

/-- 'outriderlaw15.SyncoutKnows': WHATEVER THE INPUT: true; the input reads as it did. -/
def syncoutKnowsSpec : ChangeSpec := { name := "syncoutKnows", fn := fun _ => fun
  | [d1, d2] => { results := [.lit (.bool true)], args := [d1, d2] }
  | _ => none }
def syncoutKnowsRow : OpenClaim := { program := "ytghfoooldcbdnaa", sum := "71213f327398b123c79ec71f341d74a9c932d20ecb06e0aba73744c3dc76de52", func := "outrider/outriderlaw15.SyncoutKnows", spec := "syncoutKnows", unfollowed := true, recurses := true, plainKeys := false, apart := false }
def SyncoutKnowsSaid : Prop := syncoutKnowsRow.holds Try.pinned (OpenSpec.ofChange syncoutKnowsSpec)

/-- ITS FALSE NEIGHBOUR: 'it returns false'. Refute it at one input. -/
def syncoutKnowsWrong : ChangeSpec := { name := "syncoutKnows", fn := fun _ => fun
  | [d1, d2] => { results := [.lit (.bool false)], args := [d1, d2] }
  | _ => none }
def SyncoutKnowsWrongFalsely : Prop := syncoutKnowsRow.holds Try.pinned (OpenSpec.ofChange syncoutKnowsWrong)

/-- 'outriderlaw15.SyncoutAgain': WHATEVER THE INPUT: true; the input reads as it did. -/
def syncoutAgainSpec : ChangeSpec := { name := "syncoutAgain", fn := fun _ => fun
  | [d] => { results := [.lit (.bool true)], args := [d] }
  | _ => none }
def syncoutAgainRow : OpenClaim := { program := "ytghfoooldcbdnaa", sum := "71213f327398b123c79ec71f341d74a9c932d20ecb06e0aba73744c3dc76de52", func := "outrider/outriderlaw15.SyncoutAgain", spec := "syncoutAgain", unfollowed := true, recurses := true, plainKeys := false, apart := false }
def SyncoutAgainSaid : Prop := syncoutAgainRow.holds Try.pinned (OpenSpec.ofChange syncoutAgainSpec)

/-- ITS FALSE NEIGHBOUR: 'it returns false'. Refute it at one input. -/
def syncoutAgainWrong : ChangeSpec := { name := "syncoutAgain", fn := fun _ => fun
  | [d] => { results := [.lit (.bool false)], args := [d] }
  | _ => none }
def SyncoutAgainWrongFalsely : Prop := syncoutAgainRow.holds Try.pinned (OpenSpec.ofChange syncoutAgainWrong)

/-- 'outriderlaw15.SyncoutAll': WHATEVER THE INPUT: true; the input reads as it did. -/
def syncoutAllSpec : ChangeSpec := { name := "syncoutAll", fn := fun _ => fun
  | [d1, d2, d3] => { results := [.lit (.bool true)], args := [d1, d2, d3] }
  | _ => none }
def syncoutAllRow : OpenClaim := { program := "ytghfoooldcbdnaa", sum := "71213f327398b123c79ec71f341d74a9c932d20ecb06e0aba73744c3dc76de52", func := "outrider/outriderlaw15.SyncoutAll", spec := "syncoutAll", unfollowed := true, recurses := true, plainKeys := false, apart := false }
def SyncoutAllSaid : Prop := syncoutAllRow.holds Try.pinned (OpenSpec.ofChange syncoutAllSpec)

/-- ITS FALSE NEIGHBOUR: 'it returns false'. Refute it at one input. -/
def syncoutAllWrong : ChangeSpec := { name := "syncoutAll", fn := fun _ => fun
  | [d1, d2, d3] => { results := [.lit (.bool false)], args := [d1, d2, d3] }
  | _ => none }
def SyncoutAllWrongFalsely : Prop := syncoutAllRow.holds Try.pinned (OpenSpec.ofChange syncoutAllWrong)

/-- 'outriderlaw15.SyncoutLasts': WHATEVER THE INPUT: true; the input reads as it did. -/
def syncoutLastsSpec : ChangeSpec := { name := "syncoutLasts", fn := fun _ => fun
  | [d] => { results := [.lit (.bool true)], args := [d] }
  | _ => none }
def syncoutLastsRow : OpenClaim := { program := "ytghfoooldcbdnaa", sum := "71213f327398b123c79ec71f341d74a9c932d20ecb06e0aba73744c3dc76de52", func := "outrider/outriderlaw15.SyncoutLasts", spec := "syncoutLasts", unfollowed := true, recurses := true, plainKeys := false, apart := false }
def SyncoutLastsSaid : Prop := syncoutLastsRow.holds Try.pinned (OpenSpec.ofChange syncoutLastsSpec)

/-- ITS FALSE NEIGHBOUR: 'it returns false'. Refute it at one input. -/
def syncoutLastsWrong : ChangeSpec := { name := "syncoutLasts", fn := fun _ => fun
  | [d] => { results := [.lit (.bool false)], args := [d] }
  | _ => none }
def SyncoutLastsWrongFalsely : Prop := syncoutLastsRow.holds Try.pinned (OpenSpec.ofChange syncoutLastsWrong)

/-- 'outriderlaw15.SyncoutOther': WHATEVER THE INPUT: true; the input reads as it did. -/
def syncoutOtherSpec : ChangeSpec := { name := "syncoutOther", fn := fun _ => fun
  | [d1, d2, d3] => { results := [.lit (.bool true)], args := [d1, d2, d3] }
  | _ => none }
def syncoutOtherRow : OpenClaim := { program := "ytghfoooldcbdnaa", sum := "71213f327398b123c79ec71f341d74a9c932d20ecb06e0aba73744c3dc76de52", func := "outrider/outriderlaw15.SyncoutOther", spec := "syncoutOther", unfollowed := true, recurses := true, plainKeys := false, apart := false }
def SyncoutOtherSaid : Prop := syncoutOtherRow.holds Try.pinned (OpenSpec.ofChange syncoutOtherSpec)

/-- ITS FALSE NEIGHBOUR: 'it returns false'. Refute it at one input. -/
def syncoutOtherWrong : ChangeSpec := { name := "syncoutOther", fn := fun _ => fun
  | [d1, d2, d3] => { results := [.lit (.bool false)], args := [d1, d2, d3] }
  | _ => none }
def SyncoutOtherWrongFalsely : Prop := syncoutOtherRow.holds Try.pinned (OpenSpec.ofChange syncoutOtherWrong)

/- THE SECOND FORM. 'bulk': how many values and letters a reading holds, each counted each time it is reached (what is shared counts as often as it is met; a slice's spare places count too). A statement '..UptoSaid' is the law's where the arguments, and the package variables that the reading takes, are together of bulk at most 1048576: NARROWER than '..Said'. Prove '..Said' where nothing that the law and all that it calls make is longer than what came in: it says more and counts as full. Else prove '..UptoSaid'. A law counts once. -/
mutual
def uptoBulk {H : Type} : DataW H → Nat
  | .lit (.string bytes) => bytes.length + 1
  | .lit _ => 1
  | .nil => 1
  | .ptr d => uptoBulk d + 1
  | .slice elems spare => uptoBulkAll elems + uptoBulkAll spare + 1
  | .agg parts => uptoBulkAll parts + 1
  | .iface _ d => uptoBulk d + 1
  | .map entries => uptoBulkEntries entries + 1
  | .held _ => 1
def uptoBulkAll {H : Type} : List (DataW H) → Nat
  | [] => 0
  | d :: r => uptoBulk d + uptoBulkAll r
def uptoBulkEntries {H : Type} : List (Lit × DataW H) → Nat
  | [] => 0
  | x :: r => uptoBulkEntry x + uptoBulkEntries r
def uptoBulkEntry {H : Type} : Lit × DataW H → Nat
  | (.string bytes, d) => bytes.length + uptoBulk d + 1
  | (_, d) => uptoBulk d + 1
 end
def uptoSmall : (H : Type) → List (DataW H) → Bool := fun _ ds => decide (uptoBulkAll ds ≤ 1048576)
def OpenSpec.upto (s : _root_.Go.ChangeSpec) : _root_.Go.OpenSpec := { _root_.Go.OpenSpec.ofChange s with cond := some uptoSmall }

/-- 'outriderlaw16.SyncinAll', WHERE WHAT IT READS IS OF BULK AT MOST 1048576: true; the input reads as it did. -/
def syncinAllUptoRow : OpenClaim := { program := "ytghfoooldcbdnaa", sum := "71213f327398b123c79ec71f341d74a9c932d20ecb06e0aba73744c3dc76de52", func := "outrider/outriderlaw16.SyncinAll", spec := "syncinAll", unfollowed := true, recurses := true, plainKeys := false, apart := false, narrowed := true }
def SyncinAllUptoSaid : Prop := syncinAllUptoRow.holds Try.pinned (OpenSpec.upto syncinAllSpec)

/-- 'outriderlaw16.SyncinOrder', WHERE WHAT IT READS IS OF BULK AT MOST 1048576: true; the input reads as it did. -/
def syncinOrderUptoRow : OpenClaim := { program := "ytghfoooldcbdnaa", sum := "71213f327398b123c79ec71f341d74a9c932d20ecb06e0aba73744c3dc76de52", func := "outrider/outriderlaw16.SyncinOrder", spec := "syncinOrder", unfollowed := true, recurses := true, plainKeys := false, apart := false, narrowed := true }
def SyncinOrderUptoSaid : Prop := syncinOrderUptoRow.holds Try.pinned (OpenSpec.upto syncinOrderSpec)

/-- 'outriderlaw16.SyncinAgain', WHERE WHAT IT READS IS OF BULK AT MOST 1048576: true; the input reads as it did. -/
def syncinAgainUptoRow : OpenClaim := { program := "ytghfoooldcbdnaa", sum := "71213f327398b123c79ec71f341d74a9c932d20ecb06e0aba73744c3dc76de52", func := "outrider/outriderlaw16.SyncinAgain", spec := "syncinAgain", unfollowed := true, recurses := true, plainKeys := false, apart := false, narrowed := true }
def SyncinAgainUptoSaid : Prop := syncinAgainUptoRow.holds Try.pinned (OpenSpec.upto syncinAgainSpec)

/-- 'outriderlaw16.SyncinNew', WHERE WHAT IT READS IS OF BULK AT MOST 1048576: true; the input reads as it did. -/
def syncinNewUptoRow : OpenClaim := { program := "ytghfoooldcbdnaa", sum := "71213f327398b123c79ec71f341d74a9c932d20ecb06e0aba73744c3dc76de52", func := "outrider/outriderlaw16.SyncinNew", spec := "syncinNew", unfollowed := true, recurses := true, plainKeys := false, apart := false, narrowed := true }
def SyncinNewUptoSaid : Prop := syncinNewUptoRow.holds Try.pinned (OpenSpec.upto syncinNewSpec)

/-- 'outriderlaw15.SyncoutBounds', WHERE WHAT IT READS IS OF BULK AT MOST 1048576: true; the input reads as it did. -/
def syncoutBoundsUptoRow : OpenClaim := { program := "ytghfoooldcbdnaa", sum := "71213f327398b123c79ec71f341d74a9c932d20ecb06e0aba73744c3dc76de52", func := "outrider/outriderlaw15.SyncoutBounds", spec := "syncoutBounds", unfollowed := true, recurses := true, plainKeys := false, apart := false, narrowed := true }
def SyncoutBoundsUptoSaid : Prop := syncoutBoundsUptoRow.holds Try.pinned (OpenSpec.upto syncoutBoundsSpec)

/-- 'outriderlaw14.SyncwireReads', WHERE WHAT IT READS IS OF BULK AT MOST 1048576: true; the input reads as it did. -/
def syncwireReadsUptoRow : OpenClaim := { program := "ytghfoooldcbdnaa", sum := "71213f327398b123c79ec71f341d74a9c932d20ecb06e0aba73744c3dc76de52", func := "outrider/outriderlaw14.SyncwireReads", spec := "syncwireReads", unfollowed := true, recurses := true, plainKeys := false, apart := false, narrowed := true }
def SyncwireReadsUptoSaid : Prop := syncwireReadsUptoRow.holds Try.pinned (OpenSpec.upto syncwireReadsSpec)

/-- 'outriderlaw16.SyncinEnds', WHERE WHAT IT READS IS OF BULK AT MOST 1048576: true; the input reads as it did. -/
def syncinEndsUptoRow : OpenClaim := { program := "ytghfoooldcbdnaa", sum := "71213f327398b123c79ec71f341d74a9c932d20ecb06e0aba73744c3dc76de52", func := "outrider/outriderlaw16.SyncinEnds", spec := "syncinEnds", unfollowed := true, recurses := true, plainKeys := false, apart := false, narrowed := true }
def SyncinEndsUptoSaid : Prop := syncinEndsUptoRow.holds Try.pinned (OpenSpec.upto syncinEndsSpec)

/-- 'outriderlaw14.SyncwireBack', WHERE WHAT IT READS IS OF BULK AT MOST 1048576: true; the input reads as it did. -/
def syncwireBackUptoRow : OpenClaim := { program := "ytghfoooldcbdnaa", sum := "71213f327398b123c79ec71f341d74a9c932d20ecb06e0aba73744c3dc76de52", func := "outrider/outriderlaw14.SyncwireBack", spec := "syncwireBack", unfollowed := true, recurses := true, plainKeys := false, apart := false, narrowed := true }
def SyncwireBackUptoSaid : Prop := syncwireBackUptoRow.holds Try.pinned (OpenSpec.upto syncwireBackSpec)

/-- 'outriderlaw14.SyncwireRoom', WHERE WHAT IT READS IS OF BULK AT MOST 1048576: true; the input reads as it did. -/
def syncwireRoomUptoRow : OpenClaim := { program := "ytghfoooldcbdnaa", sum := "71213f327398b123c79ec71f341d74a9c932d20ecb06e0aba73744c3dc76de52", func := "outrider/outriderlaw14.SyncwireRoom", spec := "syncwireRoom", unfollowed := true, recurses := true, plainKeys := false, apart := false, narrowed := true }
def SyncwireRoomUptoSaid : Prop := syncwireRoomUptoRow.holds Try.pinned (OpenSpec.upto syncwireRoomSpec)

/-- 'outriderlaw14.SyncwireAnswers', WHERE WHAT IT READS IS OF BULK AT MOST 1048576: true; the input reads as it did. -/
def syncwireAnswersUptoRow : OpenClaim := { program := "ytghfoooldcbdnaa", sum := "71213f327398b123c79ec71f341d74a9c932d20ecb06e0aba73744c3dc76de52", func := "outrider/outriderlaw14.SyncwireAnswers", spec := "syncwireAnswers", unfollowed := true, recurses := true, plainKeys := false, apart := false, narrowed := true }
def SyncwireAnswersUptoSaid : Prop := syncwireAnswersUptoRow.holds Try.pinned (OpenSpec.upto syncwireAnswersSpec)

/-- 'outriderlaw14.SyncwireCut', WHERE WHAT IT READS IS OF BULK AT MOST 1048576: true; the input reads as it did. -/
def syncwireCutUptoRow : OpenClaim := { program := "ytghfoooldcbdnaa", sum := "71213f327398b123c79ec71f341d74a9c932d20ecb06e0aba73744c3dc76de52", func := "outrider/outriderlaw14.SyncwireCut", spec := "syncwireCut", unfollowed := true, recurses := true, plainKeys := false, apart := false, narrowed := true }
def SyncwireCutUptoSaid : Prop := syncwireCutUptoRow.holds Try.pinned (OpenSpec.upto syncwireCutSpec)

/-- 'outriderlaw14.SyncwireKinds', WHERE WHAT IT READS IS OF BULK AT MOST 1048576: true; the input reads as it did. -/
def syncwireKindsUptoRow : OpenClaim := { program := "ytghfoooldcbdnaa", sum := "71213f327398b123c79ec71f341d74a9c932d20ecb06e0aba73744c3dc76de52", func := "outrider/outriderlaw14.SyncwireKinds", spec := "syncwireKinds", unfollowed := true, recurses := true, plainKeys := false, apart := false, narrowed := true }
def SyncwireKindsUptoSaid : Prop := syncwireKindsUptoRow.holds Try.pinned (OpenSpec.upto syncwireKindsSpec)

/-- 'outriderlaw15.SyncoutKnows', WHERE WHAT IT READS IS OF BULK AT MOST 1048576: true; the input reads as it did. -/
def syncoutKnowsUptoRow : OpenClaim := { program := "ytghfoooldcbdnaa", sum := "71213f327398b123c79ec71f341d74a9c932d20ecb06e0aba73744c3dc76de52", func := "outrider/outriderlaw15.SyncoutKnows", spec := "syncoutKnows", unfollowed := true, recurses := true, plainKeys := false, apart := false, narrowed := true }
def SyncoutKnowsUptoSaid : Prop := syncoutKnowsUptoRow.holds Try.pinned (OpenSpec.upto syncoutKnowsSpec)

/-- 'outriderlaw15.SyncoutAgain', WHERE WHAT IT READS IS OF BULK AT MOST 1048576: true; the input reads as it did. -/
def syncoutAgainUptoRow : OpenClaim := { program := "ytghfoooldcbdnaa", sum := "71213f327398b123c79ec71f341d74a9c932d20ecb06e0aba73744c3dc76de52", func := "outrider/outriderlaw15.SyncoutAgain", spec := "syncoutAgain", unfollowed := true, recurses := true, plainKeys := false, apart := false, narrowed := true }
def SyncoutAgainUptoSaid : Prop := syncoutAgainUptoRow.holds Try.pinned (OpenSpec.upto syncoutAgainSpec)

/-- 'outriderlaw15.SyncoutAll', WHERE WHAT IT READS IS OF BULK AT MOST 1048576: true; the input reads as it did. -/
def syncoutAllUptoRow : OpenClaim := { program := "ytghfoooldcbdnaa", sum := "71213f327398b123c79ec71f341d74a9c932d20ecb06e0aba73744c3dc76de52", func := "outrider/outriderlaw15.SyncoutAll", spec := "syncoutAll", unfollowed := true, recurses := true, plainKeys := false, apart := false, narrowed := true }
def SyncoutAllUptoSaid : Prop := syncoutAllUptoRow.holds Try.pinned (OpenSpec.upto syncoutAllSpec)

/-- 'outriderlaw15.SyncoutLasts', WHERE WHAT IT READS IS OF BULK AT MOST 1048576: true; the input reads as it did. -/
def syncoutLastsUptoRow : OpenClaim := { program := "ytghfoooldcbdnaa", sum := "71213f327398b123c79ec71f341d74a9c932d20ecb06e0aba73744c3dc76de52", func := "outrider/outriderlaw15.SyncoutLasts", spec := "syncoutLasts", unfollowed := true, recurses := true, plainKeys := false, apart := false, narrowed := true }
def SyncoutLastsUptoSaid : Prop := syncoutLastsUptoRow.holds Try.pinned (OpenSpec.upto syncoutLastsSpec)

/-- 'outriderlaw15.SyncoutOther', WHERE WHAT IT READS IS OF BULK AT MOST 1048576: true; the input reads as it did. -/
def syncoutOtherUptoRow : OpenClaim := { program := "ytghfoooldcbdnaa", sum := "71213f327398b123c79ec71f341d74a9c932d20ecb06e0aba73744c3dc76de52", func := "outrider/outriderlaw15.SyncoutOther", spec := "syncoutOther", unfollowed := true, recurses := true, plainKeys := false, apart := false, narrowed := true }
def SyncoutOtherUptoSaid : Prop := syncoutOtherUptoRow.holds Try.pinned (OpenSpec.upto syncoutOtherSpec)

end Rows
end Go.Proofs.Ytghfoooldcbdnaa
