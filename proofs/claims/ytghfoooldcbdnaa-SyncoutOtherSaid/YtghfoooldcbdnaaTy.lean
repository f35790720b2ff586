/-
  THE SEAT's TYPES, AS THE LAYER SL ASKS THEM; what a record is.
-/
import Derived.Test.YtghfoooldcbdnaaSep
import Derived.Test.YtghfoooldcbdnaaProg
import Derived.WalkSpells
import Derived.WalkLawsBesides
set_option linter.unusedVariables false
namespace Go.Proofs.Ytghfoooldcbdnaa
open Go.RowKit Go.Proofs.Ytghfoooldcbdnaa.SL
instance : Sca Try.prog 3 := ⟨⟨by kernel_rfl, by kernel_rfl⟩⟩
instance : Sca Try.prog 4 := ⟨⟨by kernel_rfl, by kernel_rfl⟩⟩
instance : Sca Try.prog 5 := ⟨⟨by kernel_rfl, by kernel_rfl⟩⟩
instance : Sca Try.prog 23 := ⟨⟨by kernel_rfl, by kernel_rfl⟩⟩
instance : Sca Try.prog 26 := ⟨⟨by kernel_rfl, by kernel_rfl⟩⟩
instance : Agg Try.prog 28 3 := ⟨⟨by kernel_rfl, by kernel_rfl⟩⟩
instance : Sca Try.prog 30 := ⟨⟨by kernel_rfl, by kernel_rfl⟩⟩
instance : Agg Try.prog 32 3 := ⟨⟨by kernel_rfl, by kernel_rfl⟩⟩
instance : Sca Try.prog 33 := ⟨⟨by kernel_rfl, by kernel_rfl⟩⟩
instance : Agg Try.prog 35 4 := ⟨⟨by kernel_rfl, by kernel_rfl⟩⟩
instance : Sca Try.prog 36 := ⟨⟨by kernel_rfl, by kernel_rfl⟩⟩
instance : Agg Try.prog 38 4 := ⟨⟨by kernel_rfl, by kernel_rfl⟩⟩
instance : Agg Try.prog 39 2 := ⟨⟨by kernel_rfl, by kernel_rfl⟩⟩
instance : Agg Try.prog 42 4 := ⟨⟨by kernel_rfl, by kernel_rfl⟩⟩
instance : Sca Try.prog 43 := ⟨⟨by kernel_rfl, by kernel_rfl⟩⟩
instance : Sca Try.prog 49 := ⟨⟨by kernel_rfl, by kernel_rfl⟩⟩
instance : Agg Try.prog 51 5 := ⟨⟨by kernel_rfl, by kernel_rfl⟩⟩
instance : Agg Try.prog 53 8 := ⟨⟨by kernel_rfl, by kernel_rfl⟩⟩
instance : Agg Try.prog 54 8 := ⟨⟨by kernel_rfl, by kernel_rfl⟩⟩
instance : Agg Try.prog 61 3 := ⟨⟨by kernel_rfl, by kernel_rfl⟩⟩
instance : Sca Try.prog 64 := ⟨⟨by kernel_rfl, by kernel_rfl⟩⟩
instance : Agg Try.prog 70 14 := ⟨⟨by kernel_rfl, by kernel_rfl⟩⟩
instance : Sca Try.prog 71 := ⟨⟨by kernel_rfl, by kernel_rfl⟩⟩
instance : Sca Try.prog 73 := ⟨⟨by kernel_rfl, by kernel_rfl⟩⟩
instance : Sca Try.prog 86 := ⟨⟨by kernel_rfl, by kernel_rfl⟩⟩
instance : Sca Try.prog 87 := ⟨⟨by kernel_rfl, by kernel_rfl⟩⟩
instance : Sca Try.prog 88 := ⟨⟨by kernel_rfl, by kernel_rfl⟩⟩
instance : Agg Try.prog 90 6 := ⟨⟨by kernel_rfl, by kernel_rfl⟩⟩
instance : Agg Try.prog 92 11 := ⟨⟨by kernel_rfl, by kernel_rfl⟩⟩
instance : Sca Try.prog 109 := ⟨⟨by kernel_rfl, by kernel_rfl⟩⟩
instance : Sca Try.prog 110 := ⟨⟨by kernel_rfl, by kernel_rfl⟩⟩
instance : Agg Try.prog 112 6 := ⟨⟨by kernel_rfl, by kernel_rfl⟩⟩
instance : Agg Try.prog 125 16 := ⟨⟨by kernel_rfl, by kernel_rfl⟩⟩
instance : Agg Try.prog 127 19 := ⟨⟨by kernel_rfl, by kernel_rfl⟩⟩
instance : Sca Try.prog 131 := ⟨⟨by kernel_rfl, by kernel_rfl⟩⟩
instance : Sca Try.prog 132 := ⟨⟨by kernel_rfl, by kernel_rfl⟩⟩
instance : Agg Try.prog 134 6 := ⟨⟨by kernel_rfl, by kernel_rfl⟩⟩
instance : Agg Try.prog 140 4 := ⟨⟨by kernel_rfl, by kernel_rfl⟩⟩
instance : Agg Try.prog 162 4 := ⟨⟨by kernel_rfl, by kernel_rfl⟩⟩
instance : Zero Try.prog 4 [.bool false] := ⟨by kernel_rfl⟩
instance : Zero Try.prog 28 [.int .i64 0, .slice none 0 0, .int .i64 0] := ⟨by kernel_rfl⟩
instance : Zero Try.prog 32 [.int .i64 0, .int .i64 0, .slice none 0 0] := ⟨by kernel_rfl⟩
instance : Zero Try.prog 35 [.int .i64 0, .int .i64 0, .slice none 0 0, .slice none 0 0] := ⟨by kernel_rfl⟩
instance : Zero Try.prog 38 [.int .i64 0, .int .i64 0, .bool false, .int .u64 0] := ⟨by kernel_rfl⟩
instance : Zero Try.prog 39 [.bool false, .bool false] := ⟨by kernel_rfl⟩
instance : Zero Try.prog 42 [.int .i64 0, .int .i64 0, .bool false, .int .u64 0] := ⟨by kernel_rfl⟩
instance : Zero Try.prog 43 [.slice none 0 0] := ⟨by kernel_rfl⟩
instance : Zero Try.prog 51 [.int .i64 0, .string ⟨#[]⟩, .string ⟨#[]⟩, .int .i64 0, .int .i64 0] := ⟨by kernel_rfl⟩
instance : Zero Try.prog 53 [.int .i64 0, .string ⟨#[]⟩, .string ⟨#[]⟩, .int .i64 0, .int .i64 0, .int .i64 0, .int .i64 0, .int .i64 0] := ⟨by kernel_rfl⟩
instance : Zero Try.prog 54 [.int .i64 0, .string ⟨#[]⟩, .string ⟨#[]⟩, .int .i64 0, .int .i64 0, .int .i64 0, .int .i64 0, .int .i64 0] := ⟨by kernel_rfl⟩
instance : Zero Try.prog 61 [.int .i64 0, .int .i64 0, .slice none 0 0] := ⟨by kernel_rfl⟩
instance : Zero Try.prog 70 [.int .i64 0, .int .i64 0, .int .i64 0, .string ⟨#[]⟩, .string ⟨#[]⟩, .int .i64 0, .int .i64 0, .int .i64 0, .int .i64 0, .int .i64 0, .int .i64 0, .int .i64 0, .bool false, .int .u64 0] := ⟨by kernel_rfl⟩
instance : Zero Try.prog 92 [.int .i64 0, .int .i64 0, .int .i64 0, .string ⟨#[]⟩, .string ⟨#[]⟩, .int .i64 0, .int .i64 0, .int .i64 0, .int .i64 0, .int .i64 0, .bool false] := ⟨by kernel_rfl⟩
instance : Zero Try.prog 112 [.int .i64 0, .int .i64 0, .int .i64 0, .slice none 0 0, .slice none 0 0, .slice none 0 0] := ⟨by kernel_rfl⟩
instance : Zero Try.prog 162 [.int .i64 0, .int .i64 0, .slice none 0 0, .int .i64 0] := ⟨by kernel_rfl⟩
instance : Elem Try.prog 26 36 1 8 := .mk' (by kernel_rfl) (by kernel_rfl) (by decide) (by decide)
instance : Elem Try.prog 30 54 8 80 := .mk' (by kernel_rfl) (by kernel_rfl) (by decide) (by decide)
instance : Elem Try.prog 33 4 1 1 := .mk' (by kernel_rfl) (by kernel_rfl) (by decide) (by decide)
instance : Elem Try.prog 43 53 8 80 := .mk' (by kernel_rfl) (by kernel_rfl) (by decide) (by decide)
instance : Elem Try.prog 71 61 3 40 := .mk' (by kernel_rfl) (by kernel_rfl) (by decide) (by decide)
instance : Elem Try.prog 73 5 1 1 := .mk' (by kernel_rfl) (by kernel_rfl) (by decide) (by decide)
instance : Elem Try.prog 87 42 4 32 := .mk' (by kernel_rfl) (by kernel_rfl) (by decide) (by decide)
instance : Elem Try.prog 88 51 5 56 := .mk' (by kernel_rfl) (by kernel_rfl) (by decide) (by decide)
instance : Elem Try.prog 109 162 4 48 := .mk' (by kernel_rfl) (by kernel_rfl) (by decide) (by decide)
instance : Elem Try.prog 110 164 4 48 := .mk' (by kernel_rfl) (by kernel_rfl) (by decide) (by decide)
instance : Elem Try.prog 119 32 3 40 := .mk' (by kernel_rfl) (by kernel_rfl) (by decide) (by decide)
instance : Elem Try.prog 132 140 4 48 := .mk' (by kernel_rfl) (by kernel_rfl) (by decide) (by decide)
end Go.Proofs.Ytghfoooldcbdnaa
