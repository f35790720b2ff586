/-
  WHAT COMES BEHIND, WALKED ONCE: with a slice besides.
-/
import Derived.Test.YtghfoooldcbdnaaOps7
set_option linter.unusedVariables false
set_option linter.unusedSimpArgs false
namespace Go.Proofs.Ytghfoooldcbdnaa.SL
open Go.RowKit Go.Proofs.YtghfoooldcbdnaaW.PrintWords
theorem share3 {T : Prop} {B : Nat} {w0 : World} (L : Nat → Option Addr → Nat → List As) {M : Nat → Option Addr → Nat → World → Prop} (h1 : (∀ g A c w', Mod B w0 (L g A c) w' → M g A c w') → T) (h2 : ∀ g A c w', Mod B w0 (L g A c) w' → M g A c w') : T := h1 h2
end Go.Proofs.Ytghfoooldcbdnaa.SL
