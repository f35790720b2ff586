/-
  THE TRIAL OF PACKAGE outriderlaw15.
-/
import Derived.Test.YtghfoooldcbdnaaSnd13
set_option linter.unusedVariables false
set_option linter.unusedSimpArgs false
namespace Go.Proofs.Ytghfoooldcbdnaa
open Go.RowKit Go.Proofs.Ytghfoooldcbdnaa.SL Go.Proofs.YtghfoooldcbdnaaW.PrintWords
def tP0 : SP := (SS.new 1 10).p
def tP1 : SP := (tP0.add one15).1
def tP2 : SP := (tP1.sends 0).1
def tP3 : SP := (tP2.sends 5).1
def tP4 : SP := (tP3.sends 10).1
def tP5 : SP := (tP4.take 1 1 false 0 10).1
theorem t_add : (tP0.add one15).2 = true := by rfl
theorem t_s0 : (tP1.sends 0).2 = [(1, [one15])] := by rfl
theorem t_s5 : (tP2.sends 5).2 = [] := by rfl
theorem t_s10 : (tP3.sends 10).2 = [(1, [one15])] := by rfl
theorem t_take : (tP4.take 1 1 false 0 10).2 = true := by rfl
theorem t_known : (kmk tP5.kn one15.fl).1 = 2 := by rfl
theorem t_sess : tP5.s = 1 := by rfl
theorem t_ok0 : tP0.Ok 0 := new_ok 1 10 (by omega)
theorem t_ok1 : tP1.Ok 1 := t_ok0.add one15
theorem t_ok2 : tP2.Ok 1 := t_ok1.sends 0
theorem t_ok3 : tP3.Ok 1 := t_ok2.sends 5
theorem t_ok4 : tP4.Ok 1 := t_ok3.sends 10
end Go.Proofs.Ytghfoooldcbdnaa
