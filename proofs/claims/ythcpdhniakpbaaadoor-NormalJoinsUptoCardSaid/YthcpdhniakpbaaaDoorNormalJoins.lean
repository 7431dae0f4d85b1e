/- The law NormalJoins returns true for every input of the sizes that the row's condition lets in, the package variables that it reads holding what the row lists. -/
import Derived.Test.YthcpdhniakpbaaaDoorNormalJoinsH
import Derived.Test.YthcpdhniakpbaaaDoorCards
import Derived.Test.YthcpdhniakpbaaaDoorTie
import Derived.SevenTiedAt
section
namespace Go.Proofs.YthcpdhniakpbaaaDoor.normalJoins
open Go.ChangeShapes Go.WideShapes Go.ChangeAt Go.RowKit Go.Proofs.YthcpdhniakpbaaaDoor.X Go.Proofs.YthcpdhniakpbaaaDoorW.PrintWords
open Go.ChangeMaps (open_string shut_string)
set_option linter.unusedVariables false
set_option linter.unusedSimpArgs false
theorem plain (f : FuncId) (fn : Func) (hf : Tryd.pinned.checked.prog.funcNamed "bookplate/bookplatelaw05.NormalJoins" = some f) (hfn : Tryd.pinned.checked.prog.funcs[f]? = some fn) :
    false = Tryd.pinned.checked.prog.looks [] ∧ ∀ (j : Nat) t, fn.params[j]? = some t → Tryd.pinned.checked.prog.wantsStandIn t = false := by
  obtain rfl : f = 14 := Option.some.inj ((show Tryd.prog.funcNamed "bookplate/bookplatelaw05.NormalJoins" = some 14 by kernel_rfl).symm.trans hf) |>.symm
  obtain rfl : fn = Tryd.f14 := (Option.some.inj (Tryd.func14.symm.trans hfn)).symm
  refine ⟨by kernel_rfl, fun j t ht => ?_⟩
  rw [Tryd.params14] at ht
  have hm : t ∈ ([9, 9] : List TypeId) := by simpa using Array.mem_of_getElem? ht
  have hall : (([9, 9] : List TypeId).all fun u => !Tryd.prog.wantsStandIn u) = true := by kernel_rfl
  exact (show Tryd.prog.wantsStandIn t = false by simpa using List.all_eq_true.1 hall t hm)
theorem byText : Rows.normalJoinsUptoRow.wfByText (Rows.OpenSpec.upto Rows.normalJoinsSpec) = true := by kernel_rfl
theorem goes : false = Rows.normalJoinsUptoRow.goesBy Tryd.pinned.checked.prog := by kernel_rfl
theorem mainIs : Tryd.pinned.checked.prog.mainIs = some (true, ("67c479ae0aa437fa6a3dd4b5f5b54a659b5722683b9372ec4f63c4692d844e6a" : String).toList) := by kernel_rfl
theorem card : Rows.NormalJoinsUptoCardSaid :=
  Claim7.holds_tied_plain_at .later [] _ _ _ _ said (fun _ h => by cases h) byText (fun _ h => by cases h) normalJoinsUpto_row_tie rfl ⟨rfl, rfl⟩ mainIs rfl plain goes
end Go.Proofs.YthcpdhniakpbaaaDoor.normalJoins
end
