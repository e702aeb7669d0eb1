-- Written by a program of this session's (wip/tools/myprint.py): a function's plain form and its contract.
import Derived.Test.YtnjhjaifmgjljaaDoorPMx0
namespace Go.Proofs.YtnjhjaifmgjljaaDoor.PM
open Go.RowKit Go.Proofs.YtnjhjaifmgjljaaDoorW.PrintWords Go.Proofs.YtnjhjaifmgjljaaDoorW.PrintLast Go.Proofs.YtnjhjaifmgjljaaDoorW.PrintMore
attribute [local go_sem] max2_int min2_int max_two min_two max_three min_three max_four min_four   -- for this text's walks alone
set_option linter.unusedVariables false
set_option linter.unusedSimpArgs false

def gtab0 : List S87 := [⟨(0 : Int), (0 : Int), (0 : Int)⟩, ⟨(-9999999999999 : Int), (9999999999999 : Int), (7 : Int)⟩, ⟨(-1000000000 : Int), (1000000000 : Int), (7 : Int)⟩, ⟨(0 : Int), (1 : Int), (4 : Int)⟩, ⟨(0 : Int), (109572 : Int), (6 : Int)⟩, ⟨(0 : Int), (7 : Int), (4 : Int)⟩, ⟨(1 : Int), (5 : Int), (0 : Int)⟩]

end Go.Proofs.YtnjhjaifmgjljaaDoor.PM
