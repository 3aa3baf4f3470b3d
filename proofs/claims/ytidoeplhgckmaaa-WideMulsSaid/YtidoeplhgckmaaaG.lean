/- Values of struct types that can be read as data are aggregates of numbers that fit, one for each field; for the struct types of this seat's statements. -/
import Derived.Test.YtidoeplhgckmaaaProg
import Derived.Lib.SmallJoins
set_option linter.unusedVariables false
set_option linter.unusedSimpArgs false
namespace Go.Proofs.Ytidoeplhgckmaaa.G
open Go.Joins Go.ChangeShapes Go.WideShapes Go.RowKit Go.Deep

end Go.Proofs.Ytidoeplhgckmaaa.G
