/- The law of the constants answers true: each exported constant of the program has the number that the law names. No condition. -/
import Derived.Test.YtlbjgjhigfldeaaPFnExactConstantsx1
namespace Go.Proofs.Ytlbjgjhigfldeaa.Pure
open Go.RowKit Go.Proofs.Ytlbjgjhigfldeaa.PFnExactConstants Go.Proofs.YtlbjgjhigfldeaaW.PrintWords Go.Proofs.YtlbjgjhigfldeaaW.PrintLast
theorem FnExactConstants : laws_FnExactConstants.Pure := rfl

end Go.Proofs.Ytlbjgjhigfldeaa.Pure
