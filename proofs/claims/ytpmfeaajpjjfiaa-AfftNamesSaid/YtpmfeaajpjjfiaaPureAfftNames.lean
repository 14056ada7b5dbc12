/- AfftNames: whatever is called, the errors of layer 14 have the document's numbers. -/
import Derived.Test.YtpmfeaajpjjfiaaPAfftNamesx1
namespace Go.Proofs.Ytpmfeaajpjjfiaa.Pure
open Go.RowKit Go.Proofs.Ytpmfeaajpjjfiaa.PAfftNames Go.Proofs.YtpmfeaajpjjfiaaW.PrintWords Go.Proofs.YtpmfeaajpjjfiaaW.PrintLast

theorem AfftNames : culletlaw14_AfftNames.Pure := by
  unfold culletlaw14_AfftNames.Pure culletlaw14_AfftNames.f
  rfl

end Go.Proofs.Ytpmfeaajpjjfiaa.Pure
