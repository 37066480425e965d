import Derived.Test.YtooeabibhjbkoaaGreatEvB
import Derived.Test.YtooeabibhjbkoaaGreatAlD
import Derived.Deep.CutRange
set_option linter.unusedVariables false
set_option linter.unusedSimpArgs false
namespace Go.Proofs.YtooeabibhjbkoaaGreat
open Go.RowKit Reg Al Ga
theorem Tryz.infoQ3:(Tryz.prog.info? 48).map (fun i=>(i.zero,i.size,i.bytes))=some (some (.agg #[.string ⟨#[]⟩,.int .i64 0,.int .i64 0]),3,32):=by kernel_rfl
end Go.Proofs.YtooeabibhjbkoaaGreat
