/- Words that the printed walks use: cut down by program from the print's own words to what this claim names. No conditions. -/
import Derived.Test.YtekaeddagaejiaaDoorVWords
namespace Go.Proofs.YtekaeddagaejiaaDoorW.PrintWords
open Go.RowKit
namespace Kd
end Kd
end Go.Proofs.YtekaeddagaejiaaDoorW.PrintWords
