/- Packed numbers and texts, written and read: what the printed functions of pack and of the document's answer for it compute, by lists of bytes. No program in sight but its printed functions. No conditions. -/
import Derived.Test.YtokjbncjapndgaaPAllx
import Derived.Lib.IndexBytes
namespace Go.Proofs.Ytokjbncjapndgaa.XP
open Go.RowKit Go.Proofs.Ytokjbncjapndgaa.XW Go.Proofs.Ytokjbncjapndgaa.PAll Go.Proofs.YtokjbncjapndgaaW.PrintWords Go.Proofs.YtokjbncjapndgaaW.PrintLast
/-! ## what readers read: of the bytes to come l and the error e -/
end Go.Proofs.Ytokjbncjapndgaa.XP
