/-
  THE CARD OF wapentakelaw19.RoundQuick: for every input that the row lets in, RoundQuick returns true and its arguments read as they did. Part 13 of 14. No condition stands ahead of the statement. Parts of this text were printed by a program of ours.
-/
import Derived.Test.YtimmoekliphobaaDoorQ12
set_option linter.all false
set_option maxRecDepth 100000
set_option maxHeartbeats 4000000
namespace Go.Proofs.YtimmoekliphobaaDoor
open Go Go.Sh
open Go.Sh.Ty (reg)
theorem dec_ints : Dec 49 (SlOk 1 IntOk) := dec_slice Tryd.underlying49 cof3 (by decide) len_i dec_i
variable {HT : Type} {en : TypeId × Value → HT}
end Go.Proofs.YtimmoekliphobaaDoor
