/- The shapes of the data that come in, by their types. -/
import Derived.Test.YtjaideekkbpalaaGreatB4
namespace Go.Proofs.YtjaideekkbpalaaGreat.A
open Go
def shUint8S:Sh:= .slice 19 1 (.int .u8)
end Go.Proofs.YtjaideekkbpalaaGreat.A
