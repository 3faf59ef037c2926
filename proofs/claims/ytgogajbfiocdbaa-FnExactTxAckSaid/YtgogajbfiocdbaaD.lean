/- The shapes of the data that come in, by their types. -/
import Derived.Test.YtgogajbfiocdbaaB4
namespace Go.Proofs.Ytgogajbfiocdbaa.A
open Go
def shHand : Sh := .struct [(1, (.int .u64)), (1, (.int .i64)), (1, (.int .i64)), (1, (.int .i64)), (1, (.int .i64))]
def shLedgerCall : Sh := .struct [(1, (.int .i64)), (1, (.int .u64)), (1, (.int .u64)), (1, (.int .u64))]
def shPast : Sh := .struct [(4, shLedgerCall), (1, (.int .i64)), (1, (.int .i64)), (1, (.int .i64)), (1, (.int .u64))]
def shTx : Sh := .struct [(1, (.int .i64)), (1, (.int .u64)), (1, (.int .u64)), (1, (.int .u64)), (1, (.int .i64)), (1, .bool), (1, .bool), (1, .bool), (1, .bool), (1, (.int .i64))]
end Go.Proofs.Ytgogajbfiocdbaa.A
