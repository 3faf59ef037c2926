/- The shapes of the data that come in, by their types. -/
import Derived.Test.YteagcdhkobeanaaB4
namespace Go.Proofs.Yteagcdhkobeanaa.A
open Go
def shHand:Sh:= .struct [(1,(.int .u64)),(1,(.int .i64)),(1,(.int .i64)),(1,(.int .i64)),(1,(.int .i64))]
def shLedgerCall:Sh:= .struct [(1,(.int .i64)),(1,(.int .u64)),(1,(.int .u64)),(1,(.int .u64))]
def shPast:Sh:= .struct [(4,shLedgerCall),(1,(.int .i64)),(1,(.int .i64)),(1,(.int .i64)),(1,(.int .u64))]
def shTx:Sh:= .struct [(1,(.int .i64)),(1,(.int .u64)),(1,(.int .u64)),(1,(.int .u64)),(1,(.int .i64)),(1,.bool),(1,.bool),(1,.bool),(1,.bool),(1,(.int .i64))]
def shPastS:Sh:= .slice 2 8 shPast
def shTxEvent:Sh:= .struct [(1,(.int .i64)),(1,(.int .i64)),(1,(.int .i64))]
def shTxEventS:Sh:= .slice 6 3 shTxEvent
def shRange:Sh:= .struct [(1,(.int .u64)),(1,(.int .u64)),(1,(.int .i64))]
def shRangeS:Sh:= .slice 8 3 shRange
def shChart:Sh:= .struct [(1,(.int .i64)),(1,shRangeS),(1,.bool),(1,(.int .u64)),(1,(.int .i64))]
def shRequest:Sh:= .struct [(1,(.int .i64)),(1,(.int .i64)),(1,(.int .u64)),(1,(.int .u64)),(1,(.int .i64))]
def shClient:Sh:= .struct [(1,(.int .i64)),(1,(.int .i64)),(5,shChart),(1,.bool),(1,(.int .i64)),(5,shRequest)]
def shAccount:Sh:= .struct [(1,(.int .u64)),(1,(.int .u64)),(1,(.int .u64)),(1,(.int .u64)),(1,(.int .i64))]
def shAccountS:Sh:= .slice 12 5 shAccount
def shBook:Sh:= .struct [(1,shAccountS)]
def shFin:Sh:= .struct [(1,(.int .i64)),(1,(.int .u64))]
def shFinS:Sh:= .slice 10 2 shFin
def shShard:Sh:= .struct [(1,(.int .u64)),(1,(.int .u64)),(1,(.int .i64)),(1,(.int .i64)),(1,shBook),(1,shFinS)]
def shHandMsg:Sh:= .struct [(1,(.int .i64)),(1,(.int .u64)),(1,(.int .i64)),(1,(.int .i64)),(6,shShard)]
def shShardS:Sh:= .slice 20 6 shShard
def shStore:Sh:= .struct [(1,(.int .i64)),(1,(.int .i64)),(1,shShardS)]
def shUint8S:Sh:= .slice 19 1 (.int .u8)
def shStoreS:Sh:= .slice 17 3 shStore
def shMapCmd:Sh:= .struct [(1,(.int .i64)),(1,(.int .u64)),(1,(.int .i64))]
def shReply:Sh:= .struct [(1,(.int .i64)),(1,(.int .i64)),(1,(.int .i64)),(1,(.int .u64)),(5,shChart)]
def shMapCmdS:Sh:= .slice 21 3 shMapCmd
def shIntS:Sh:= .slice 15 1 (.int .i64)
end Go.Proofs.Yteagcdhkobeanaa.A
