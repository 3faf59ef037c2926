/- Routes, as the laws need them. -/
import Derived.Test.YtgogajbfiocdbaaCChart3
namespace Go.Proofs.Ytgogajbfiocdbaa.A
open Go
set_option linter.unusedSimpArgs false
set_option linter.unusedVariables false
section
variable {F : Nat → Option RF} {Z : CallF} {h : Heap} {cs cs' : List Cell} {c d : Chart} {fp fq : List Nat}
theorem RouteOf_c (hI11 : Has F tI11) (hI12 : Has F tI12) (hLi : Has F tLibslicesIndexFuncimplRangeimplRange) (hf : h.floor ≤ h.next) (v : Chart.RI h cs c fp) (id : Int) (ok : c.Ok) (g : 0 ≤ id ∧ id ≤ 18446744073709551615) :
    ∃ h', call F Z 70 [.agg cs, .c (.int .u64 id)] h = some (.tup [.c (.int .i64 (c.route id).1), .c (.int .i64 (c.route id).2)], h') ∧ On h h' := RouteOf_run hI11 hI12 hLi v ok g.1 g.2
theorem sRouteOf_c (hS : Has F tS01d) (hS11 : Has F tS11) (hS12 : Has F tS12) (hf : h.floor ≤ h.next) (v : Chart.RI h cs c fp) (id : Int) (ok : c.Ok) (g : 0 ≤ id ∧ id ≤ 18446744073709551615) :
    ∃ h', call F Z 69 [.agg cs, .c (.int .u64 id)] h = some (.tup [.c (.int .i64 (c.route id).1), .c (.int .i64 (c.route id).2)], h') ∧ On h h' := sRouteOf_run hS hS11 hS12 v ok g.1 g.2
theorem MovedBetween_c (hI11 : Has F tI11) (hI12 : Has F tI12) (hLi : Has F tLibslicesIndexFuncimplRangeimplRange) (hf : h.floor ≤ h.next) (v : Chart.RI h cs c fp) (u : Chart.RI h cs' d fq) (id : Int) (ok : c.Ok) (ok' : d.Ok) (g : 0 ≤ id ∧ id ≤ 18446744073709551615) :
    ∃ h', call F Z 74 [.agg cs, .agg cs', .c (.int .u64 id)] h = some (.c (.bool (c.moved d id)), h') ∧ On h h' := MovedBetween_run hI11 hI12 hLi v u ok ok' g.1 g.2
theorem sMovedBetween_c (hS : Has F tS01d) (hS11 : Has F tS11) (hS12 : Has F tS12) (hf : h.floor ≤ h.next) (v : Chart.RI h cs c fp) (u : Chart.RI h cs' d fq) (id : Int) (ok : c.Ok) (ok' : d.Ok) (g : 0 ≤ id ∧ id ≤ 18446744073709551615) :
    ∃ h', call F Z 73 [.agg cs, .agg cs', .c (.int .u64 id)] h = some (.c (.bool (c.moved d id)), h') ∧ On h h' := sMovedBetween_run hS hS11 hS12 v u ok ok' g.1 g.2
end
end Go.Proofs.Ytgogajbfiocdbaa.A
