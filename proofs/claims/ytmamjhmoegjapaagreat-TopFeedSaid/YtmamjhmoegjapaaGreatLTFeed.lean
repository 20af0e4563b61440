/- top.TopFeed. -/
import Derived.Test.YtmamjhmoegjapaaGreatQ32
namespace Go.Proofs.YtmamjhmoegjapaaGreat
namespace Av
set_option linter.all false
theorem feed_top (l1:List Int) (h1:l1.length<=9223372036854775807):zN 7 [zD iA l1] [] (bA true) []:=
 zT0 (λc l hc hl he=>zEa zQa c l hc hl he) l1 h1
end Av
end Go.Proofs.YtmamjhmoegjapaaGreat
