/- The law RelayNever is walked by hand, whole: nothing is left to its plain half. -/
import Derived.Test.YtmlenepeocginaaPRelayNeverx4
-- merged out of the texts of this work that it leads to

namespace Go.Proofs.Ytmlenepeocginaa.Pure
open Go.RowKit Go.Proofs.Ytmlenepeocginaa.PRelayNever

theorem RelayNever : carousellaw19_RelayNever.Pure := trivial

end Go.Proofs.Ytmlenepeocginaa.Pure
