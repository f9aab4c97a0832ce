/- The law WireTwins is walked by hand, whole: nothing is left to its plain half. -/
import Derived.Test.YtehicbehljfkhaaPWireTwinsx1
-- merged out of the texts of this work that it leads to

namespace Go.Proofs.Ytehicbehljfkhaa.Pure
open Go.RowKit Go.Proofs.Ytehicbehljfkhaa.PWireTwins

theorem WireTwins : carousellaw21_WireTwins.Pure := trivial

end Go.Proofs.Ytehicbehljfkhaa.Pure
