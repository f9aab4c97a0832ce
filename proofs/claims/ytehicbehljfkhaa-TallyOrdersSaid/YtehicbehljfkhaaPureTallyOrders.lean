/- The law TallyOrders is walked by hand, whole: nothing is left to its plain half. -/
import Derived.Test.YtehicbehljfkhaaPTallyOrdersx1
-- merged out of the texts of this work that it leads to

namespace Go.Proofs.Ytehicbehljfkhaa.Pure
open Go.RowKit Go.Proofs.Ytehicbehljfkhaa.PTallyOrders

theorem TallyOrders : carousellaw07_TallyOrders.Pure := trivial

end Go.Proofs.Ytehicbehljfkhaa.Pure
