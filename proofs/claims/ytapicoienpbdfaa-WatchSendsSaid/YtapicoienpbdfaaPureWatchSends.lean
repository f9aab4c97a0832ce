/- The law WatchSends is walked by hand, whole: nothing is left to its plain half. -/
import Derived.Test.YtapicoienpbdfaaPWatchSendsx7
-- merged out of the texts of this work that it leads to

namespace Go.Proofs.Ytapicoienpbdfaa.Pure
open Go.RowKit Go.Proofs.Ytapicoienpbdfaa.PWatchSends

theorem WatchSends : carousellaw09_WatchSends.Pure := trivial

end Go.Proofs.Ytapicoienpbdfaa.Pure
