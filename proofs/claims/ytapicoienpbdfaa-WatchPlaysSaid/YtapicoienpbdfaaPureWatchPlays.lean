/- The law WatchPlays is walked by hand, whole: nothing is left to its plain half. -/
import Derived.Test.YtapicoienpbdfaaPWatchPlaysx14
-- merged out of the texts of this work that it leads to

namespace Go.Proofs.Ytapicoienpbdfaa.Pure
open Go.RowKit Go.Proofs.Ytapicoienpbdfaa.PWatchPlays

theorem WatchPlays : carousellaw09_WatchPlays.Pure := trivial

end Go.Proofs.Ytapicoienpbdfaa.Pure
