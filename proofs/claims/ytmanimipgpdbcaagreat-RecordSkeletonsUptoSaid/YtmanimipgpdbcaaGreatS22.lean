/- Checks. -/
import Derived.Test.YtmanimipgpdbcaaGreatRn
namespace Go.Proofs.YtmanimipgpdbcaaGreat
open Go Go.Pv
set_option maxRecDepth 100000
theorem gt23_6:dat.Ji (dt9.L 166 11 [139,140,141,142,143,144,147,148,149,151,152,155,156,163,164,165]) (dt9.gL (166+6)) (dt9.pr (166+6)) (strs datM ["Hjz6mhVzZstLRhV5QD1sVZps0Cs1_blVXuyDyi72","knx542LRpcBI3oNp4WNHGHVRTgeBCfW5ISjMMHu2","PTflituTRFtyCIUDw4lKo4Z2QQunXDvyDK.T48YB","U29XuKVhHnIL45kAaPUkxGWJkHkoh2LBc9LbO5FT","uBqZldopIktOuljEprLe2tuCzAu42qjrSE2i8VTp","pOAOcJlU._LNRV0GTunYX4T7xk_f7cJjaJ68KsrV","V5t6S_PCD0T1TjAYYxA_omm1jTlc0_ENoBshunro","aju628vHRNbAQylbgJKHd3p5Ujx.UJORZ51KQWuv","RkEzdIOZwLvinwjYsDtP42RhgLtrEob1M3ju.y5U","QaElTcVEJgdtVrv29dZomI2OA2qKJddLRP0g8DbF","BKOKxQ9wx0u49z0Zl9kry.cWEtFzPfLmo8jY66LN","sem4HKzXfxFRBzIGO36LYgt83ah5wqgYAAW.jxEB","FKNS2McFE4NpoO4gXTjlrfOIOWo7ygd7ySV6KX9l","oZxen0s_I6Lkr9EJdV7JaVRufBV0VdoANV1of3Zf","sKcDzf9H9eRATmYg4gWuEbAhZHJVOc0Kw1t7t16J","kLa7C9ZYBkeNJQrn1Rzh00USjV_XqzbOn5cIR"] 0)=true:=by kernel_rfl
end Go.Proofs.YtmanimipgpdbcaaGreat
