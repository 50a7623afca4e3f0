/- Checks. -/
import Derived.Test.YtmanimipgpdbcaaGreatRn
namespace Go.Proofs.YtmanimipgpdbcaaGreat
open Go Go.Pv
set_option maxRecDepth 100000
def gl45:List (Nat×List Nat):=[(1,[213,214,217,221,233,236,239]),(1,[196,240]),(1,[95]),(1,[]),(1,[]),(1,[4]),(1,[4,96]),(1,[3,244,245,246]),(1,[]),(1,[7,247]),(1,[228,242,243,247,248,249]),(1,[95,248]),(1,[1,227])]
theorem gt45:dat.rings dt9 gl45 240 [["Cq7v.r4k.cW1SiJcOgNM0YDzH.NGzu34VGN2iOfA","pjwP1xaixd32ByDw.Tmv5EssVbLSfwU3cCqXHocZ","8FJkYnfToVa5rCsn_OEvqTegFXiYF3dm_"],
["Lw1XxX_aBcfirnA.4p1XXTv4181Utta5HSVpZU1q","NjJC"],
["BqiCEvtKU8_qjddQyj_syM3AjPBbjxVDB4dM8xOx","Lx8jFjftvaOMLckuOYKV0"],
["tLDvjRSCtYuZiqGYp1QDo_9sMJtu_gY_KKix0rlk","wkis1"],
["M4nYpFsK1jMhRZK.PJ3IeD8JGV6E43puVl"],
["BOmB8eqM0aPAdZ5xoW8ycEMu2DXnWyoq7LBSWRoK","9XiBn2GcHRvqEPDRtgv0i7EDIZ8Zb"],
["QC2V3g556yY1JPnNVsJ_RuEqw_MYzCY.lne4C9GH","Fzj5evISwCqVmFNoelkS4KD1rWCU41e.dqgb4scd","_EDQak0jUf"],
["dKy3lv8HnxqGgnfvQg5.f8GNf0JyWnQuGQVZPcA.","HRffmnUGfW5Dhfr16__EREB5xKdROy1zmEl"],
["B5hKAuW3knAOkQ6QHb80KqaPlPi6VJkhdkk5Fbrn","NO2pz"],
["C2qe05DWV9SOAZVi9YkC3giltuiAEPYNp0"],
["CQYEKIswZFU0oxXrrO4._iyBhfQsFLE_LZqOP1Ao","LvUjmZm5VoniQY3ifExu5lDuHcsLhQu7qVuBe54v","tk9fELrSTIieSXV7a8WUbXerbNiMS7ZYqnm8rWIb","_WI9jrZ3bypeu"],
["NSYrkSrfteNl0nQ_JHVmasYHalRfhzswhWXN86At","tluGuiP8QrJwWgICc"],
["zS4vTn8T3lIXFMauJ0q511Bob6wf9"]]=true:=by kernel_rfl
def gl46:List (Nat×List Nat):=[(1,[]),(1,[227]),(1,[]),(1,[227,250,254,255]),(1,[250,251,252,253,256]),(1,[119]),(1,[186,193,211]),(1,[]),(1,[]),(1,[96,261]),(1,[]),(1,[223]),(1,[]),(1,[247,261]),(1,[5]),(1,[]),(1,[1]),(1,[]),(1,[94,95,96])]
theorem gt46:dat.rings dt9 gl46 253 [["Eqye27NMYpR9Ot44Zv1Ro8LVPvsd3KCcZk6xp_wN","XbUqDkpq4_rFLbpMwT.gKn1ef4.iSRVhW_6ylJ7v","0FCa3sCN1aqAThqqeBdZE7hv"],
["EN0nwYB1qOqai18jfk0tdgWfJvc8gPDcBQlSO9nd","mAZFwOdpZmYjmhSkP"],
["GeYBsWL.YGO6bJ3VyKlduWl9yd5vY7vkqLQodRSr"],
["B3IR_0pGDcS8O6Rqv5uV5CVdIzrrRJe8ATQmZtGT","ksZZiXgUWsaXOwP2EzoJ5eS4IVJuZEVww6u0x8HO","udOniRxsPMhQkoXAqDmeZ"],
["8MbVLv2t25EF13z18NEk0hNAL7Z3ky.qgU4Bi5xi","YdQxaF70RBtwAqFShwitALRuoQ7BChNIhOpPy.CS","CTw7fwIQ5gQf14oq7YEzz19o1iwljB0AOIi4WkZm","wChWIUFSAflOwPaz1fY0pJYLaVZEyFxcliQYf.OX","fvulyGvDfj1vlM8M6IY9ihKHyWOi.G8R4os4CT9w","_AN0Yo.Obx"],
["BC9VSI2dOPXnmjeUyQA4MJUPBnac.zE5FKnL_dqD","DzJslb.yTb6zyVfTrGa0lHFOJEEoVXOtV_gQRgqP","5"],
["F2NyvkHZemqJjjKA51lAy7Te"],
["MLw4QWS"],
["QGfrG5.sv5jyGyslECAZtXirw"],
["EPjAbXyBDMRVVYa.xhUmK1cwrwcdTAlft"],
["DG59JeqSqH8u6LCJI8fHA9EfO8p8Pu"],
["BPDxhn2nvUkxOhv8XGsAfZoEQyWdE"],
["CQkEZ6Tp6I0DhYBKMZ.B0EWuRxMZ1Z7CneC1U8jh"],
["LZ5Jiv1ZwA4b_xyE4wExYH3TMUwdvb6xVN9"],
["LGtSMphye7O3vEGPP"],
["b38YBXu2Ru7pf4unONlMSvk7MscaAdeK9TgWSlU"],
["YtXDTEaAUcONF"],
["Lce3cxFb4M6Qxu8K6wwMVxcRtekwR7ee5SHHVj1"],
["CRER1883nHj6AbFvvk5MswTr5EJBF0thTUUSiaeg","FBOIJnLurMPPx6pL607wUKJBweGy_HmcOxtY1GCg","BuVQyWm6zOde0EoXZWrbip3o4uDhyUTRScddRi5p","FuWTb0y0Y17YKpcSID0telg5cgo5aGX9jI.Fze7R","7XLtteU16wqWuRksqvbWKbxZPirku58VLkzw_R2o","0u21LG78oD5nOMUIi7RKJ_v2FJetrH_GHFAI43Go","tllmCMCwJ3EVYo"]]=true:=by kernel_rfl
end Go.Proofs.YtmanimipgpdbcaaGreat
