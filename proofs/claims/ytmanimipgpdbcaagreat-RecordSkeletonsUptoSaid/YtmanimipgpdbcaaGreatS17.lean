/- Checks. -/
import Derived.Test.YtmanimipgpdbcaaGreatRn
namespace Go.Proofs.YtmanimipgpdbcaaGreat
open Go Go.Pv
set_option maxRecDepth 100000
def gl17:List (Nat×List Nat):=[(1,[129,130,131,132,133,134]),(1,[0,135]),(1,[136]),(1,[137]),(1,[]),(1,[139]),(1,[140]),(1,[]),(1,[]),(1,[]),(1,[]),(1,[145]),(1,[139,144,146]),(1,[142,143,147]),(1,[141,142,143]),(1,[]),(1,[139,142,143,144,150]),(1,[141,148])]
theorem gt17:dat.rings dt9 gl17 135 [["HHc92FvldfOmQ9xmz20auXOu_6dm5o8zekHIX18J","iPjdxHXhCQXhsJ7TTXGV1OMQYv_5UObrLCXqkrX7","t8VloytLBmYAFCQQES.dpRyqE"],
["m6C_enRs_pr_s2hF.7sXuCCdD_4q21dDG5hRFdJY","nDwdLH4w1hyxqYMZelPpJGbShiXCTzB.QzBaLXg0","AZ1nH4jrB5zrfEDX05yk4d_hx6_bPmIL"],
["Dxj3o6uWyZXDjbbCXqjRuAs_"],
["Efv3Vc9qkpy__"],
["DvyZQkcctCnsNDhhNKYaceacsKrMvsBiEAusIRvQ","vtv7h4opkYgD67i5rgvDDaV"],
["J_oj_J.yCtar42O9YM_GN6LiyrYXwOjqYwyulOSo","Mp5EfajPkM5rM"],
["hkEf2S..U_Sj8rkUgbCSCqzeLN7yFHp"],
["HXaE_hFjSgYmg_r0"],
["MHtxGRZ89QQocoX6ej7LHnXK"],
["Pc9Y0jOFkB0dkGEq1XOUlRQVUYw8RH68kq7z9OTv","hByChOXdSy"],
["C7vuWqU."],
["EkcuOKb930ZbH4gUjF_TUTxFi_.d.asz7bU"],
["Cv6teD4VtBLLQaOJc6V54sNm7VIRE4ZDFEYcDg"],
["CLdOsNT9Xgyyve7ymiq3JfqMs19LD4asVKcWnnKC","w665ZIwrhCtHAWycerQFpedkQp"],
["EE.ZtZ8lZWai.zHkz208trv0xQs04grZnkGFXfeQ","_V6ab"],
["BTaxqd0EcTjYlJXh71nDRQRwttgX"],
["B6Q6N30adjUE7lthsTFP7FjtzC1rAH_fJXrT2P9o","cj20vdsf8H5MskEvJiJCNLF2GKIJYhLedHr"],
["lA24zdgVZv1YeABLELHm7ozK4QvSR0UziyaVmS5v","JoZr0aaOT.iswhLU5fZWzlkQ.s0CAt5TB3aIdGKt","o3SQSkwk3jhZVfchDljEYq1qkLuMX97GtgPwTPjm","GInju2YgcwbeplTIW7oBaWP4f0294W2qqy06w0Hn","h6eH_Tf7WpcUhPi6y32KdmHT"]]=true:=by kernel_rfl
def gl18:List (Nat×List Nat):=[(1,[141,148,152]),(1,[141,149,153]),(2,[139,140,141,149,152])]
theorem gt18:dat.rings dt9 gl18 153 [["LFiLBWSfdb.HurnhiFW2maKVF7gKhHPK9vHOBOiu","07H152CVUodGo.mY_1ZRlHr46zPtEu1ox1yV7HlT","cl4i9aj6kL._OSFrdm.DbPFQSfip.9mEqui4Tk.9","8CNYV32kABq9G_NuLYD7JUsNJ5IYVe8ZZbsXvwad","D8XiUEkJz8oV5CsSlH7Ew7MZnVDTd5xzWiUwy_o5","R8pUh7.MFAkzOmt5YhZ1jBjuZj_Y74gn9y2D4i36","5SP0dqX4VsD.wtXMkqnephGM7waNnD7oxM5P6jTL","VYKofaYXTQoYNO_sZlA2mecgFZaMVxvH3YTI2W1q","GNsli6PkEywUkPr6fBTdA9NqRsmNxtz7qA9LYmU1","bOGQIdrHBpRKXHgsUXAeqZCylILrw.9o4f14N6Ip","ntAAp4xTpEi10heD9IpVjLwsBa77RK7gCa4q2g.E","Q1Cd03Qd.T_TR6dV_s1QaDwsFKksP_jVSj1d.2y4","k7S9pDIW7Fa2xy54QsVjKOBWTS7b62PWB7lnFm"],
["B_XQRiVSsrJY5N.y.vNfdaj7A6xOLwB8G2mjcWaR","LVIbx0dlCKmtwHSU2TB4dus_OtZR0SKeK1oI0lge","cDjFXfEBmTQ4w0kKs8aKnUyV9LKPM0Opflrl3N.g","gAllN7ny_h0ZJz3V6dyDXLhFntL0z3TiZAsZrcb6","VWmW71TE0AoubigmLcHAp73RI2gL5u2ErM0wHaPZ","g5cw6tyweFrq4wp3Vc_g9MUh5WaJYSeS.WKCACDL","ciyA8IofN3ESF.yQhUM6xusQrZD0V4aaf1opavPU","e_PPKKWBw.9mswoWBjmO1DHVXwqKb.GrtaFfRuWu","s6tlbNoXLsJ2QVHCZakW8w_TQshrkeo_gHUXLqUZ","2Wwo5y.TWslZmRl7F96krN7L3Ddu34_PYTOAgoVK","uyGBTjux6zuk_6Epm2s.vRKIUvaauVoQmEWbb4Om","g0FXsqOZkvgyGOx3rHWfa2ib2d9zcUHN_5u_lXiK","Hw7582PX6cS5uMB_miJ6d1fCCYLw7c.0KunPy"],
["Q0Eu5RSc5zt1veVEFrDTkJ9oIOEVAtDfltiiWVVy","6_GNr682lKItNkqETkzvdpOqhX.b6HhStQfjlCl2","cXrjU61oLWBPm7XiVKjfdI6tLPOg40sVenepjyCx","dgSUn_mm7VuOa8e8MsrvOC54BbB.Om_PREv2f1J8","2Rmjq_3kAw0dIgtEXZO4mF7UkUvJJj1CAXwognZC",".Ylu4AnNwo1Q7a0obvfqnpNG5cYR_Uta_q9jDyN9",".YUBrfaTI1sN4HEhnh1JBKo0GTf77ZFDSrKWFGW.",".0wE5Yjdy21paivu02k3JcyefL7YCU2ErpLgBdtV","C3klgQ"],
["OYQmMId8pRYWfXSbn4N_cwlNx2EjUW7LkKjjo4aY","T2_.6zITwDmwx1PSNnX9kr8zP3VfydIYfIwZtoZE","iglWAl4Si9bxeWBIqxUSwA5vszxlh.Mx6UxoIiyW","EDLx0evi9U3Og3NESNgfj1jnNDnVi4KwExShREy7","0ohJ6tIVQBT9k9H9FtOgdERZywZ2Qahy9RP.03Ux","NpkmU5HFZy2J3UHjV5XV6h_Jj2THtvehZTkhfhTc","eardllAPmrrXgmm0uJ_wG3YbYJFd97WrcnTL0QHy","8oD8DjWXBrKIj5.eyECZjOBPGVxBddBs8Qj2q351","OWa9Dqv0Gd0BkKRGFZuwFRe8ugb6ZrJu_SqhBGj5","OGzywCO.8_wN0vQKEuF1B5F9LShBwXi8An3_46e1",".EUnTmBAJdTlR0N9CYHjF3M0eYlmfof2f.vdBxEv","GWrvHoOXWBTrYUZMK95e6BQ1iHnedrv3zYF4918h","Ts_mD4V_O9PCr6KJ7MC4HRv1CqKQNvzkdDkyltA2","v9Nu7D5Nrp"]]=true:=by kernel_rfl
end Go.Proofs.YtmanimipgpdbcaaGreat
