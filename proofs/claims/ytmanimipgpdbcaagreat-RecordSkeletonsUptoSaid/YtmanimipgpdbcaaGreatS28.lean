/- Checks. -/
import Derived.Test.YtmanimipgpdbcaaGreatRn
namespace Go.Proofs.YtmanimipgpdbcaaGreat
open Go Go.Pv
set_option maxRecDepth 100000
def gl28:List (Nat×List Nat):=[(1,[142,143]),(1,[]),(1,[182]),(1,[]),(1,[183]),(1,[184,185]),(1,[182,183,186]),(2,[]),(1,[]),(1,[]),(1,[189]),(1,[191,192])]
theorem gt28:dat.rings dt9 gl28 181 [["ghlBBV8wB43dwuW2qGT1HNn"],
["VF7aZShWqBnWzpYZFxHwSqxeRMZDAwWqRyC4.owV","G"],
["EhpynMVwtY97jiC0EzaYD8jgT"],
["Kz06gYI8ElqwaL2.KsN5fkgxjh3DuWkAedhNj1I4","iGtZkmFw"],
["EcBqHdpfhcKWw74Q1gKZq5moagGNHuBMsI9JYTjA","6JhBPdc7DYG"],
["6NPGUajmHYDR8V12L3"],
["BQpFg_KNJ.cBnGB.ynQLckg43fB8WWhCzz0Gnt0p","OdVeePvVc6uTfW6WvEa1hLAiHKX3yFWm6meA1jCS","O196qfpdJ.4PiIe58PUc5zcaJZCLTlynZQ.d2.kk","ngIW.ZlDzaHGyerHHEKcuXbHDlSZItg9hFsvv1Mr","WXJbuyS6hHblPI5IKMaIU5Hb_HxMYsJ0wY39OYxP","HmXlj5v2bH5erWw4BsY8Z4ki_2KnNdbUgCo2P7iK","RHl"],
["LIr40OnXhw8oBdOgMo.G3.D9GwFH"],
["_39l6s.cORETQ6VFX5pg5Dl_9UMth3ktkNSk9.9T","MwcwQu.ig_JjoGu6wydrOJ4Ny"],
["wXf4M.T_qsWRn2ZpIlrsxY_kMBeWTaSkX5CSug40","zH24Hko.Jddl"],
["0DevwLSCpSj3TfO5Md8pGCam5Gho6gri5BLW7mo7"],
["Xu_YT6dsKSxQIVaXT69l4TBw3yH9e.55Pl42U1N2","dMbvXSM5RXSupxzbl9o5PauCAV4O4p1O_nOSbMcd","tRuN8yonliFnf2JF1pJTWz_Wf."],
["GsiIGva9GPLolujqHV"]]=true:=by kernel_rfl
def gl29:List (Nat×List Nat):=[(1,[188,189,190,193]),(1,[187,194]),(1,[138,180,181,195]),(1,[129,130,146]),(1,[]),(1,[]),(1,[197]),(1,[197]),(2,[201])]
theorem gt29:dat.rings dt9 gl29 194 [["QyKta7ZPdACTO7vyhIVaJT64O2208lUmo6rAdsLX","PkBILBPdaTBZvxxcxRR1rgztWQktD40datLJawov","9modwbvyBTnorpkEnQYvdpeRVBNRH23RJ7KCPoAp","WdggTPb1fDy10yapZrYDujEn1DPFe48EGwRwvuXF","iqEBsx0wVL9EX1qdbDaUXNK9416xBIcswupIGZdz","IWSjmwIrrSuwV7Q_z2oFxh0hKYgzVwWCSgdOYejr","9lI89q0kD3OXzVVO_83M4A_9QYGx0qyKsyZ2Fyw7","OxFRE0ItSEFNJ8w.smP0EibYfrFWGzy.VvLsqg7q","kmlgE8antOxtnEww6jjdS37.43VPtgIJb1oS0wcT","0qXXSK4gfJxqKEfz2fD9oUS"],
["5cegThBWHIcLQ1bLGMfS"],
["I4z69SOIViNBAdH.3ehFEC4sT2YKIEeO24.nnrUJ","9XQSvMWtHh"],
["dE4Yz0fvrJvUR1PQ4Q59YJiW84tLHLplPgWvJri7","FGrcyHPf"],
["ElHekIzssAC"],
["ElHekIzssAC"],
["Bpuxt2cSEhmOyXfh0aQQ9mkWzTakGE51OyN1D_Yv","1E0kHTusW3iWPSGdgjPi5"],
["kIsjn9Ca1ITcLzlIUNAgszNw4_se4lHmZKQ97.On","aP80_KR32IlGcU3ZkyeySW5"],
["BIYIOZ23UV108Q5An2gEST9SWrCxBQhJ7qK7dOd6","cV0KjzZsPuejj294ZgZo7p_4uqtuE_n0VzVVS4i1","MJYwsdFJE"],
["FCTH7qi75bvzGJ6n7B8.GqacrKJK.rTQw.s9P.sI","2vMrlZYUYLcPlxig3D7LCdZG1CFubJGCc0vhL"]]=true:=by kernel_rfl
end Go.Proofs.YtmanimipgpdbcaaGreat
