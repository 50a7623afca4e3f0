/- Checks. -/
import Derived.Test.YtmanimipgpdbcaaGreatRn
namespace Go.Proofs.YtmanimipgpdbcaaGreat
open Go Go.Pv
set_option maxRecDepth 100000
def gl37:List (Nat×List Nat):=[(1,[219,220,222,223]),(1,[1]),(1,[]),(1,[1]),(1,[1])]
theorem gt37:dat.rings dt9 gl37 224 [["fo4SKCAV9j36otg7QuTUu8w4EtyitCKouaeVLMXg","OzPSlqfBjbop_jaTyyrv5k5dfTZIN12_VnyFTNwK",".4UCM7q.jE6aERvwJzPWHxpyc0TGXyKYtqXkfm4G","i5zxW89K1j5rTRUguNUPKxkUQUZ1r.twBTJd_GjY","Y_KBSHdNS2fx6NXDJWmAvBSQQ4RGpRY7sEYUSkor","1H.ENWLfvI0Q.pXz2VvRM.C.Sg6.kxJAPRBvOy35","uNVflvkEG0o8PtXVB_RsCznU2JsU4uulLYXxV1TQ","oteRi2R0pcAsYJ6x8gLCWmMfhu8zopOZofJ89V8u","IQxFYA_1jTJlh1stok5WGI5.Zz83T5Msw_gK6uKf","BK"],
["afsKHRRmJz7qoxDKAq_Yg1"],
["gH6dD53cvT8x8ONMbIk38lI_VgnVgKmJs4Mt383X","mWh"],
["C3E0COtOaqF9cVynBnHvelc_NKJaqkiqavPay0bw","tDIAbkSLzMAJoNJmMxImrpv4sAjztsGUuEPnlZx0","akLBXmw2y1Os9COXReHe6QP"],
["FWKucjl8C56FDtctGdk3UAYlX.Wm.hzZ2pMYxcpv","YnWejoOJg5BXuIiGNXu801eXf5mu2uczR4itfit8","3TMRhg7n1akMQwrYaKtA1uZt"]]=true:=by kernel_rfl
def gl38:List (Nat×List Nat):=[(1,[219,222,223,225,226,227,228]),(1,[222,223])]
theorem gt38:dat.rings dt9 gl38 229 [["W9DGyc0tBdQP8kHSh67C0ml4eABh1LXK3ApdYRNG","TKAx1n46P4g.v12gVhrA0O3GNkFIo6OBOEBzV4M.","9gesu.11u_uug6ckt3SEHPGiSgsyIxRolUhewenp","ilb5uYFWN3GzN0et7kDohPCfYCHNjw5NOy_kvUN3","b540AZs7wCVDPvLpaCvii1JexsxQY9R30UkRqy6Y","Hx9p_vy8K48uXvx58eI6UuhAjXjiBwRt7jB3Y9H9","7.RbPjGEGXcUagUxk4WPfGxKdvjbllPjoeY_8lDC","70w396XUGeC1EXkZ9HRd60mZE2B6B3"],
["Bu4jwOnwoORXnIFXx"]]=true:=by kernel_rfl
def gl39:List (Nat×List Nat):=[(2,[93,218,219,229,230])]
theorem gt39:dat.rings dt9 gl39 231 [["Mfv2jLGfyoQutWQ1JM7U6igcLh9EmhxyrBRfeX5x","Q97kR.4_nqW7bCQnYnQc66jlGsIfLENzWkk5.p2Y","1ieytb85CSMeTXryO.TOwvT0NYWYoIgwlahJO_.u","8A6ainAg2N.VVhxuAWhECK2b7iCHT8J7HPx2iMvI","FiWJGj_Mn8FjvrFy9WFvpAUDvjCHm1MrGEw9i6_W","czYfI6naAbbrPG6ygBEhDZNOra074sNvFLSz6X9d","pCtU8qy9G..7did.bH1mbh4GVif3S0zILfOSLt_g","iwMOvLMwoAliOjV0kEft0t7__HUHqi46ytTV6Fnh","HRjHrH.Y2Vh8YWvEOeEkbBFRmRrtJVSXayMDkaRz","0yI_JNqLI3ngiBJsc55jSkmbjNkorJi7JFq.Wwji","MDh8aly"],
["eNXQwcWU_4T8wPH030qIoQ7Q4csZACbV22V8Tbl9","t2N9cisZfpOA.bOeHXxdbq3gNqSwgPFKP6I138O8","SsWt1qvcP2rOYgLJp.gysDg8FM5j9DM.iFiqmLmi","8GV6jeTn4Qymg8trTPVHDU.f0gKLM_6f4wRY0fZc","1TI0yP3cu2X3brtZiKssaOIDsAzFw6GrpJ_O64Jb","llvL1f5kuS5WpNSV7.k4Bb.rBfr.NPolZ3N7MGud","VNfNIHD0GdIoWOE1vpzddp1ZBAg3h7woalBjqhha","RVxTzIxGbqhmeEdnsaq601g4brv9VpfYwB.ohZJl","Mtegn.4RbvdAF1uO8CCS"]]=true:=by kernel_rfl
end Go.Proofs.YtmanimipgpdbcaaGreat
