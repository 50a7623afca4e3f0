/- Checks. -/
import Derived.Test.YtmanimipgpdbcaaGreatRn
namespace Go.Proofs.YtmanimipgpdbcaaGreat
open Go Go.Pv
set_option maxRecDepth 100000
def gl0:List (Nat×List Nat):=[(1,[]),(1,[]),(2,[]),(1,[5]),(1,[]),(1,[4,7,8]),(1,[3,9])]
theorem gt0:dat.rings dt9 gl0 3 [["Lce3cxFb4M6Qxu8K6wwMVxcRtekwR7ee5SHHVj1"],
["CGJN9cSPZoLS_9No9DaveB2xeqYUKL_SfghtLpdp"],
["CkSf5z7myciizYS_Cy1e3teW7Im5"],
["OW94HqFLs60K3WpP1RUHvyqPUVyqpqFKD8X9KX_g","c2uu0WosNOlDcsw9lwra"],
["LGtSMphye7O3vEGPP"],
["WELpgZWtAhkSVrERAt40BktgcFZmyokiMwzIlBuk","RLe3TQNJWPde7NXul_WxQxS_dIaRuLcMFYJps14E","ZAzzpaGJM.6g_froNHZqjCEkZ9DFUo9IWZ1o_WTQ","jw7Gh3mEKEvNCKa4HdBZhL3AxUOBrq5UjpoeG.uQ","6xoxi29jTGxRvhPxLarpaz4zT8c7xLOWn1"],
["IkOTG.T1KaTw5JpeFeElSDO3lWHl.LTO9syp7nH.","p5sfBetb6L8YUwBV1UmPltQOpBCO.IfRsaVlIb2v","GBRunCliUTyhVjPXwe4Dpo9qhID3niSkmZOZwZO_","V5HFTiReSSeNm8Fz6_3hjnpczxLlsXZnycvXex4z","WEYrbNRLDOF36rkEXcmePuH5iLqrMbLrG"],
["Dc4QAoXSgsbHC.gOm6nN9Phocfc8k031SPh9RZO9","BcW6md0sm8qj_EJ5ypXym.sVPvLLuswfdAlu5aLh","ZEPpVhQhiN3J9Cw"]]=true:=by kernel_rfl
def gl1:List (Nat×List Nat):=[(1,[]),(1,[12]),(1,[]),(1,[14]),(1,[15]),(1,[15,16]),(1,[17]),(1,[15,16,18]),(1,[]),(1,[]),(2,[]),(1,[22]),(1,[24]),(1,[21,25]),(1,[26]),(1,[23]),(1,[28]),(1,[21,29]),(1,[30]),(1,[22,23]),(1,[32]),(1,[33]),(1,[34]),(1,[21]),(1,[36]),(1,[]),(1,[22,37,38]),(1,[39]),(1,[22]),(1,[41]),(1,[22,37,42])]
theorem gt1:dat.rings dt9 gl1 12 [["VoLOt9gRR"],
["lMVwh9VRlSOp3Cvi5"],
["bFnBr26GNEneO82JViqLi7RL2OMcBRoRvS7621EK","huSxGUK3"],
["DA8Rjb6Ziq"],
["zvmx2zCjm59e.ekap3LGLBTEujjdR0pB"],
["P0DCoRTqzBPtbWphXk1sLNzdvROO6zgIshL9v0GC","T.EWhS65FHWC3hJIYZJMjgsUPzP5U2CIN"],
["IVTvnnQP"],
["cYl.2Kfjxdg0bRxRZQzHx1TfIk7Tj6TGvm7Ht.os","kmgBTHuDRWz5XhpizXFHMrBKCP6zpNRtwP3EJDne","8NvioZXjGo5OgU_qGSZmJsz0nixvSJJW6v40CqbG","8aZR5WLIJ.EhxUwjqQ3bc0hE__w5voprist76Exk","akqrvyRDWONRxeU9zZ1TrYt0eedZgXSH0SO6vYeD","QgtdIjHsrBxkjI7O1CQTwErRA5nIxmqDOCNU7jgd","6ZUu2g8AcIHekUY.XQJDSnS06I3bXv1fyjymHAgR","o84L0POMu2HoNjb.wmYnUa4qwwDLmD1Ap9Vm0P49","SoCioT7sSdnIHscKEZBlvmPhdkeb.ZbcDZQvUXys","xS2JE7EYmKcEADb3PiXAd0nHViaH4fP0devw1P1c","fRRnubpzSQCwVqpHKzDsNm1uo98L.KmFCAgjJRDR","kr45I50Cinc"],
["CVlxpxbiH0l7LKqvjdda4aN7Ma2CE"],
["Cl9DULAQmRALbZtEbRjFNF"],
["HI_AN49J0fQrB_ZTG7H9_HX"],
["E7mW9.ColB5.hGaBgsK4_kMgDK3f4nboZQWgzIGb","lg0jqjJOivfr.L.RhBKaXnBiAI7.Gpv06rMzsn7O",".5KradhP7DnL_xzTFTtn.KiGHY"],
["HfxMCJgK"],
["CgSv.w2ySWEDqxY7WNwlgSkox8CVCcmC74rhxKyU","SF8TrDW.vX0KWZ5UsqPvkuDDgmHimJh0ZK6ay2YI","TrtFUa0JYjcz"],
["CQ.arueO1"],
["H38qkKJmMbpizmN.pBp9aOj.aFMeqjVzoz0FaLmZ","LubW4gmGFjL7nCqo6JFl9LfhtYFNzK_AhWTEnV1h","UfmWWNY0.QybVKc2q5fTk.03GHq15TrCbAG"],
["HfxMCJgK"],
["DRM5K7S4wdGpbCS3PAuxbP1I2cDjhRI2q51RDncX","NtRAW7rpftRhTd3jdF2W7WOK4AFehtfWQhbxybWx","WszPaE"],
["CQ.arueO1"],
["H38qkKJmMbpizmN.pBp9aOj.aFMeqjVzoz0FaLmZ","LubW4gmGFjL7nCqo6JFl9LfhteATUFufzktbgoyw","PoVJEgqSTtofzhQJdPCBf_0nP.mEhJGslVk"],
["1Ph4QugbH4LHv"],
["HcO_8EeTwzWet.ngX7OuAVXTKRTPFP6WdsVXJHAo","FVbKgQlZHSewErnqlNTIY4zARYDdCwaFyxgZjkY7","aLXo21daNKwtbwrXyF5"],
["HfxMCJgK"],
["WeI1i3ZS2bzxPnoJ94x4PpcdOezA_w4yWHjwF0w_","lZpcxSX5cClc4LpryNewjM6i98GzcsUXJswBBTDl","4JEjbu5pA2tp6HCrlJ_ABXgOWd3Qw"],
["HfxMCJgK"],
["CwHLyYUHXJTGg_hZI_4juCzlo7UZ0rxp3qB6V7GM","uMPb8xBxjtXXarKsdxNNY8WhIzTO.65ydIQXgp5z","YhgZDr"],
["Cl9DULAQmRALbZtEbRjFNF"],
["Pf_Q0EgTFq2wTV"],
["DbO.67zEVk6MKTsg6aY8uGyW1hPyiRymivp4Ytmt","7ke5O_qVou5SVkRmo6xaify18z2ptKv2iJM76VzO","w1YIl8lTo87hQWXkdy9e1UJSq9VuEsc4JJBjgP.d","4GsQPpHB_"],
["BpAfjCZDf"],
["Ix0dHwR4icsbmCDvSFMvRSxH9sYNULhzzevzq5ex","3C4LC39GjX2D3kkXksOHKUwGGYA6aSlvHICg1jR3","Pwy3OLAi85CWPqmDhIyQ5gBtZZW1xG91.GB_d5cr","BwoyGEvcufhSEQZ"],
["Bfnp0yf7sLL3fe"]]=true:=by kernel_rfl
end Go.Proofs.YtmanimipgpdbcaaGreat
