/- Checks. -/
import Derived.Test.YtmanimipgpdbcaaGreatRn
namespace Go.Proofs.YtmanimipgpdbcaaGreat
open Go Go.Pv
set_option maxRecDepth 100000
def gl57:List (Nat×List Nat):=[(1,[58,334,335,336,337,338,339,340]),(1,[]),(1,[]),(2,[]),(1,[343,344]),(1,[343,345]),(1,[344,345]),(1,[343]),(1,[344,349]),(1,[343,344,345]),(1,[344,349,351]),(1,[346,347,348,350,352]),(1,[353]),(1,[])]
theorem gt57:dat.rings dt9 gl57 341 [["FPHsfpUB8PokkAgBkdUtuQGeEVn8tgkQjgMoB2rD","E5p2yCKQQIyPkICKHaxwkLi5j963xjFmjNlgCt9G","UZ2fG_5md6itZyutGdN05pvQYoBGdvvHWEnKVoyI","iRo3ZJZWpqgM8v9pont0eXVS_VFj1Var5mP7NMYY","B8bWct5CXllS6XY8UV2S_Smd0HrHMkUKVoqGJkfx","JtpMkXxagHT.vRgDnmft8_Pu6gdBZ_rL54p7Sb8G","ggiwx8bmbIl_OQa.h9X_F_BhUqbRUT_y3VCezfxA","gHC.Ik5kobF1EAV1YFcVhGGXKpZGJ7e6hLPD.oqA","PDLbWhNo9hvKA.fH1VqVKt5d.gZN7dLn_0QhCj7d","voGwQZWsheIpkDCVf_L8EesMqalQEulGfRjRtPod","DePqniKjxOQ8fOEO1qyPZWO2Agi699hFFVvTAhcK","HvRl34McfFXIzn5LMilC4pKE8QYFQ1shWEm1zqNQ","Eg_vOSMgBQNpcWioMxN5pc.5QuB.6hHihKnEPI_P","d3vurcHHb8eUOFJexwKk_5sQQ9sOneYAMXSxiLsF","If9JPSqEldXOLoc1m4oQ_eJ_FcBYq2CQV_TCEL0g","fy4LeEDMHz7xLhWv0x8xV1xe46LU8vJ5c.XSmuoS","tYlS6AADysvbHjzKJyV_I6nJpXHBKyRNfC6iP_ln","xOvWCxFircZ2ERiYio3cmORH3aNYDDA8u3LQ6ZVP","dv0s_.cDzF77376FE6QmUxNzAHBldTZwED1aJc7_","ilyuTzkGOs3leaN.s7UxEvC3I6FL8gwWQEcu2SNK","dOf8hulllYJ9zrqawKUqbFH4hSWpmxA3h8CH6mNo","X07BlWR3CUGXD_O6wx8vBNYNnWl"],
["RpxzP.tGvidsS7SE1.QUvvUT.x_n3XlHUP2p3_KV","6ChmnOxZhly8RX4zViLopnCpsuMnueFXTbeogEgC","HGhRmJ8TwWNLE_39JZp9RacGjGH1.hCdPzKsHnGw","k9IYr6f4NtJKQRzBSnhADoK6qfvICYQSipq25NjZ","kXz9FHnZhjxbpYuyOEiPvYWKihIRQP.IXVFwz2.n","6Kfqnr_XXwkWdeV3o1BLwAeofj17p0Kox3mozxVz","3C6hToNtZx0LVfLT9tJ9vtRrFSsoEIgD"],
["QD5GLbZrENaBUAhO568vjg8T7qUQDnCyhvdQyYVh","rFrXY"],
["Bm98ysdV963z00OfS"],
["BExmBRbJvg3UoLiB9NQM93rj9yoL8Z0RUS5j9Fed","c2HNJdNTX1cIkIShw3APQ"],
["Ec4uP6D_iFkei_Saup0C6.mUJKL_SI70DIWjvz6s","HGoaTBdbYutXCRwr0GrvbHsd9VwPtoCgEAFyY1"],
["CRqGeqnnC.GmS5hv8QN_eMJOfE8g_h_Uy1bYZzlu","HVJqGMdLpZrfhBrQy5Pzr5NQRguzTVorYqIfFQ"],
["B5r__HEEinoXY4f0p9FecxaIYzKGZJdRGxb.N..I","ZUZ1Wk7Yq8jSPw7HNnkOU1wpxIk5"],
["BfCAFMAPk9_ZeuyvP0ApDXIfVI2jPr1rgjGHhSli","bKnT09MCFE"],
["CDmCBLkOTf55_RaXpVJgsRfD8jMs7H6rFbpHavfY","VHi6LTG84FN3IVEI1tIYvAI"],
["PwrVHGbiGEidqpibZYymXewRKNh0LyQw5Ahtjvhm","Ze7Xu15EazdxEfcIp4gwjqehONU7TFq7yOVzB.VN","1ctojpwIGpwwWVGy__XVC4WmXCr_UMp_dF87d8vD","95qjAsEjWi_qNg5l.ujibG1BcF14l3AqbNqw3pOO","JU5ViCADe4wvmOj"],
["yUrltqjAeLQKpoodHZST8EuOYpNqvq52JkagWS6M","t2yp1qRlbUs7LaVeHiGESCv.jG9VKB"],
["D3hMP89sOKnGNm1CkBJvxLIlJZc6syrhlB172kfl","MgeIYXklCxn.yT_hkYpeQ5Fj9kLSmyaHo2mizVIg","rvxA2tCGkQH1im1kn8zbI7anrKACnmZfopZZTIPC","a5eISxi3RnCy7PvmmD0qGwV67oBmz1kwObbDOk2A","UxHfZEFeVCgNDQCnffsX5drVWT.sWE59tfuJZEjp","OkNsdf6cEpho0yG8de3g0uSYXq.T5GBZ6rgYHul8","P8kD3ZOAmljbirICUS__ts1fDPMLpFj_zcirXnjt","wCSkm21OeLB"],
["HfxMCJgK"],
["Kp5ruVlAQLrzD60l_iwFQ2NwwJ2tWiYOUxpPezT_","LQHiHAWUrDpF_HVTOusRmT.XufgA.MS1p.7xE8_S","cq9G0r3nug9P7r4g8b9YCx.XRuPUg0sMsfJ2GyAm","c8"]]=true:=by kernel_rfl
end Go.Proofs.YtmanimipgpdbcaaGreat
