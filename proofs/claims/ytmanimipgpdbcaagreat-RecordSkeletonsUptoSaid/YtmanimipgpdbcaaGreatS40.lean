/- Checks. -/
import Derived.Test.YtmanimipgpdbcaaGreatRn
namespace Go.Proofs.YtmanimipgpdbcaaGreat
open Go Go.Pv
set_option maxRecDepth 100000
def gl50:List (Nat×List Nat):=[(1,[297]),(1,[119,297,299]),(1,[295,297,298,299,300,301]),(1,[222,223,227,228]),(1,[1,214,294,302,303]),(1,[]),(1,[1,305]),(1,[306]),(1,[222,223,227,228])]
theorem gt50:dat.rings dt9 gl50 300 [["Izhlsv._Wd1XUdROeFZfn0MNhf9Qih5mg3C2HVTM","poE5vTH01lN9mVnIh4T_pNx5fB9tNHGmaAOinlAd","DLK3yPx3qY9C4Rb3H5iUPPDSkpwftxBNRwxYY4N1","SUDNUkseqFo.GPfBwVf93EdzK.t0j04TaFvfQwUq","lDYo2gu8n.2tow95dowQyM3.8xOUaue8mFN3SPYW",".OOwGyuwSDlRP11hqCBorNJu0VMgb5eEmxYt.roy","j57o3OW872hxZn7cEh8u2rgHB0S2mWGdR"],
["I4G9KjGZS7XKOPCK44_EauB8nQmi9Q9fAhihGl2H","L62Bv4H2FuA3EcT_K0ra1_0HhgnoXP5RYy77WeZl","52fN7GOldPnC.h86jlPs8UfPP1Nvi40_5Gnfkz6W","YSDFZumMAynweYytABlzHBs40VR5MbIL63Z3Fdfb","ZNrU_eAJt_o_.l1zkMz2KiOVCFmXCOu8FSC0xnxY","eAL3KbQsmV6XUp9RCcin1LP2pXhdWztlOBoLWp93","SZsllV52fOsLIkoZrrb2cmutNEtm_NNiTpRm0M3E","7yfe7nprjIybw2vdlMXlzvz9XLVP9y7Fa70t9v_0","CFEVpHoYQahsdNIm4XsOi72XiFCDUUCaTdbJmtDL","5ihsG.z.oQpr1fGrSILqD8sLL"],
["DD2Zfqvu5DNcfI2PBRB7xNa00gsa6B6Bn2e84s.u","EVbp0DLTIlKOemypUfMWsHZoFHwstGNk0rD2_xyT","dLVg7XqH6ExJk3DE.gZj1GIXpGfCljto4dYx9Run","b8TrpG2hB6n5AXM7vXUL7h.fdXUQ1G_.rCxeE_j9","Jzo3gRtIlkFQQNXj7Wq70KiQ8eh5_kGG.N0nwdoW","2uCMsZYAqsem8zpomhqpGQ3LirMQ2vfO4jN23YlH","jaPNl4np2t_op9wQrC2XzDijKfvpZPksIGDtFfxj","TyIKTQn6VLe5pCUU5kj1e1byCI3QSmZGpj8DHYM.","4srnytziVMPdtfLa71qmE6mPqpv15K6cRQpy5Rf9","DTYy98F20nPhYzvwtTz_NKqk05WPhOTX7wHL1lQn","r68ZvT7EfDRwDlEYptlza_ON20fnrEJh2upwOmx0","E2.ce1IAwh.mXkcCu0A222jCmvh3LcElAWw08bji",".vJk8Hl4KsfM4lpTEGOZ4X.s5_5rmjxtHfYJdqIK","CK3xM3wF1X1krxJVht7NQqV1jxBmQEjNk5IJr1Gi","diCnRm00IOL5cjeMuke8PENiw8YM0VYcY6mvmKJ3","CXPyaSxvWJxc0FBFltQ9UyyBcDxbC.f5PypmIx.l","oSwj8daKHYRsJY3OYKMY7UBjOZcdX5qnYnkumArj","0fgp4iCi8DRbIBC7TtR4hLeBuFuFYc0CVKVcST49","Bd9j.2O.Y5zTucmGpJkUNGJSXo3P8IS92jkaPtje","esMryWkCI02qUIGtuKqbZ10ae3g2QqjzEFn9vvnq","Ih0mDY2IZhsdb9sKhTdb7Le54YlARAeS7ySlNlX4","fMBPnDa_oZ9GT6"],
["HSZbZ5e4tsQAihoIN1o5HVoZzDsRw550bJUa1"],
["FdkyUZ1bUOLE4c67TOLpIocii._Gn3dsZUTQTxHs","k9kIT9fmz1tz4xiwFLXneGBrzHZJ3x450qxARx2R","HDjJyK3c66jgb5rXwBNTjJ4WBIctsLw"],
["SNNHutdTqh9.rd42B4AsIwI9ofz47xk4W.8p.8kl","7GZ8Bl5D_tYBV0laHiCHX9.1hJ.n8EbRY7epDcQ.","x6Sabt1PfJqshDmZq6dES5a9S1JdfAAt.Z5L7D1c","CzwNIXcX40BGQxNrF39sZLlrx_2perAQ4vQ_SR4R","tLI4QmbvvolJbWo9INyAyWpvoydEU4xu.KRDnT.r","uzBG.vH8tDLGUG_qx1y48_MIM"],
["Ob5ZKwQLjkgtEZqZLugRCCMiPd6k1eYAnjYTOXcK","l3UuTUDk1nOr.jyEnbmbrCC8NyI36OOEGftbSQWj","oTtNedVM.BETW4NWpp"],
["JPNfLC6_hO8pPOYI"],
["BDwVRPSS27lL9MEfCpIhKiJPCVJpY26xCVQJ6"]]=true:=by kernel_rfl
def gl51:List (Nat×List Nat):=[(1,[1,222,223,227,228,308]),(1,[307,309]),(1,[309]),(1,[309,310,311]),(1,[310,311])]
theorem gt51:dat.rings dt9 gl51 309 [["D76gOG7UBJqktcmxfjOWRdyjl1_GT8beltG7aVha","fWweaJHeiBWJH_xlNyb2T57Yi3dXXlT7pUo9EjAh","3AgOkMwpBbCat5LckBvBFR2cq5zFcfvW2"],
["N3hKw7GyWJ98WxDUkowg_B2wiWWaAr20pItyeesD","zG.Y8goCz95FDZ14qwJmDjYh5PECi90rK"],
["BAaqGqOjCDGvUG_Ym46ygipekAvFdz5BBOWLxyD0","U1yRPtYVHUb2j2ckmNEkzRRS"],
["B9jBcyWLTbWah3sevh9odb2tsir4OQPR0QlB8how","l2fNsEaSgg8GCFBcLLvIXRpUXKROiAq5OrmJYyl3","1TeCxwzmPacVNK_._x11hBY6wdagq27PLz6Y_4MM","G5p49xy8sXPGSPxJd1w0pCeSwuz3xle2sSBNxByr","l1LQGJGbQ3pUrLHvIGY12U2RDLYc_ADKdiyekzZc","GRM2exJGd_dtRZQg9YTgDVBlcBiU5C5vQBg3grHL","naGPoEjQaPgswx1VQggIZucZ0twAXg_nhLpqOlFD","cIIfqZYuX8Ri7Wm3oiLiykVao"],
["BCJApnRAAkw79gcnj0p.r0UOPudNHPdWjX1upv4C","1lpZG1H7CzrgEQDKymQqHSerdZmsKL2U5DDCcSmJ","6u_VuppftRqFroP4JsBw0LKxqwHAfj1a6vj6TlRo","aIjMiFEXcewmEFEhBzRvzMsaL37Wmz5C_OQJhotY","J72I7hw0FQ2kxLbAy1Hv98HrOUCs.duYmNS2"]]=true:=by kernel_rfl
end Go.Proofs.YtmanimipgpdbcaaGreat
