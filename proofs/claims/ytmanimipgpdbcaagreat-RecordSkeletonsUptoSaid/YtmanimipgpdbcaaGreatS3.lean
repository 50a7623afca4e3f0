/- Checks. -/
import Derived.Test.YtmanimipgpdbcaaGreatRn
namespace Go.Proofs.YtmanimipgpdbcaaGreat
open Go Go.Pv
set_option maxRecDepth 100000
def gl6:List (Nat×List Nat):=[(1,[58,59,60,63,64,69]),(1,[1]),(1,[1]),(1,[2]),(1,[7]),(1,[65,68]),(1,[80]),(1,[1]),(1,[]),(1,[]),(1,[79])]
theorem gt6:dat.rings dt9 gl6 75 [["TAOfcIa7JzFRtQcrasz_DtMZ8ujxtwGm_.Rgo2qh","598PTxGwm3s8upV5zCJFjoyi7oKRJtunpFrVQSr.","2w4mgaq8KhpONXHnNN88Rc7FCSfqxh.yeCGSOzIF","TtrKukdzFYg8Z...Vc7zsNdyPXTJDkL67ii72A9R","JqwZEIE.bUQYS.WhOV85DydScmd22NJuPRJu3IT4","ocA0hFUlM9h5bk7OhnbTZjA_Bt3rNYTZO3R3hqqm","G9cjGeb.ImXv0pyMJz9TYmVNww6g8hkvTxSU0uem","gP8B9i4kUia15Tz._wAhPzPnXNHSNcg6EQxk5uaS","zBE2jTpnClytbe2Tr2d.Bn71tDthxFtvXbEBLe0E","OSeS78J_Z48u8RBfuLIxjzT5YPXRfuh6MAqiom8M","Osj_ig0GI3ZexIT67iB6lANSWZd4_kGj0BWzbenf","i.DAGFiCcgJUQKq6qb_haTgGeCTDXtZ.C8..GlBO","PClNoupU52UULtw7mw09ovPf08FSEs4NajsJN20.",".X2BtdVyxUHfFBJD8zLPclpz3lDynXaAOvAyInK8","Xj4WY5vjO_Kw3ZarrbXRsMcX8Xa_VWoMbtpLVXgF","nOOs3.mo8pvgtb5skNE9n9_NF_ilr7iq_MoS.NSJ","V20DYdHwV3HhZ32gtEfF50.wwhO9FVNPzsOR_F.o","heD6wDtGB9KCMBrvSMJIDn8SXLeshi32Kz4PBbJM","mSGn4SvWzwKo3F33kaaE0tI8LZywG_UlmR3suW4x","_zk2mYTtiGfSi9B2f3bqvYfHQ0qT4rO3CVs.EVzI",".WdeyMtU0stQ5aG_MuxoCTSMiaL5jGQfvLVyJs6D","Hp7dqlMuNNhtR6p_q64IfbT4TWuguCHyucCu8GAw","g9cXBRYZKFQupHwhbKvadsp9nGwEiJHngNSm3JHG","FM5EEdhbmB6JE7X0RqALgqcd_7GdA7cPqks.hOq9","raK8ZoY6vQjZyEVqpFd1T1Dc3MAnvki11f.KCHJ6","hAyNMes6eMSoBrf.e2.OYNcQMS12L96ukN1joAbu","9yIKNISsOkTNI5sZ3RXVMQ0lRYAYcms6.k_ajwJk","3mlqCGM1GTZuQmJTjA9PbBJaOXJ8h9EL84olWHdm","NFxBpv0FPyOrbQBE6RimcTOVfTmlrNpF.ZTYza6Q","cp5ZlzwzWQKO2Qu.k4DERfJDHSmJK2tLr7U08ROD","FEgqCnxgMZmdcqTtrSG3wgGF3IvHRKt5NW0MKd26","vcyw0l1umZJs2GFjI5lghLKlhP7Xck2TYGV_Z94S","79rC0wayHSDFIBnjOh6Hnhy9UbHwHx2eOEFzmwJ8","IHrwcWJw0iphDnyc1e8ls0eR0fTFRmUqKyWXUWim","tLjHYaxOXMCGLwoYzpmCF93e6vgpRZVcMA.XAQ..","E84E6DnNOOtSBH5vCPYepldx.ue_L2Hl4lbj3IXt","lhxq9zFMLIFEdCNaFUPEY9l.UEpv2NnerbqO8QD0","job_cFTORY6pzIoc.fGd1CFZOPf9ERV3E1dvjLAp","Qo8DAuz_RY4hA..4r_hu5Uk2i56nMynDFjzX5YYg","ph4sMH.iRsT9JvRiUGKowGqrPUBZnQ_CQUXl2Daf","0KqZfQ_V2xypz.8IgnM48o3yji3UaIoyICofK0sC","wNJcttgnVgMDfkhYJ9BHphzWX8sB6danNdnY20O7","KYMp0hdOTOPlIQnUSH5dK0uHq3oIBGgzZv.Cw6zY","EyTZonzlTK"],
["ECI1ROmYaaK_BE_3tY6mZfJJtRe9YOialxE1Hwo8","ViSuqsQv7UZ9OibIz5u.CAwd9J0ebjNEOu1K1rj3","lsy9iRF9pW8hgKNx0sgN3dtbbkUZyd_6QS5YL3mk","prS304ObWaJG.Nn75VCElKKZS2VFLIH1ovOO9"],
["CaDpAJmirhDOkgsVn"],
["YRjQRgcZ"],
["LGtSMphye7O3vEGPP"],
["uTGpjNrKpSgfnCb8"],
["h4dTIQBcDMQTyf2"],
["y4QQ0yvuw3HjAybbwS5wDmTzsWiDAHlhxAV9EIo6","HbK8Qx1_yRvG2OeQBBiv4S6QChSCVVBlylO9qZfZ","lMpVGCL.vDfcrWaxNZTtKP.BrUAK7kBX9sVxeN48","RmAkbWlFoDp57b7KfOuNOsUDuXGC9DdOnEK1A.22","HGXM"],
["jygy0c_WPoxrfLB1m8ft3HlOkRRUh.lG8j2wxPnp"],
["FTj4AmZZRNn_gkBgD6qjcWQHVkTGv7ztkc5c.Ijc","H4amem.TqC_wBpj4QoWecMUh.NJdq1ysN9fwONqq","H.26qob0C7GCt.TGTVFQQb4xfFojTTCHv"],
["bOhCE82HO3Ff3LIgciQO09rqaxHhpN8wNqo.nJlr","kpaum2vupi52AlaFRQPlx4I2_0sfvrhoLfQadCLr","jbb_0mpCpM43Sp.DfjGQtYlycxRK.BvWkNpLA"]]=true:=by kernel_rfl
def gl7:List (Nat×List Nat):=[(1,[58,85]),(1,[58]),(1,[]),(1,[88])]
theorem gt7:dat.rings dt9 gl7 86 [["DbQwWIgp7pl8RcmFzkhbTCQEMSc5_iynCWKZVeCV","d"],
["mGr0rhqI6HgS8Y6"],
["CPyuVleDj"],
["BJ1QYtQOLejSc0OmkLG8tVHsvOR1P8MJRa3qZhPY","rGKTVduDlC1f5HaiRDRatOzdPCO1u0GNzerCKwVo","EqJ2FfQkiTfwCXzQ7g_mHttqoVwkyPAsb4ZQQJd4","Z9jhZkFY.qeJDJLu7pKxaSysq6KMtqme.z3xNd4c","Y7vwAOhihBRa3LXzWgz8UilC"]]=true:=by kernel_rfl
end Go.Proofs.YtmanimipgpdbcaaGreat
