/- Checks. -/
import Derived.Test.YtmanimipgpdbcaaGreatRn
namespace Go.Proofs.YtmanimipgpdbcaaGreat
open Go Go.Pv
set_option maxRecDepth 100000
def gl55:List (Nat×List Nat):=[(1,[214,241,257,292,304,315,319,323]),(1,[111]),(1,[110,128,215,324,325]),(1,[58,326]),(1,[241]),(1,[319]),(1,[327,328,329]),(1,[58,66,67]),(1,[58,88,331])]
theorem gt55:dat.rings dt9 gl55 324 [["JcP8qJKhEt5WIQ3F2jaysyMZI6Cn.6L83kuP91GM","If.GUc8oKISKHLKOyvVqIsXd4Aip0NxXQJ8aUDyu","bwBUBMN2oCpa_DDTHv4KDQKuGIDV_u7Oeejvb3uc","FL2Fubm_Om3N8aoMET_bEzTpBOlxdR1kQEK8NEZk","O52h8YR3XPsSIqUjX9HWrWnFnoALQt2zFeoWNSz9","Qy4WmtK5McF5O12HccMT"],
["B9ALZHe4YaQKQtBXjHDKnOrz_DUc1jhY3"],
["BGasOmN.qQyfxK6N.cTOiYA2m.P2WyHYW44j9V2H","XjfUaFop_pyg49y1r67h2yBf5x8iuEA.Si6bb9R2","w2xRWCo9IoUV3oOYmAn1kha.cS4ESBZefOGdZCRu","KWepRcq4TM_XYPyDfouz4NyjCZospY5GqZvO6KiT","rNykHx"],
["BedR9bs7yDrTHfikqG6JV_vvSFy5Be4phQZ0Xdf1","UVwByWi_qyqRAzV9sI8BtvVUoE8JP_bab0XBa.jV","yBcKErHLYb.ICfDjbvEwLKEcMEVQ6RT_h2_gOYkW","ERIv5NMi6MZRD3oP2M.nULtaYF09E2wPthWCIX2V","w6UNUP8IYEdjv.2JewamFNE40pyfT6cm.sDO5hAr","OFzW6kl2AUfT4VUAhyJ5xq2YxmaWXuGYsbXEqyC2","QLk3RxeFODyasGAP1yVdnmVoAIrYYlu3GI.vmPJ2","WnEgbVucAuVV2YLp0y43E3SIYj7eqtqGCUaLIZNB","StdtmmiHrW2tkuST5Nv0e1UiDGGpJzg59xBjkg"],
["W.2EaEPbbCNQcm0oMu3vvchOSQx4vDVyyXGeRb8l","EYY7abGw4S2MJvBiYWAHNPOE2xKmjFssjIPmfbbO","DeNV_wMwDP1UJtoBQmAcwrl4PpMfDbAlH7CxNd0x","BmFWmgRAh9.HNa0RxF4kYfGZu9jTcUtsZy0ZJ6DC","VOugxtzQizg2KdsXi_nNrKmNHyDTU"],
["mjbGhrEwQqyurXEZnOdEkRY0enVjfjGvJ2UDbcBe","JG8kPIsuzgzExIRJ28sNa6561Ja"],
["cqotmGCRvSlOPqkS_eo"],
["Fq7WU6t8GbWigVz"],
["Cnm1yC9hcHTgM1YYO9mKZj_RMlbAZPbBzTKBaqdi",".qAg6VBkFTCxk6X4Vhix987NC3W9sP7OpiNuNite","_lceMLryBLkO_.pZLYaQ00q2R0fuvsJRStUbezuA","l4q6pz9TId2itAvyhFfj9LJA3B2kZhLl4lSIG5po","XHnO_Xh_954RkVACd7DIjDQ1ZB2HhZfkCDlEqUrM","arqdlt6LWapro0HFZvZ86cBYYYRrBpOptlWZ4NB1",".Ho96e8oAaOApyHZhbq9v327fioihwBeBkBknpAy","AtV1tD2I9KiHjCKsT.fTKPf31NELi6PEvxzFQ_Zy","b1bsw.Othxes"]]=true:=by kernel_rfl
def gl56:List (Nat×List Nat):=[(1,[58,88]),(1,[58,332,333]),(1,[58,88,331]),(1,[58,331]),(1,[58,331]),(1,[58,66,331]),(1,[58,331]),(1,[58])]
theorem gt56:dat.rings dt9 gl56 333 [["g8JYtq8EZcYmuuNtViM31Yh5HIZX_SppMi4dmPKr","zR7j8zfBJdgDbE3oq2rKO0Bu_VsIcdwc3u7z74Qs","py1EXxNGjRei1d9ADiOlSnHDrfPartkVud9cxqn3","LV.llDtqazfK68Yh6jrDtcBS18N9WpXc7Zp7VX5P","tfUV7Hi5_NPjhL8b.QB5Qgilbjj8V7BoKcf"],
["0ldfQfWo8ipbzPoxCxMg1gV4_Q_6RGGerQa6NZkW","lDNBjQvmn1ZtQxKPVDv631jWUWmtJXdydg25pzDk","bdrYioHAxfHi77IJkejDyUYHigTmf1I4sKAZgCVb","xPw9ilt4oJtZRLRtDtD3ThqH1KZgq3dJ9_zxlCGu","z2UmmnPykNdoPSmdLmlK55c1sJ2JYJ0fF0elpHVC","wTuTLeUTtcQ3OUJp_AbyNg.1ktXo4XttFK7owEJS","w1rZ3C8QFQW3RW7jMFqK4sxNUtaXl5eOrSk97Vjk","qQ.ulK9S96HTjRiSS4aPKTXRsWSu4gMLD62qELsD","cYOs6mHhFioB7LnKJfNo5Kcp9aRfCwsVV2Eo55zc","1NVtnSs4Az0bTV31jREOkWBHvsHCfUIdCoqLFvCC","Ha3i94BXJOyCZXjf2XCpoW_7jRLwKMtGO8Dmbn2J","nmqLCjEcGc8Brm54RjSlN6w5eL8m..4O4PlhbNIz","eAtZpZ8mao8VEmsGdy2QyNBSDvA3VbxkdaTMuYZv","gtAaf6Smv"],
["2NjyXexFsfSch9287W1H1Y2Zh0UUhBBM4xoivy12","imOPdmQAzBU5WBTiSAI5v9pBJ6Z3yWZVHINXMDCl","4is8ICKJN2miGK1CQIxJ8lm3lt3gH5x7ctXeDh4.","jvLuZ8L3SsfX.gZ9xFL"],
["H1zG95PyVVCO5HGdzt0duR.bXjms7wHRchrPAuP4","5xO39DfhzglU9crYK0XPX3ooBKdpCevMYkHXd1cF","dTwh2R7fRexHbOv8jfGIn9YyJDf0aao7s4z50oXP","8Jeics9zDGvaMV"],
["HKnar45yqUfEIDI7HwY6JPDCjL4EyDhAvXLVvJOM","4GMMPkPk0AaDXlNHwLxjm8Fj2L_uKCulHtcQbmK4","Wl2aYWXHsLiUv0XWuzZGE100wl5BMSGVfaxkuy9d","ki1Y.rqY9ba4z3PhmfnxcBxzaV_V0aw"],
["BN1_pmV3yFGWqFBady0lxfRwQBEudbPJWeF.ccc7","Btp4EDpj6CtyKBcLmT8yi7.nkFKYuxvGQaHDvhew","yoOMEuKCzb_lghtJ_II3E8JGhrACHWDFa1XXLHKp","vSkWHVFH9wCJMowCac_mp"],
["K47zxhsQiJLHTK2LLjIZq.6DHGpNWXwCeV0Fv_oY","rC.kHAbOWirO.IZUv6LZiewMlFTDzDlKng2s6SCL","VfQ5KunJzv6chfJNvcTacq9Sz5ap7YAZzx0KsVhZ","Wiqh_yokiEp9fIPE0gRKQFzhZXZ"],
["BAzbQwaXK.XajVy9KZ4tlHA87Y3Q.U_pxuTG_En3","G2j6nGbFAImplUB"]]=true:=by kernel_rfl
end Go.Proofs.YtmanimipgpdbcaaGreat
