/- Checks. -/
import Derived.Test.YtmanimipgpdbcaaGreatRn
namespace Go.Proofs.YtmanimipgpdbcaaGreat
open Go Go.Pv
set_option maxRecDepth 100000
def gl2:List (Nat×List Nat):=[(1,[43]),(1,[20,27,31,35,40,44]),(1,[]),(1,[46]),(1,[47]),(1,[47,48]),(1,[46,49]),(1,[50]),(1,[50,51]),(1,[52]),(1,[45,53]),(1,[]),(1,[]),(1,[]),(1,[56,57]),(1,[58]),(1,[]),(1,[58]),(1,[]),(1,[62]),(1,[])]
theorem gt2:dat.rings dt9 gl2 44 [["KryY9guevl5dfk6NsFMN4.nzYrwfqi_BVvGOafiH","ACIYh_XE_77goyPGP3DGab34fsBYfx_qOkIWhqeF","cv4_tRlY69sISmbINJYhHZQ.Q9g9dYjHGGewNZxH","T_H5gUuMqe8gKdvyZr67c2VTiqKRZVtqPbiDPoq_","s4jNYGUqqs5xiLcJxNqY4YlG4tOVbuEJ"],
["BeMfqVmmSXB"],
["DR.4SUPDjUCuo5T7bHW8RheCAzTaIRSBLKE.27dB","iyJa89u7gXTy__lYNtjG0WVDLhmKeCQCAv8LaIyj","qNdwfWjRZsHB8YAlv1B8QxRurtFErfsjsbhmIASA","BHQl"],
["C_STc6jPwplo70PNSQN"],
["CXDKeCt4Sa44_oU4l.MhxiDt1qFuXABAlyOGCHF_","pySqIBK03sAIF0Pd934SxCa8JSLt_G8UikTRJ79x","VnEf"],
["9CL78xaITZU0DPLB"],
["Fza65V5_5u6Km9OTmqXNvpmVpbhjVZo9XWqDMTiB","LRuLS4XVpGeteWGqnlol"],
["C1v7Kgz6s1mZ4KBgOROmHDI.zddTi5KTd1.Uwnue","ARDQI8_PW3mg_zAWUU1xT1rlGCeg7CK4eYJqT7r.","ZYH2_LIXMFeUwoRMFe"],
["9CL78xaITZU0DPLB"],
["8GC5ClEvTuIdWrvoR6N_lIreT.YFFq.DWPIUdM4E","7BCZokt_lHuiA_FjI_D.AA"],
["XCZu1wnpmRVTo5QBacZv.lVcjnLICutPheLUlC5a","vqATbkKG5C1XzG9CW2dmpCJoV9PrT4OOipF_gis8","UIbiq6XIOzzEiPZhqjDdriShWF5y1WBTPUzHloAI","CetdQw6QVSItX9uXalm0dXpG43.lio8iYRn5wAeU","v_KrDlAgoJ0QDh1mT2Ge86EQdy31Vi3TNuwsuJr0","LWwJ292q7w1flcnIQVQuHLtYrbuN.0uXEEtLt2KG","24kbcTaIv1lBSsGfH_PcbyNb68qwFLU6fMCG1KAK","Ougty.6w88yToUZcMVhxZjiG2tTDV70oORwyeF3i","AdOqqLC7AlRXycTfreWn8H0d_5RC7HME1N2ChtOW","XQS83LRzBeASJGVV8HMUDJR_os5PLPdCjhli0F5O","oxCJb6daIAMoE3JGZdX6CJfJ0GJvVVk1TmloLcOk","mLyl2EpEE9r8t.l8KThEtQHyASWZE7kkLGT2FxYI","ikY0tb6JfZk0OfWI3x56JTtSw790iXZB5mZ7YPOq","L3UKugy4in5fiHWNii7QjOkooDgPTaSLZgl9iSAj","gdkay"],
["ImjkuJS_8"],
["GBCbDGw5P4JuG0"],
["r_EW_TJTC1Jz1k1CZ1dYqY"],
["HnnfWvgy2G1pumug7KikfZ72Q6v.FjHbPx5EAsTZ","c"],
["GdRLn5J8Bzzsi"],
["4j35eK0gTN2Pq89ClQqvx4jLEzKgzwIA.yHLxduR","qH"],
["mzdu2U6J_5GjNS9O6CnEz4iehe35KFsbLTLrRf4C","hfExAFvGeQQKYz0csze6lc_wYpAjyMZ"],
["KVwc_vISCDPgYL1kbkkLxTxtZD5QmoC_DlW5XqSO",".APy0L30zWM5MZXY_mbxOpzQoICUazHVKO.HzKN_","57U4jR6Aa"],
["TnRiG2XaFz6Igrp8N5d45vZDgT2lUOM8GaRMoEwy","4YEquQOMsMU3srONw"],
["BCbbbdcJaNfbsG8C7.obfi2.P430U36iecM2BQau","h2Uz"]]=true:=by kernel_rfl
def gl3:List (Nat×List Nat):=[(1,[64]),(1,[]),(1,[]),(1,[58,66,67]),(1,[63,65,68])]
theorem gt3:dat.rings dt9 gl3 65 [[".Y_3a6D6PW0JAVPJ7qZdEcsBKzvwne2e1VLeZkaV","S0cBH5zbDN95exMq2vEPdgEVFOIGtDz62T1NV9Ju","PCs0nVzfQxkeNSiXMWRSseFuvezntTq0BpghLgsZ","ogoC7.47Ah9Jrk8XtIl9AG.ruBT_RHVB.hpkZtTL","eb6LBvli4tBKWLcHIXEEXYZWu4.9Dk8rRFo4ddp0","phlK2i_Urz3zjpAcJURUL.z.h3tziPYKyODxoBDL","Vk9s6MMeVUDpsVBmI906iPmxhYfF_LCyXul06hZc","7p4_glz8epW4b0GYN_nP_2gD5CRleThHXQNT0tNI","Ut0Ton2Ny7JPknMvehDi6_Y3OzFaTbzMvhjk3Zrf","fZ1y26KkCcC10rrd15U6MAesEyLCneHFjHJTBm2M","V8joR7xnXOSgQjEYgqNNxfzoZQnXrJFlb6dgD_Ug","FbROoHX9F0gfvdSheqI5a4_a2pLHilI9Lh05DDXV","j9l3a1v5z.QV5sGw2mDIubZcOoyo2g3Fq3xLqOm8","i4GnlGle.I9ef_a__Q5fSr532PRlJNUiJP2aH9S9","Q7u3DrvT3IlAV3TJPXKo31LSQ1zWJBZ4UDmIt5Lk","T0yRV3dsh4uy4.VkKj1qGIwIp2fmwjnDJBt4ay4c","A5.k50YFx9UK6eMyMvhr5_l2KvYlr8ehYwtlcKsL","vuJ9ndPPsStkrvtslPSSpFKRJSsxLUJjOy2VZR1u","POPmbUoZPTy2vlvXWupkBMB358De0VS.2b26hp05","8kQJpKenWimVIQ2NKU8LHRRVi6kXvYDryRpuZrub","HQ6UqNiAoymxJN7F7pQ8KbdXEsq3ZMJPeRHMnC7p","a.HuALkt6rR5JY8t94_a.qxmlBgYU.BG7DVGyPhg","0s_y6T1dxiKh8uJqPvdYP_ppihWCzejKIICFbfDF","j5AdKGiy6lAQ1w.XvTxjygORbEyQOUfyIzwm_A2w","i_pUQiix40G3P9Z9GJzypnmZJoSGv9vtDH4KHGmB","2FK3KXjJgtHSuti8lCyFaYa1XXtt4ymPKo02WBa7","ptUjjVD09nWOpSm3JekiKZmpRmQDMHpkoFEiPq2U","22VaRqKPtg.JW4IWH.gb1UAv2otwAs4X6.xyhLBB","DI"],
["MLw4QWS"],
["MLw4QWS"],
["vCTQsKxH4Vi3AsH.NSlAoZQLSfLAwEkh3LjO.6kN","M5KNYNbBs2UKlPnmLiniHWJLvaLja5nNxJAxzyo8","3MR7NZvOEFMP02dHTGKUKavvAZl1v0iMsdv.u7k8","c7ih53cAPIB8atohJ9h_ljWx.PH_QiFJKLwA6mFr","G1gHofc3E99j3XzickW_ctxju4eeAeam8MnFHHvW","bYFNzIy4J8Rz5RqVw3AHqkidAxL1wXP64xd5Tz8a","3uC9M9oq9QHYVIbRS44G.hugc5cAt2SGujrDwKPf","NKjVVQde7ZNeucgRRUWr04kipAbTYOLb19XBSKLm","SCk.8WIDSm0pbN6_oADaRohMQHNqtLQio54NJqKC","4nVLYpWCWTM1XouXv00xizQmN0ZUvGT5gXGtq51P","8tOKFDqNRi0eoBouUVEZsMB6E8GH5CtRaF5W4UhC","b9G3egTsJwNb4EGHbTVy.UjJBw6Bh1LwDWVROl83","fs5FPsv15BNqXSX7uL21Pb.K72JqUPG69Gi4MSy_","XB7bmS071Iy8hxHD3fwOd4Bmm72DKgoGQmD6qkv1","jDKFR4Rm5m46eJQ1xl3OnieFopT15T1weI8InrhJ","61F3PYl4Y3k0f5wx6bWSXBuvHiofUn9wyvIjRWGn","7mMLidsmZrEx7K3ZLg_0zrsd1dHTrCJZbqKEpVTi","2YbcTUojJl52XmuIvgS2qyLKg7AJ2UrGcKZU5r9a","F4Wg9Yl"],
["RF8yv1bpsNLnwJmBDWeQ_3BHcxBwFC"]]=true:=by kernel_rfl
end Go.Proofs.YtmanimipgpdbcaaGreat
