/- Checks. -/
import Derived.Test.YtmanimipgpdbcaaGreatRn
namespace Go.Proofs.YtmanimipgpdbcaaGreat
open Go Go.Pv
set_option maxRecDepth 100000
def gl34:List (Nat×List Nat):=[(1,[210]),(1,[119,197,199,202,205,211])]
theorem gt34:dat.rings dt9 gl34 211 [["BaTHcV67yI2DMOh9f_KCJRW7zIjt1TCJLo1sckjW","_pjxIWfMh0pUnccIszuTQ_gnf7OcOsIJU3GX0wER",".ZClIpQBP6Fa8o7Xt.M4Sz0PiayJLEPHppOWYA"],
["BHXU7kXQq8oCaXxPzDBeOtXfJ53l1BY.xUWgzD4i","dqhGOw_gaumCOTBD.J7jqwVBdIrVC3mavCIUZCzO","glU_iOVwxbqIseNOfZkDx6ot9tjFkjNkKt7nWaFT","x6AL9odqR.CpaHQDJWbI8zNTVOpLPOx6m2aOoQ9f","HdErT9FpBBIn9hrI4teuDpmftAyH3OuP5nqXx7Bj","d2yOd25AoQ1BCPtNwkKcbYicYlTr71h_rcAmYze2","NFMZrvXbKC7IOiL.pfSIfAV5HMGGc38ogGFIBCvF","Mxs5Yqt79GM0CmvRYkSBB8tjaIMy1pkM0dQ1XEyu","C9ZrcVAcM3mDZ7V5DV12A4GzG06vyJluqle8J2c1","jQP6IRxBWCSpToqilziqpIXj3crS.WzwlWPyLxZA","aUWy.e8DDYDNxdbo9ribDdheCCFJA6noo8pQtacp","KP8lgqHEFX1kLH.lVngsSUKrVj7PWAwpcvjZrQwS","_D8DS.oSexYcWJbXxjsGs0nxIs8UoW3Kl5o41tgU","ov_kg8EhxPmcEod4reELHBsWnfFnd4I08LN.Vo8Q","4np2Hca4j3EhDb2VmKJUz_GUPP3X37UP4YleVSJa","K1BWiCq3nltRi5BwDzBT78APadSGUSp9X8fpUNkj","2tuw1tSAlPdt01QBJDHUZ6Fhg2PjIsDq7HURKXwe","4xKnnwhi0YXq1onBtcaBvhuYkMAWB0Fs3El1H4CV","2_.WGfREhfnqKHZ_e7ZWAhFiRshgcrFOM.Zl1Yhq","oPq66joVjn"]]=true:=by kernel_rfl
def gl35:List (Nat×List Nat):=[(1,[195,197,198,199,200,202,203,204,206,212]),(1,[]),(1,[]),(1,[215])]
theorem gt35:dat.rings dt9 gl35 213 [["HeyOk655d5jjKZBABQl2bNfigHZeh_M4Jv7kJG.l","zxRyDZSOc2GL8bbP0a4yeQW8Xtm7uq73QxXLp1RI","vxC5bjEqmE865pSkpNEvMfz8rGJkpjN5XRUBXlX6","fBtIxIfMr_48R6wE.YlwJAVYSkx7mjOMWWWAq_YV","Isc8HF.XEOrTCFHv6KmTQAuhWJVxJYyWrNQmaqzY","dXtxjIquYtq.sH6ths2xihNORSogR5y9rdElqzcO","18BPgepQi9pMIrvtyeQbg_tB4WNgmFFjOzZtBYZi","9wQqMSD5XOAgoFIBGGXfeh.GbxPIReE"],
["T2rx1IAMYYgNDz.y_OK6Ixg5kdcjoy_GOMXHA_wI","Ulblk101FNywTIO8JlJlHDTxVZxtMG_EpqI"],
["V3zBaAIYZJrnb9ZMur2CGEm3yGGH_6WkmkwluM9"],
["pk4SdDJumUi_GOQ5krhnTGttvBLJQLhkLiyV8V1f","HDnzl24zgQ9pBl"]]=true:=by kernel_rfl
def gl36:List (Nat×List Nat):=[(1,[215,216]),(1,[]),(1,[]),(1,[218,219]),(1,[220]),(1,[1]),(1,[1])]
theorem gt36:dat.rings dt9 gl36 217 [["9GWEsYQRhImrSoHnrt42bW09SCVrZMvmBpAxh1sx","_cua4__w2Wk9LZ.lb6NQQRu19Bb1mJGEivaLdBsm","y8GflWKfOqwlTmi3ZZ7pEsE3OQtDyUteqbB4XZVT","nZkefpku2Kg5J8r0Xby3O3THOUximGLCAKBwOjfZ","p9LOPWoNx4rFkiJssR89c_6Ubjzy6J2tc._cKquH","0CLDvGK9x2zYVH8jB8a_"],
["Lce3cxFb4M6Qxu8K6wwMVxcRtekwR7ee5SHHVj1"],
["rgsoExDUZvrVAmycOfMkzvgC"],
["KcF61I.PBk9tUf8o1ipQKe_f5MmNV"],
["IbjRLESnWaE8L3LBrWW5bhT4pgZlAvMwq7qyr8m4","BNjMZIRoHKYBTrk.nZXm.KfK8GhNKgcR.MSNCpCu","tq64QNVMAsINIBHMV8QxGpPuCYRFdBsNJTvFB_lZ","5vyEvxh02U8Fc8ROEPREWVx7E44RTluPJzFPmsIn","Dn4kziZ_6CfuY4HXCD1kGGszqKhngQz.BIhCM9iv","PZZAsa_DJX3Wc2mpIE0o4hj1Vg.N6TMn57ryWESj","7cbjJCYy7krmffIKVtBvaTVr9Y2wHHYBBjoccVbb","9kdtHa00ydfwmm7lh1R4YhMCYTqqNDT9lQozgfqr","S_9d3gzKAEFYXD4MbEqb3dAJf6_AS2WNq5newuhB","Nml"],
["BRwqT0QBpqOM.KUtXct8ly1CuSOUj73B5EZxU2FI","Hqg7TYPcyNN_WgeuAWDKrP5VNaeBV7WOX.TajPWe","C3yOb31Azzg1haZvb_37ApYMf"],
["BRwqT0QBpqOM.KUtXct8ly1CuSOUj73B5EZxU2FI","Hqg7TYPcyNN_WgeuAWDKrP5VNaeBV7WOX.TajPWe","C3yOb31Azzg1haZvb_37ApYMf"]]=true:=by kernel_rfl
end Go.Proofs.YtmanimipgpdbcaaGreat
