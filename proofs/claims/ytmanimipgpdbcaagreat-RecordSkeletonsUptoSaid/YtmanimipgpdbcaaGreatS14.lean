/- Checks. -/
import Derived.Test.YtmanimipgpdbcaaGreatRn
namespace Go.Proofs.YtmanimipgpdbcaaGreat
open Go Go.Pv
set_option maxRecDepth 100000
def gl14:List (Nat×List Nat):=[(1,[111]),(1,[]),(1,[113]),(3,[]),(1,[113,114]),(1,[]),(1,[]),(1,[])]
theorem gt14:dat.rings dt9 gl14 112 [["LSU6abt8hy.d7nfQKihuFUNVR_pTO20EsPbGUo9q","fv3hQXc0WKFOTytCgCeMxeRPET7wmEb5W6gWLbs2","rfBlzZj70GTe5LQHIrS1UpESUWt57oSdi0hgromW","L9B4"],
["IDCtarHENPXYUMl3jCcfPJAsqh6Qey8pJkkUp07K","df5zmRPNTPV2lgiu_c5cEvH50_zWW3.rtitV4mns","CMPT.xBo7RimeQJq4.6ITh6dkQ_DnN1Xsh0MaOf_","TdJ"],
["MmcurxU9IIPYrVAQAPAZzG0Ff8qAy3hXlbxSI7ez","COlpowLNUJtJw1ZtpD"],
["BiLMqiiViX753PLERiEL9U4KmcPppj3Y8wMi"],
["BhQuvaPsVuXSc0A8euwqJxpzUhZOtV8kC1fZnXfa","c7ka3yEUM5hncncQQxyISgmWocZnfES0htPnA2tL","ME449SV7Z_nwvFLGomb3LT1EKHXerxXy1evhUmPQ","cCbBkMtH3Br3.yaI2eG0_T8CO4rHPUpP"],
["fgi8258R33EsUlnWju2pD8b8GAbXKUbfr89218OZ","JlKaqhu5vEt.e6DHk"],
["lWEAPCgx8NUuBRNfGwDC7GLQl3Ig0yXmi2WG1.41","D_XWcGphdukXlSNBt1_stOFuYQRUbKdJJfG7ckrd","gMIzm2w8W4Nh3SG1gKQWaM_qVuEJvraBZWOfjWRP","kEaKSobWVhK.ttBwjh3g8ZUo1vlwL5ioyvhjygh3","1HFonGjuMczV18Xc4ntmRMHRHKMF_6y0LiMIxODh","V1p7ZLLKmlBCC6f05cwehwEHYiRiKOQ8.2upLMOj","WeedOX5zBZpytNJzI_68nrJ1IQxTl7ZOJwFGmplA","Y.UT040iZf_3xm4ToSx368mfBoPD9QkSqq0rLFbo","1ZewmfkBUV"],
["BMvpTTUa8uyZb_Zgug2WcTgFsQw6GfKXCwUDDwNh","PTUYyFMBzA.ynPv0t7TciR_tLj0VozxjERrnTwqX","XdywwTu56Rx8qVDlfyc7pTVBJmY4IL"],
["Bcxzv4jcBf1DzyFMG"],
["MrgpyXyV2SmbFsHL1F4Z76CofuEe1piL_kKFs6qk","0Gy"]]=true:=by kernel_rfl
end Go.Proofs.YtmanimipgpdbcaaGreat
