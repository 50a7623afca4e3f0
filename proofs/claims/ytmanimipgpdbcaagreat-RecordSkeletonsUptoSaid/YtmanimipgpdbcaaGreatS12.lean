/- Checks. -/
import Derived.Test.YtmanimipgpdbcaaGreatRn
namespace Go.Proofs.YtmanimipgpdbcaaGreat
open Go Go.Pv
set_option maxRecDepth 100000
def gl12:List (Nat×List Nat):=[(1,[58,59,70,71,74,75,109])]
theorem gt12:dat.rings dt9 gl12 110 [["CByC4JcOTf7ThNFGKpPbzPHV9MgLsNkw1JVxn1JG","nZDfymwklXsBNTG0ydUHYWFOLSrck_nJH0uAiDyu","lb2niLWvpAyinXv_XlmVs9eBcDGcmKN33S8Aknq4","i1VhbR.0Iq3zjp1FLbNBtxrxEp9YhA8APGX65N.7","PNRNb4DhfDfrI_mM4YdD6Ay6Jmdmmd5minxJyvgt","KE0e2gFnO0bKBX6HiJwfaGeDeDqidwQzpUp_mDFu","N9QczVkx4_O5qTOYYjb14_P8ZISVJVw11CaNMCXJ","fdbXAr4OWjpnKfmt8pu2NA6sLWChRvO9sMTswPdA","Ql3zqOexfIr2YryvaS30nuxLIK.qSuD.3_OccjHE","eK_kUTKBEuzVuxdsGohQo9mpyaDx.BxB_1OF5E1e","9g.81Ci4JhWQkB6cvNGvBzhX_8wGPwNsRknaekNK","C1nZb3iuupL_Gck3u0ZpP9ydO3NLK3WF0eB9LINU","TKFbhaBlzOELiQVD1R0lx0w1dvKa4EXgpSP8pXnq","gN3wj47_207v3GyS1CNpsIreVW1gYzGAmVMrmUdL","_7Oho7wUzjEKZr_rDNbmlgU6go0pn6sUBKNxCpwB","HLzq.7lNHNVPCdlMddJpH_gmZtYQTsdnz90Ftvl5","ftxJpaPFKOuxsBy7vXo82yEoYOi3VOSaiJ.fu"]]=true:=by kernel_rfl
end Go.Proofs.YtmanimipgpdbcaaGreat
