/- Checks. -/
import Derived.Test.YtmanimipgpdbcaaGreatRn
namespace Go.Proofs.YtmanimipgpdbcaaGreat
open Go Go.Pv
set_option maxRecDepth 100000
def gl13:List (Nat×List Nat):=[(1,[])]
theorem gt13:dat.rings dt9 gl13 111 [["WJANTCKWv5wY9C5YpV1YFzkWH95G3jnH_5ao6eyz","MX4OX.fpO9NRqVBOWnMq7MIHo5gPvQr1BgX3_HXy","5vNUgeh5VIN6atMDBVRVcpxWhhYWbO3cFOt8m3Md","KkV0S7_VJ74afrd3L4RDdNTPKyUxy_S88csh.QV0","rWusI7aSKBCmxH7dw08JyHm4wEJpYe0bR6L_78ta","rhkZlAWMaEtgqMMnzeREeOt3vWjNPpgnW4nn063i","48dZbEk8dDz5tVklAV2VokSFSgtBRt7uM_GwnhOl","a0T4B7s25Oy1RYCGZTgTM7AgduDBmBGtm8mbdZWT","8x38IHlbaNIl8SStEaAwmhnaes4Yc5sZEtwdvgWF","So43N0EH9Yd0Cs_rA6e2ATPosXY5GC80JqiYR_U8","LRZeUiSjUX2b09p9Ve601.Bqi95Ykbw6dW8zC2jh","wIOTTDzoYUwjCZsfURRIBGO6_dSYIpvyvxwkeegZ","Z1uILsKYLdlZRy13KTqb4mKh9v646.6VOiakCxbd","uS1eRQPG7dANqmLIV_xVM72_gH4BfudU.QvV0J4L","2NUWjNexaHQkYotFEPA1p2Y4b71TVpNp2hk8Ievf","Nyx6uRZAqVZA_yHAqi_27glCxrq96l0WSgSqueHS","6tMOuJgje_lvyy6zJYmnUtMnFM8jOLHq_v5j3YMx","4MF46hVKBcCpalsFBOA4kYK08z17hhjt0M.1R6AG","mhosgh6ZuSAuAeqq3zK5MI7Ov8A.DwSJ6ofhU5"]]=true:=by kernel_rfl
end Go.Proofs.YtmanimipgpdbcaaGreat
