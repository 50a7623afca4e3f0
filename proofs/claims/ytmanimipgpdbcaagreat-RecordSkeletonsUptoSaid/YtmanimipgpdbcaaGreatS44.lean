/- Checks. -/
import Derived.Test.YtmanimipgpdbcaaGreatRn
namespace Go.Proofs.YtmanimipgpdbcaaGreat
open Go Go.Pv
set_option maxRecDepth 100000
def gl58:List (Nat×List Nat):=[(1,[355]),(1,[13,19,45,53,54,55,330,341,342,354,356])]
theorem gt58:dat.rings dt9 gl58 356 [["4qiQd8X6O6QN7b6FhVhf1vYl53m8USjj0E_zOYOI","1g7Fcap.I5wzkiu8c_C2vBAXm3lnE1e3xvWx5HT2","BLBd13yR31mTC30ikH5QxOUrJEpf2.bXO_roYiQd","pRmtyGi8J6Ip.zF7yOq7tcLogE_5WOvcKmo_Wc5G","POhd0htrt4El98p4hIybjOagzcJbXkSkd40C9fzJ","3LZO5wtmObPXLj470SFi3n6h7hv2PBiBWbHzhTOT","Ul5gWI0Z1knSgkEV25KMYr."],
["waDuF7kE6cd6nz0612Bdfk06Gtajsj7L2behd09W","GB563i25nPZn6AOOx2jjabf9da0LPPZ1IMDRoFLU","DUCZlwa5iIfzLhPUQJweFrDpcjqJI81Ci48ID_8M","OIsiJEp2mUhkTK1O1ByDHUzk_LLHXQng8j62ud4.","z2y8rVogfy1c..jUj3D.Ba0pwV5lmUa5qW4VMIeh","HkKlZQ3JlX7EmXPHoCPCaE15Apx3qwdwX.Azfl..","a1uVrWTcJ5vVGc8CRw23Ky51Jp1DC5ZUsxtdfDXV","H8Xvd73QJZl3sPqvXGblNWTwX5699S1YNwefUUjI","p.kOTcvoHpzEIJm2PLvj9cEyQmaK7OkiJsAGlSzC","4fho7TL45xy0Yc3kpOoEytrP6VCo.XlD0DxlIeC6","uYSvORvbs_lf4Rqng9llMAUxWzNqsV5CByTEj1uk","mGGvAjpvum.ak8oYfNZlS3zH2F5b9HHPpFy.jypj","CzMZw1Z_6GJoks0p927s72mzDXKD7kr1ecLk9gv8","yWj3V.P_Bvb4brF79HXsbJzkBuKntD5Sw6K71k4U","U2ht6uFi2U36t4Xy66yPM029TuSnYJgHJMGhhj9v","sM3jF1T2n_CeQGFSxfaPisvP25WWxObQsaJg8wBX","DVGXVk6gBBybgdfRycuOHIa0aUT8y2I2PipCF_go","uXwXNqSJ7ioHhwATuLY36cnEvrc4fQpiiu66bL7J","EFBue_k36nd8J5wpg9BXPbWi4dRRfOhyfGXvEfLi","S.uk7CntdMFdxag4QGyLIC90Wdp2ZR.8KsbtlkeB","B"]]=true:=by kernel_rfl
end Go.Proofs.YtmanimipgpdbcaaGreat
