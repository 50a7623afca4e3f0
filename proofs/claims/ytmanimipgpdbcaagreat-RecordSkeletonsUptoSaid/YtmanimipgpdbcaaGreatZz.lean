/- RecordSkeletons, second form: whatever the arguments are (of bulk at most 1048576), the call returns true, and they read as before. -/
import Derived.Test.YtmanimipgpdbcaaGreatS0
import Derived.Test.YtmanimipgpdbcaaGreatS1
import Derived.Test.YtmanimipgpdbcaaGreatS2
import Derived.Test.YtmanimipgpdbcaaGreatS3
import Derived.Test.YtmanimipgpdbcaaGreatS4
import Derived.Test.YtmanimipgpdbcaaGreatS5
import Derived.Test.YtmanimipgpdbcaaGreatS6
import Derived.Test.YtmanimipgpdbcaaGreatS7
import Derived.Test.YtmanimipgpdbcaaGreatS8
import Derived.Test.YtmanimipgpdbcaaGreatS9
import Derived.Test.YtmanimipgpdbcaaGreatS10
import Derived.Test.YtmanimipgpdbcaaGreatS11
import Derived.Test.YtmanimipgpdbcaaGreatS12
import Derived.Test.YtmanimipgpdbcaaGreatS13
import Derived.Test.YtmanimipgpdbcaaGreatS14
import Derived.Test.YtmanimipgpdbcaaGreatS15
import Derived.Test.YtmanimipgpdbcaaGreatS16
import Derived.Test.YtmanimipgpdbcaaGreatS17
import Derived.Test.YtmanimipgpdbcaaGreatS18
import Derived.Test.YtmanimipgpdbcaaGreatS19
import Derived.Test.YtmanimipgpdbcaaGreatS20
import Derived.Test.YtmanimipgpdbcaaGreatS21
import Derived.Test.YtmanimipgpdbcaaGreatS22
import Derived.Test.YtmanimipgpdbcaaGreatS23
import Derived.Test.YtmanimipgpdbcaaGreatS24
import Derived.Test.YtmanimipgpdbcaaGreatS25
import Derived.Test.YtmanimipgpdbcaaGreatS26
import Derived.Test.YtmanimipgpdbcaaGreatS27
import Derived.Test.YtmanimipgpdbcaaGreatS28
import Derived.Test.YtmanimipgpdbcaaGreatS29
import Derived.Test.YtmanimipgpdbcaaGreatS30
import Derived.Test.YtmanimipgpdbcaaGreatS31
import Derived.Test.YtmanimipgpdbcaaGreatS32
import Derived.Test.YtmanimipgpdbcaaGreatS33
import Derived.Test.YtmanimipgpdbcaaGreatS34
import Derived.Test.YtmanimipgpdbcaaGreatS35
import Derived.Test.YtmanimipgpdbcaaGreatS36
import Derived.Test.YtmanimipgpdbcaaGreatS37
import Derived.Test.YtmanimipgpdbcaaGreatS38
import Derived.Test.YtmanimipgpdbcaaGreatS39
import Derived.Test.YtmanimipgpdbcaaGreatS40
import Derived.Test.YtmanimipgpdbcaaGreatS41
import Derived.Test.YtmanimipgpdbcaaGreatS42
import Derived.Test.YtmanimipgpdbcaaGreatS43
import Derived.Test.YtmanimipgpdbcaaGreatS44
import Derived.Test.YtmanimipgpdbcaaGreatE
namespace Go.Proofs.YtmanimipgpdbcaaGreat
open Go Go.Pv
set_option maxRecDepth 100000
theorem u0:tX dt9 0:=fun _ h=>absurd h (Nat.not_lt_zero _)
theorem u1:tX dt9 1:=tX.next u0 (f:=293) (r:=Ea) (by kernel_rfl) (by kernel_rfl) amA
theorem u2:tX dt9 2:=tX.next u1 (f:=126) (r:=Eb) (by kernel_rfl) (by kernel_rfl) amB
theorem u3:tX dt9 3:=tX.next u2 (f:=211) (r:=lP) (by kernel_rfl) (by kernel_rfl) amD
theorem v0:tX dt9 11:=tX.rings u3 (by kernel_rfl) gt0 (by kernel_rfl)
theorem mb:Good 265 oA:=by
 have h:=v0 10 (by decide)
 rw[show dt9.gL 10=265 by kernel_rfl,show dt9.pr 10=oA by kernel_rfl]at h
 exact h
theorem um9:tX dt9 12:=tX.next v0 (f:=265) (r:=yw) (by kernel_rfl) (by kernel_rfl) (amF mb)
theorem v1:tX dt9 44:=tX.rings um9 (by kernel_rfl) gt1 (by kernel_rfl)
theorem v2:tX dt9 65:=tX.rings v1 (by kernel_rfl) gt2 (by kernel_rfl)
theorem v3:tX dt9 70:=tX.rings v2 (by kernel_rfl) gt3 (by kernel_rfl)
theorem v4:tX dt9 74:=tX.rings v3 (by kernel_rfl) gt4 (by kernel_rfl)
theorem v5:tX dt9 75:=tX.rings v4 (by kernel_rfl) gt5 (by kernel_rfl)
theorem v6:tX dt9 86:=tX.rings v5 (by kernel_rfl) gt6 (by kernel_rfl)
theorem v7:tX dt9 90:=tX.rings v6 (by kernel_rfl) gt7 (by kernel_rfl)
theorem v8:tX dt9 91:=tX.rings v7 (by kernel_rfl) gt8 (by kernel_rfl)
theorem v9:tX dt9 101:=tX.rings v8 (by kernel_rfl) gt9 (by kernel_rfl)
theorem v10:tX dt9 109:=tX.amO (bs:=[11,56,58,59,64,66,67,76,77,78,79,81,82,83,84,86,87,88,89,90,91,98,99,100]) v9 (by kernel_rfl) (fun i hi=>match i,hi with
 |0,_=>il.aly gt10_0
 |1,_=>il.aly gt10_1
 |2,_=>il.aly gt10_2
 |3,_=>il.aly gt10_3
 |4,_=>il.aly gt10_4
 |5,_=>il.aly gt10_5
 |6,_=>il.aly gt10_6
 |7,_=>il.aly gt10_7
 |i+8,hi=>absurd hi (by omega)) rfl
theorem v11:tX dt9 110:=tX.rings v10 (by kernel_rfl) gt11 (by kernel_rfl)
theorem v12:tX dt9 111:=tX.rings v11 (by kernel_rfl) gt12 (by kernel_rfl)
theorem v13:tX dt9 112:=tX.rings v12 (by kernel_rfl) gt13 (by kernel_rfl)
theorem v14:tX dt9 122:=tX.rings v13 (by kernel_rfl) gt14 (by kernel_rfl)
theorem v15:tX dt9 127:=tX.amO (bs:=[111,113,115,117,120,121]) v14 (by kernel_rfl) (fun i hi=>match i,hi with
 |0,_=>il.aly gt15_0
 |1,_=>il.aly gt15_1
 |2,_=>il.aly gt15_2
 |3,_=>il.aly gt15_3
 |4,_=>il.aly gt15_4
 |i+5,hi=>absurd hi (by omega)) rfl
theorem v16:tX dt9 135:=tX.rings v15 (by kernel_rfl) gt16 (by kernel_rfl)
theorem v17:tX dt9 153:=tX.rings v16 (by kernel_rfl) gt17 (by kernel_rfl)
theorem v18:tX dt9 157:=tX.rings v17 (by kernel_rfl) gt18 (by kernel_rfl)
theorem v19:tX dt9 160:=tX.rings v18 (by kernel_rfl) gt19 (by kernel_rfl)
theorem v20:tX dt9 162:=tX.rings v19 (by kernel_rfl) gt20 (by kernel_rfl)
theorem v21:tX dt9 163:=tX.rings v20 (by kernel_rfl) gt21 (by kernel_rfl)
theorem v22:tX dt9 166:=tX.rings v21 (by kernel_rfl) gt22 (by kernel_rfl)
theorem v23:tX dt9 177:=tX.amO (bs:=[139,140,141,142,143,144,147,148,149,151,152,155,156,163,164,165]) v22 (by kernel_rfl) (fun i hi=>match i,hi with
 |0,_=>il.aly gt23_0
 |1,_=>il.aly gt23_1
 |2,_=>il.aly gt23_2
 |3,_=>il.aly gt23_3
 |4,_=>il.aly gt23_4
 |5,_=>il.aly gt23_5
 |6,_=>il.aly gt23_6
 |7,_=>il.aly gt23_7
 |8,_=>il.aly gt23_8
 |9,_=>il.aly gt23_9
 |10,_=>il.aly gt23_10
 |i+11,hi=>absurd hi (by omega)) rfl
theorem v24:tX dt9 178:=tX.rings v23 (by kernel_rfl) gt24 (by kernel_rfl)
theorem v25:tX dt9 179:=tX.rings v24 (by kernel_rfl) gt25 (by kernel_rfl)
theorem v26:tX dt9 180:=tX.rings v25 (by kernel_rfl) gt26 (by kernel_rfl)
theorem v27:tX dt9 181:=tX.rings v26 (by kernel_rfl) gt27 (by kernel_rfl)
theorem v28:tX dt9 194:=tX.rings v27 (by kernel_rfl) gt28 (by kernel_rfl)
theorem v29:tX dt9 204:=tX.rings v28 (by kernel_rfl) gt29 (by kernel_rfl)
theorem v30:tX dt9 207:=tX.rings v29 (by kernel_rfl) gt30 (by kernel_rfl)
theorem v31:tX dt9 208:=tX.rings v30 (by kernel_rfl) gt31 (by kernel_rfl)
theorem v32:tX dt9 210:=tX.rings v31 (by kernel_rfl) gt32 (by kernel_rfl)
theorem v33:tX dt9 211:=tX.rings v32 (by kernel_rfl) gt33 (by kernel_rfl)
theorem v34:tX dt9 213:=tX.rings v33 (by kernel_rfl) gt34 (by kernel_rfl)
theorem v35:tX dt9 217:=tX.rings v34 (by kernel_rfl) gt35 (by kernel_rfl)
theorem v36:tX dt9 224:=tX.rings v35 (by kernel_rfl) gt36 (by kernel_rfl)
theorem v37:tX dt9 229:=tX.rings v36 (by kernel_rfl) gt37 (by kernel_rfl)
theorem v38:tX dt9 231:=tX.rings v37 (by kernel_rfl) gt38 (by kernel_rfl)
theorem v39:tX dt9 233:=tX.rings v38 (by kernel_rfl) gt39 (by kernel_rfl)
theorem v40:tX dt9 234:=tX.rings v39 (by kernel_rfl) gt40 (by kernel_rfl)
theorem v41:tX dt9 236:=tX.rings v40 (by kernel_rfl) gt41 (by kernel_rfl)
theorem v42:tX dt9 237:=tX.rings v41 (by kernel_rfl) gt42 (by kernel_rfl)
theorem v43:tX dt9 239:=tX.rings v42 (by kernel_rfl) gt43 (by kernel_rfl)
theorem v44:tX dt9 240:=tX.rings v43 (by kernel_rfl) gt44 (by kernel_rfl)
theorem v45:tX dt9 253:=tX.rings v44 (by kernel_rfl) gt45 (by kernel_rfl)
theorem v46:tX dt9 272:=tX.rings v45 (by kernel_rfl) gt46 (by kernel_rfl)
theorem v47:tX dt9 277:=tX.rings v46 (by kernel_rfl) gt47 (by kernel_rfl)
theorem v48:tX dt9 290:=tX.amO (bs:=[96,222,227,228,260,261,262,263,264,265,266,267,268,269,270,272,273,274,275,276]) v47 (by kernel_rfl) (fun i hi=>match i,hi with
 |0,_=>il.aly gt48_0
 |1,_=>il.aly gt48_1
 |2,_=>il.aly gt48_2
 |3,_=>il.aly gt48_3
 |4,_=>il.aly gt48_4
 |5,_=>il.aly gt48_5
 |6,_=>il.aly gt48_6
 |7,_=>il.aly gt48_7
 |8,_=>il.aly gt48_8
 |9,_=>il.aly gt48_9
 |10,_=>il.aly gt48_10
 |11,_=>il.aly gt48_11
 |12,_=>il.aly gt48_12
 |i+13,hi=>absurd hi (by omega)) rfl
theorem v49:tX dt9 300:=tX.rings v48 (by kernel_rfl) gt49 (by kernel_rfl)
theorem v50:tX dt9 309:=tX.rings v49 (by kernel_rfl) gt50 (by kernel_rfl)
theorem v51:tX dt9 314:=tX.rings v50 (by kernel_rfl) gt51 (by kernel_rfl)
theorem v52:tX dt9 319:=tX.rings v51 (by kernel_rfl) gt52 (by kernel_rfl)
theorem v53:tX dt9 321:=tX.rings v52 (by kernel_rfl) gt53 (by kernel_rfl)
theorem v54:tX dt9 324:=tX.rings v53 (by kernel_rfl) gt54 (by kernel_rfl)
theorem v55:tX dt9 333:=tX.rings v54 (by kernel_rfl) gt55 (by kernel_rfl)
theorem v56:tX dt9 341:=tX.rings v55 (by kernel_rfl) gt56 (by kernel_rfl)
theorem v57:tX dt9 356:=tX.rings v56 (by kernel_rfl) gt57 (by kernel_rfl)
theorem v58:tX dt9 358:=tX.rings v57 (by kernel_rfl) gt58 (by kernel_rfl)
theorem lg:Good 3 yz:=by
 have h:=v58 357 (by decide)
 rw[show dt9.gL 357=3 by kernel_rfl,show dt9.pr 357=yz by kernel_rfl]at h
 exact h
theorem record_skeletons_holds:Rows.RecordSkeletonsUptoSaid:=holds lg closed
end Go.Proofs.YtmanimipgpdbcaaGreat
