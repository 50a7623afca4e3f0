/- Checks. -/
import Derived.Test.YtmanimipgpdbcaaGreatRn
namespace Go.Proofs.YtmanimipgpdbcaaGreat
open Go Go.Pv
set_option maxRecDepth 100000
def gl9:List (Nat×List Nat):=[(1,[]),(1,[]),(1,[]),(1,[92,93]),(1,[]),(1,[]),(1,[94,95,96]),(1,[97]),(1,[1]),(1,[56,58])]
theorem gt9:dat.rings dt9 gl9 91 [["VF7aZShWqBnWzpYZFxHwSqxeRMZDAwWqRyC4.owV","G"],
["BRkEe1201QCtgMcvZuymj.pRZBUJvAZ9MBvJOAmz","fC8lkbC"],
["83DyuTnXa5t1WrGezg."],
["CGhwk2EhyL8eU37vFYHx"],
["P_oJHHaKZ06t.J5dKfizS99j5x3_.bODlYmR23xn","XVlW"],
["EQFkh8cCnwl16vNB8g_ASvXwLj3eHs5dgM51X.6G","pHd73GCxLZQZjxuFnJlVvi0ekkUAcAb.DzKH2hwO","FBUK2WGOXdBiPgg18dHnht2K3"],
["noussuePy_bSQ61_MZMyDW8L.N9idiHVbKXoGug0","u9j1PPABpEoZQOuaE9XubDon2jkTNd2O_m5H989S","lRng3iPoJLcvC87PrT1ocHN4L6oBfHcq3ZpwC3lH","cIgD3oLXBhbX7O98NtfU7ZvgnSalT4srRU6yg3gv","BwqT.oHny0ce78CDeCbdO4krM6d9uDOZkIq4TuVw","ssSiVszgsfl.9niMOSzxmphMQ7z8CJSpDZE6.uUW","S0JPEmHPQzpbDWAXtKGSwtTAGBGae0"],
["Cwoen2Q0kOJdNwm9siTqSYeUPH73hTm6HuM9WNbj","JXoXLtwCwYAO7NbJp5j.qBuiq22aUhLNJyNU0EQq","oHxQhYYHrHPeJiPLxz44QiN21H52RbKOf8pDxk57","VtAcA9J8jybIPIb8"],
["Go6kUvwLh6Eb9VZPX_HW374BmW0CEeqXW4iAjYP7","NNNgtVjDiDBa9wE10XI3Bg9zlBUhI1M3zBd5A0D8","ozIx74rmXKbmgSp8Ak0pnt.dUUAUMI7bpeK6MlXB","O7Yyw3O16jswj85Xj19Q7ataZpxDNVfsLO_CXnkX","aVzm3tlM7XUa.On_EPZ"],
["JfWsf0Z5zUWCevYx_pY"]]=true:=by kernel_rfl
end Go.Proofs.YtmanimipgpdbcaaGreat
