/- The stages of a run: what lies in the heap ahead of some calls and behind them. Printed by st.py. -/
import Derived.Test.YthecofapmpibmaaGreatDoorHx9
import Derived.Test.YthecofapmpibmaaGreatDoorHx2
namespace Go.Proofs.YthecofapmpibmaaGreatDoor.Hx
/-- turnstone/compile.Text -/
def sg0 : Stage where
  f := 4
  args := [.str [102, 117, 110, 99, 32, 102, 40, 97, 32, 105, 110, 116, 41, 32, 105, 110, 116, 32, 123, 32, 114, 101, 116, 117, 114, 110, 32, 97, 32, 43, 32, 49, 32, 125, 59, 32, 102, 117, 110, 99, 32, 109, 97, 105, 110, 40, 41, 32, 123, 32, 120, 32, 58, 61, 32, 48, 59, 32, 102, 111, 114, 32, 120, 32, 60, 32, 57, 32, 123, 32, 120, 32, 61, 32, 102, 40, 120, 41, 32, 125, 32, 125]]
  h0 := []
  n0 := 3
  v := .tuple [.agg [.slice 731 0 5, .slice 1014 0 2, .int .i64 1, .nilSlice, .slice 981 0 3], .agg [.int .i64 0, .int .i64 0], .int .i64 0]
  h1 := [(731, .cells 205 5 true false [.int .i64 0, .str [], .int .i64 0, .nilSlice, .nilSlice, .int .i64 1, .str [105, 110, 116], .int .i64 0, .nilSlice, .nilSlice, .int .i64 2, .str [98, 111, 111, 108], .int .i64 0, .nilSlice, .nilSlice, .int .i64 3, .str [115, 116, 114, 105, 110, 103], .int .i64 0, .nilSlice, .nilSlice, .int .i64 4, .str [110, 105, 108], .int .i64 0, .nilSlice, .nilSlice]),
 (921, .cells 3 1 true false [.int .i64 1]),
 (924, .cells 3 1 true false [.int .i64 1]),
 (947, .cells 61 3 true false [.int .i64 5, .int .i64 0, .int .i64 0, .int .i64 1, .int .i64 0, .int .i64 0, .int .i64 8, .int .i64 0, .int .i64 0, .int .i64 41, .int .i64 1, .int .i64 0, .int .i64 26, .int .i64 4, .int .i64 0]),
 (963, .cells 3 1 true false [.int .i64 1]),
 (981, .cells 2 1 true false [.int .i64 1, .int .i64 0, .int .i64 9]),
 (1012, .cells 61 3 true false [.int .i64 1, .int .i64 1, .int .i64 0, .int .i64 6, .int .i64 0, .int .i64 0, .int .i64 5, .int .i64 0, .int .i64 0, .int .i64 1, .int .i64 2, .int .i64 0, .int .i64 17, .int .i64 0, .int .i64 0, .int .i64 27, .int .i64 10, .int .i64 0, .int .i64 5, .int .i64 0, .int .i64 0, .int .i64 36, .int .i64 0, .int .i64 1, .int .i64 6, .int .i64 0, .int .i64 0, .int .i64 26, .int .i64 2, .int .i64 0, .int .i64 41, .int .i64 0, .int .i64 0]),
 (1014, .cells 64 5 true false [.str [102], .slice 921 0 1, .int .i64 1, .slice 924 0 1, .slice 947 0 5, .str [109, 97, 105, 110], .slice 953 0 0, .int .i64 0, .slice 963 0 1, .slice 1012 0 11])]
  n1 := 1015
/-- turnstone/turnstonelaw17.known -/
def sg1 : Stage where
  f := 5
  args := []
  h0 := [(731, .cells 205 5 true false [.int .i64 0, .str [], .int .i64 0, .nilSlice, .nilSlice, .int .i64 1, .str [105, 110, 116], .int .i64 0, .nilSlice, .nilSlice, .int .i64 2, .str [98, 111, 111, 108], .int .i64 0, .nilSlice, .nilSlice, .int .i64 3, .str [115, 116, 114, 105, 110, 103], .int .i64 0, .nilSlice, .nilSlice, .int .i64 4, .str [110, 105, 108], .int .i64 0, .nilSlice, .nilSlice]),
 (921, .cells 3 1 true false [.int .i64 1]),
 (924, .cells 3 1 true false [.int .i64 1]),
 (947, .cells 61 3 true false [.int .i64 5, .int .i64 0, .int .i64 0, .int .i64 1, .int .i64 0, .int .i64 0, .int .i64 8, .int .i64 0, .int .i64 0, .int .i64 41, .int .i64 1, .int .i64 0, .int .i64 26, .int .i64 4, .int .i64 0]),
 (963, .cells 3 1 true false [.int .i64 1]),
 (981, .cells 2 1 true false [.int .i64 1, .int .i64 0, .int .i64 9]),
 (1012, .cells 61 3 true false [.int .i64 1, .int .i64 1, .int .i64 0, .int .i64 6, .int .i64 0, .int .i64 0, .int .i64 5, .int .i64 0, .int .i64 0, .int .i64 1, .int .i64 2, .int .i64 0, .int .i64 17, .int .i64 0, .int .i64 0, .int .i64 27, .int .i64 10, .int .i64 0, .int .i64 5, .int .i64 0, .int .i64 0, .int .i64 36, .int .i64 0, .int .i64 1, .int .i64 6, .int .i64 0, .int .i64 0, .int .i64 26, .int .i64 2, .int .i64 0, .int .i64 41, .int .i64 0, .int .i64 0]),
 (1014, .cells 64 5 true false [.str [102], .slice 921 0 1, .int .i64 1, .slice 924 0 1, .slice 947 0 5, .str [109, 97, 105, 110], .slice 953 0 0, .int .i64 0, .slice 963 0 1, .slice 1012 0 11]),
 (1015, .cells 27 1 true false [.slice 731 0 5, .slice 1014 0 2, .int .i64 1, .nilSlice, .slice 981 0 3])]
  n0 := 1017
  v := .bool true
  h1 := [(731, .cells 205 5 true false [.int .i64 0, .str [], .int .i64 0, .nilSlice, .nilSlice, .int .i64 1, .str [105, 110, 116], .int .i64 0, .nilSlice, .nilSlice, .int .i64 2, .str [98, 111, 111, 108], .int .i64 0, .nilSlice, .nilSlice, .int .i64 3, .str [115, 116, 114, 105, 110, 103], .int .i64 0, .nilSlice, .nilSlice, .int .i64 4, .str [110, 105, 108], .int .i64 0, .nilSlice, .nilSlice]),
 (921, .cells 3 1 true false [.int .i64 1]),
 (924, .cells 3 1 true false [.int .i64 1]),
 (947, .cells 61 3 true false [.int .i64 5, .int .i64 0, .int .i64 0, .int .i64 1, .int .i64 0, .int .i64 0, .int .i64 8, .int .i64 0, .int .i64 0, .int .i64 41, .int .i64 1, .int .i64 0, .int .i64 26, .int .i64 4, .int .i64 0]),
 (963, .cells 3 1 true false [.int .i64 1]),
 (981, .cells 2 1 true false [.int .i64 1, .int .i64 0, .int .i64 9]),
 (1012, .cells 61 3 true false [.int .i64 1, .int .i64 1, .int .i64 0, .int .i64 6, .int .i64 0, .int .i64 0, .int .i64 5, .int .i64 0, .int .i64 0, .int .i64 1, .int .i64 2, .int .i64 0, .int .i64 17, .int .i64 0, .int .i64 0, .int .i64 27, .int .i64 10, .int .i64 0, .int .i64 5, .int .i64 0, .int .i64 0, .int .i64 36, .int .i64 0, .int .i64 1, .int .i64 6, .int .i64 0, .int .i64 0, .int .i64 26, .int .i64 2, .int .i64 0, .int .i64 41, .int .i64 0, .int .i64 0]),
 (1014, .cells 64 5 true false [.str [102], .slice 921 0 1, .int .i64 1, .slice 924 0 1, .slice 947 0 5, .str [109, 97, 105, 110], .slice 953 0 0, .int .i64 0, .slice 963 0 1, .slice 1012 0 11]),
 (1015, .cells 27 1 true false [.slice 731 0 5, .slice 1014 0 2, .int .i64 1, .nilSlice, .slice 981 0 3])]
  n1 := 1892
/-- turnstone/verify.walk -/
def sg2 : Stage where
  f := 76
  args := [.agg [.slice 731 0 5, .slice 1014 0 2, .int .i64 1, .nilSlice, .slice 981 0 3], .int .i64 1]
  h0 := [(731, .cells 205 5 true false [.int .i64 0, .str [], .int .i64 0, .nilSlice, .nilSlice, .int .i64 1, .str [105, 110, 116], .int .i64 0, .nilSlice, .nilSlice, .int .i64 2, .str [98, 111, 111, 108], .int .i64 0, .nilSlice, .nilSlice, .int .i64 3, .str [115, 116, 114, 105, 110, 103], .int .i64 0, .nilSlice, .nilSlice, .int .i64 4, .str [110, 105, 108], .int .i64 0, .nilSlice, .nilSlice]),
 (921, .cells 3 1 true false [.int .i64 1]),
 (924, .cells 3 1 true false [.int .i64 1]),
 (947, .cells 61 3 true false [.int .i64 5, .int .i64 0, .int .i64 0, .int .i64 1, .int .i64 0, .int .i64 0, .int .i64 8, .int .i64 0, .int .i64 0, .int .i64 41, .int .i64 1, .int .i64 0, .int .i64 26, .int .i64 4, .int .i64 0]),
 (963, .cells 3 1 true false [.int .i64 1]),
 (981, .cells 2 1 true false [.int .i64 1, .int .i64 0, .int .i64 9]),
 (1012, .cells 61 3 true false [.int .i64 1, .int .i64 1, .int .i64 0, .int .i64 6, .int .i64 0, .int .i64 0, .int .i64 5, .int .i64 0, .int .i64 0, .int .i64 1, .int .i64 2, .int .i64 0, .int .i64 17, .int .i64 0, .int .i64 0, .int .i64 27, .int .i64 10, .int .i64 0, .int .i64 5, .int .i64 0, .int .i64 0, .int .i64 36, .int .i64 0, .int .i64 1, .int .i64 6, .int .i64 0, .int .i64 0, .int .i64 26, .int .i64 2, .int .i64 0, .int .i64 41, .int .i64 0, .int .i64 0]),
 (1014, .cells 64 5 true false [.str [102], .slice 921 0 1, .int .i64 1, .slice 924 0 1, .slice 947 0 5, .str [109, 97, 105, 110], .slice 953 0 0, .int .i64 0, .slice 963 0 1, .slice 1012 0 11]),
 (1015, .cells 27 1 true false [.slice 731 0 5, .slice 1014 0 2, .int .i64 1, .nilSlice, .slice 981 0 3]),
 (1902, .cells 27 1 true false [.slice 731 0 5, .slice 1014 0 2, .int .i64 1, .nilSlice, .slice 981 0 3]),
 (1903, .cells 38 1 true false [.int .i64 0, .int .i64 0, .nilSlice, .nilSlice, .nilSlice]),
 (1904, .cells 27 1 true false [.slice 731 0 5, .slice 1014 0 2, .int .i64 1, .nilSlice, .slice 981 0 3]),
 (1905, .cells 77 1 true false [.nilSlice, .int .i64 0, .nilSlice, .nilSlice])]
  n0 := 1908
  v := .tuple [.map 1909, .int .i64 0, .int .i64 0]
  h1 := [(731, .cells 205 5 true false [.int .i64 0, .str [], .int .i64 0, .nilSlice, .nilSlice, .int .i64 1, .str [105, 110, 116], .int .i64 0, .nilSlice, .nilSlice, .int .i64 2, .str [98, 111, 111, 108], .int .i64 0, .nilSlice, .nilSlice, .int .i64 3, .str [115, 116, 114, 105, 110, 103], .int .i64 0, .nilSlice, .nilSlice, .int .i64 4, .str [110, 105, 108], .int .i64 0, .nilSlice, .nilSlice]),
 (921, .cells 3 1 true false [.int .i64 1]),
 (924, .cells 3 1 true false [.int .i64 1]),
 (947, .cells 61 3 true false [.int .i64 5, .int .i64 0, .int .i64 0, .int .i64 1, .int .i64 0, .int .i64 0, .int .i64 8, .int .i64 0, .int .i64 0, .int .i64 41, .int .i64 1, .int .i64 0, .int .i64 26, .int .i64 4, .int .i64 0]),
 (963, .cells 3 1 true false [.int .i64 1]),
 (981, .cells 2 1 true false [.int .i64 1, .int .i64 0, .int .i64 9]),
 (1012, .cells 61 3 true false [.int .i64 1, .int .i64 1, .int .i64 0, .int .i64 6, .int .i64 0, .int .i64 0, .int .i64 5, .int .i64 0, .int .i64 0, .int .i64 1, .int .i64 2, .int .i64 0, .int .i64 17, .int .i64 0, .int .i64 0, .int .i64 27, .int .i64 10, .int .i64 0, .int .i64 5, .int .i64 0, .int .i64 0, .int .i64 36, .int .i64 0, .int .i64 1, .int .i64 6, .int .i64 0, .int .i64 0, .int .i64 26, .int .i64 2, .int .i64 0, .int .i64 41, .int .i64 0, .int .i64 0]),
 (1014, .cells 64 5 true false [.str [102], .slice 921 0 1, .int .i64 1, .slice 924 0 1, .slice 947 0 5, .str [109, 97, 105, 110], .slice 953 0 0, .int .i64 0, .slice 963 0 1, .slice 1012 0 11]),
 (1015, .cells 27 1 true false [.slice 731 0 5, .slice 1014 0 2, .int .i64 1, .nilSlice, .slice 981 0 3]),
 (1902, .cells 27 1 true false [.slice 731 0 5, .slice 1014 0 2, .int .i64 1, .nilSlice, .slice 981 0 3]),
 (1903, .cells 38 1 true false [.int .i64 0, .int .i64 0, .nilSlice, .nilSlice, .nilSlice]),
 (1904, .cells 27 1 true false [.slice 731 0 5, .slice 1014 0 2, .int .i64 1, .nilSlice, .slice 981 0 3]),
 (1905, .cells 77 1 true false [.nilSlice, .int .i64 0, .nilSlice, .nilSlice]),
 (1909, .map [(.int .i64 0, .nilSlice, 0), (.int .i64 1, .slice 1950 0 1, 1), (.int .i64 2, .slice 1956 0 0, 2), (.int .i64 3, .slice 1971 0 1, 3), (.int .i64 4, .slice 1981 0 2, 4), (.int .i64 5, .slice 1990 0 1, 5), (.int .i64 6, .slice 1996 0 0, 6), (.int .i64 10, .slice 1996 0 0, 7), (.int .i64 7, .slice 2008 0 1, 8), (.int .i64 8, .slice 2023 0 1, 9), (.int .i64 9, .slice 2029 0 0, 10)] 11),
 (1971, .cells 3 1 true false [.int .i64 1])]
  n1 := 2051
/-- turnstone/build.Build -/
def sg3 : Stage where
  f := 6
  args := [.agg [.slice 731 0 5, .slice 1014 0 2, .int .i64 1, .nilSlice, .slice 981 0 3], .int .i64 1, .int .i64 2, .slice 2756 0 1]
  h0 := [(731, .cells 205 5 true false [.int .i64 0, .str [], .int .i64 0, .nilSlice, .nilSlice, .int .i64 1, .str [105, 110, 116], .int .i64 0, .nilSlice, .nilSlice, .int .i64 2, .str [98, 111, 111, 108], .int .i64 0, .nilSlice, .nilSlice, .int .i64 3, .str [115, 116, 114, 105, 110, 103], .int .i64 0, .nilSlice, .nilSlice, .int .i64 4, .str [110, 105, 108], .int .i64 0, .nilSlice, .nilSlice]),
 (921, .cells 3 1 true false [.int .i64 1]),
 (924, .cells 3 1 true false [.int .i64 1]),
 (947, .cells 61 3 true false [.int .i64 5, .int .i64 0, .int .i64 0, .int .i64 1, .int .i64 0, .int .i64 0, .int .i64 8, .int .i64 0, .int .i64 0, .int .i64 41, .int .i64 1, .int .i64 0, .int .i64 26, .int .i64 4, .int .i64 0]),
 (963, .cells 3 1 true false [.int .i64 1]),
 (981, .cells 2 1 true false [.int .i64 1, .int .i64 0, .int .i64 9]),
 (1012, .cells 61 3 true false [.int .i64 1, .int .i64 1, .int .i64 0, .int .i64 6, .int .i64 0, .int .i64 0, .int .i64 5, .int .i64 0, .int .i64 0, .int .i64 1, .int .i64 2, .int .i64 0, .int .i64 17, .int .i64 0, .int .i64 0, .int .i64 27, .int .i64 10, .int .i64 0, .int .i64 5, .int .i64 0, .int .i64 0, .int .i64 36, .int .i64 0, .int .i64 1, .int .i64 6, .int .i64 0, .int .i64 0, .int .i64 26, .int .i64 2, .int .i64 0, .int .i64 41, .int .i64 0, .int .i64 0]),
 (1014, .cells 64 5 true false [.str [102], .slice 921 0 1, .int .i64 1, .slice 924 0 1, .slice 947 0 5, .str [109, 97, 105, 110], .slice 953 0 0, .int .i64 0, .slice 963 0 1, .slice 1012 0 11]),
 (1015, .cells 27 1 true false [.slice 731 0 5, .slice 1014 0 2, .int .i64 1, .nilSlice, .slice 981 0 3]),
 (2756, .cells 42 4 true false [.int .i64 1, .int .i64 7, .int .i64 4, .int .i64 0])]
  n0 := 2757
  v := .tuple [.agg [.int .i64 1, .int .i64 2, .slice 3873 0 7, .slice 3894 0 6, .slice 3886 0 2], .int .i64 0]
  h1 := [(731, .cells 205 5 true false [.int .i64 0, .str [], .int .i64 0, .nilSlice, .nilSlice, .int .i64 1, .str [105, 110, 116], .int .i64 0, .nilSlice, .nilSlice, .int .i64 2, .str [98, 111, 111, 108], .int .i64 0, .nilSlice, .nilSlice, .int .i64 3, .str [115, 116, 114, 105, 110, 103], .int .i64 0, .nilSlice, .nilSlice, .int .i64 4, .str [110, 105, 108], .int .i64 0, .nilSlice, .nilSlice]),
 (921, .cells 3 1 true false [.int .i64 1]),
 (924, .cells 3 1 true false [.int .i64 1]),
 (947, .cells 61 3 true false [.int .i64 5, .int .i64 0, .int .i64 0, .int .i64 1, .int .i64 0, .int .i64 0, .int .i64 8, .int .i64 0, .int .i64 0, .int .i64 41, .int .i64 1, .int .i64 0, .int .i64 26, .int .i64 4, .int .i64 0]),
 (963, .cells 3 1 true false [.int .i64 1]),
 (981, .cells 2 1 true false [.int .i64 1, .int .i64 0, .int .i64 9]),
 (1012, .cells 61 3 true false [.int .i64 1, .int .i64 1, .int .i64 0, .int .i64 6, .int .i64 0, .int .i64 0, .int .i64 5, .int .i64 0, .int .i64 0, .int .i64 1, .int .i64 2, .int .i64 0, .int .i64 17, .int .i64 0, .int .i64 0, .int .i64 27, .int .i64 10, .int .i64 0, .int .i64 5, .int .i64 0, .int .i64 0, .int .i64 36, .int .i64 0, .int .i64 1, .int .i64 6, .int .i64 0, .int .i64 0, .int .i64 26, .int .i64 2, .int .i64 0, .int .i64 41, .int .i64 0, .int .i64 0]),
 (1014, .cells 64 5 true false [.str [102], .slice 921 0 1, .int .i64 1, .slice 924 0 1, .slice 947 0 5, .str [109, 97, 105, 110], .slice 953 0 0, .int .i64 0, .slice 963 0 1, .slice 1012 0 11]),
 (1015, .cells 27 1 true false [.slice 731 0 5, .slice 1014 0 2, .int .i64 1, .nilSlice, .slice 981 0 3]),
 (2756, .cells 42 4 true false [.int .i64 1, .int .i64 7, .int .i64 4, .int .i64 0]),
 (3673, .cells 3 1 true false [.int .i64 1]),
 (3681, .cells 3 1 true false [.int .i64 2, .int .i64 3]),
 (3689, .cells 3 1 true false [.int .i64 4]),
 (3705, .cells 3 1 true false [.int .i64 5]),
 (3714, .cells 3 1 true false [.int .i64 1]),
 (3723, .cells 3 1 true false [.int .i64 1]),
 (3725, .cells 119 4 true false [.int .i64 1, .int .i64 2, .slice 3723 0 1, .slice 3722 0 0]),
 (3733, .cells 3 1 true false [.int .i64 1]),
 (3735, .cells 119 4 true false [.int .i64 1, .int .i64 10, .slice 3733 0 1, .slice 3732 0 0]),
 (3777, .cells 3 1 true false [.int .i64 0, .int .i64 5]),
 (3781, .cells 3 1 true false [.int .i64 0, .int .i64 6]),
 (3788, .cells 3 1 true false [.int .i64 1]),
 (3795, .cells 3 1 true false [.int .i64 1]),
 (3802, .cells 3 1 true false [.int .i64 2]),
 (3809, .cells 3 1 true false [.int .i64 4]),
 (3820, .cells 3 1 true false [.int .i64 0]),
 (3836, .cells 3 1 true false [.int .i64 1, .int .i64 2, .int .i64 3, .int .i64 4]),
 (3844, .cells 3 1 true false [.int .i64 5, .int .i64 6]),
 (3873, .cells 91 6 true false [.int .i64 1, .int .i64 0, .int .i64 0, .int .i64 0, .slice 3635 0 0, .int .i64 0, .int .i64 21, .int .i64 0, .int .i64 0, .int .i64 0, .slice 3781 0 2, .int .i64 0, .int .i64 23, .int .i64 0, .int .i64 0, .int .i64 0, .slice 3644 0 0, .int .i64 0, .int .i64 2, .int .i64 0, .int .i64 0, .int .i64 9, .slice 3648 0 0, .int .i64 0, .int .i64 12, .int .i64 1, .int .i64 3, .int .i64 0, .slice 3652 0 0, .int .i64 0, .int .i64 2, .int .i64 0, .int .i64 0, .int .i64 1, .slice 3656 0 0, .int .i64 0, .int .i64 3, .int .i64 1, .int .i64 5, .int .i64 0, .slice 3660 0 0, .int .i64 0]),
 (3886, .cells 117 1 true false [.slice 3725 0 1, .slice 3735 0 1]),
 (3894, .cells 127 6 true false [.slice 3820 0 1, .int .i64 1, .int .i64 0, .slice 3673 0 1, .nilSlice, .int .i64 0, .slice 3836 0 4, .int .i64 2, .int .i64 4, .slice 3681 0 2, .slice 3777 0 2, .int .i64 0, .nilSlice, .int .i64 1, .int .i64 0, .slice 3689 0 1, .slice 3788 0 1, .int .i64 0, .nilSlice, .int .i64 3, .int .i64 0, .slice 3695 0 0, .slice 3795 0 1, .int .i64 1, .slice 3844 0 2, .int .i64 1, .int .i64 0, .slice 3705 0 1, .slice 3802 0 1, .int .i64 0, .nilSlice, .int .i64 1, .int .i64 0, .slice 3714 0 1, .slice 3809 0 1, .int .i64 0])]
  n1 := 4087
/-- turnstone/eval.Run -/
def sg4 : Stage where
  f := 10
  args := [.agg [.int .i64 1, .int .i64 2, .slice 3873 0 7, .slice 3894 0 6, .slice 3886 0 2], .ptr 4393 0, .slice 4436 0 1, .int .i64 (-1), .int .i64 9999]
  h0 := [(1012, .cells 61 3 true false [.int .i64 1, .int .i64 1, .int .i64 0, .int .i64 6, .int .i64 0, .int .i64 0, .int .i64 5, .int .i64 0, .int .i64 0, .int .i64 1, .int .i64 2, .int .i64 0, .int .i64 17, .int .i64 0, .int .i64 0, .int .i64 27, .int .i64 10, .int .i64 0, .int .i64 5, .int .i64 0, .int .i64 0, .int .i64 36, .int .i64 0, .int .i64 1, .int .i64 6, .int .i64 0, .int .i64 0, .int .i64 26, .int .i64 2, .int .i64 0, .int .i64 41, .int .i64 0, .int .i64 0]),
 (1014, .cells 64 5 true false [.str [102], .slice 921 0 1, .int .i64 1, .slice 924 0 1, .slice 947 0 5, .str [109, 97, 105, 110], .slice 953 0 0, .int .i64 0, .slice 963 0 1, .slice 1012 0 11]),
 (1015, .cells 27 1 true false [.slice 731 0 5, .slice 1014 0 2, .int .i64 1, .nilSlice, .slice 981 0 3]),
 (3673, .cells 3 1 true false [.int .i64 1]),
 (3681, .cells 3 1 true false [.int .i64 2, .int .i64 3]),
 (3689, .cells 3 1 true false [.int .i64 4]),
 (3705, .cells 3 1 true false [.int .i64 5]),
 (3714, .cells 3 1 true false [.int .i64 1]),
 (3723, .cells 3 1 true false [.int .i64 1]),
 (3725, .cells 119 4 true false [.int .i64 1, .int .i64 2, .slice 3723 0 1, .slice 3722 0 0]),
 (3733, .cells 3 1 true false [.int .i64 1]),
 (3735, .cells 119 4 true false [.int .i64 1, .int .i64 10, .slice 3733 0 1, .slice 3732 0 0]),
 (3777, .cells 3 1 true false [.int .i64 0, .int .i64 5]),
 (3781, .cells 3 1 true false [.int .i64 0, .int .i64 6]),
 (3788, .cells 3 1 true false [.int .i64 1]),
 (3795, .cells 3 1 true false [.int .i64 1]),
 (3802, .cells 3 1 true false [.int .i64 2]),
 (3809, .cells 3 1 true false [.int .i64 4]),
 (3820, .cells 3 1 true false [.int .i64 0]),
 (3836, .cells 3 1 true false [.int .i64 1, .int .i64 2, .int .i64 3, .int .i64 4]),
 (3844, .cells 3 1 true false [.int .i64 5, .int .i64 6]),
 (3873, .cells 91 6 true false [.int .i64 1, .int .i64 0, .int .i64 0, .int .i64 0, .slice 3635 0 0, .int .i64 0, .int .i64 21, .int .i64 0, .int .i64 0, .int .i64 0, .slice 3781 0 2, .int .i64 0, .int .i64 23, .int .i64 0, .int .i64 0, .int .i64 0, .slice 3644 0 0, .int .i64 0, .int .i64 2, .int .i64 0, .int .i64 0, .int .i64 9, .slice 3648 0 0, .int .i64 0, .int .i64 12, .int .i64 1, .int .i64 3, .int .i64 0, .slice 3652 0 0, .int .i64 0, .int .i64 2, .int .i64 0, .int .i64 0, .int .i64 1, .slice 3656 0 0, .int .i64 0, .int .i64 3, .int .i64 1, .int .i64 5, .int .i64 0, .slice 3660 0 0, .int .i64 0]),
 (3886, .cells 117 1 true false [.slice 3725 0 1, .slice 3735 0 1]),
 (3894, .cells 127 6 true false [.slice 3820 0 1, .int .i64 1, .int .i64 0, .slice 3673 0 1, .nilSlice, .int .i64 0, .slice 3836 0 4, .int .i64 2, .int .i64 4, .slice 3681 0 2, .slice 3777 0 2, .int .i64 0, .nilSlice, .int .i64 1, .int .i64 0, .slice 3689 0 1, .slice 3788 0 1, .int .i64 0, .nilSlice, .int .i64 3, .int .i64 0, .slice 3695 0 0, .slice 3795 0 1, .int .i64 1, .slice 3844 0 2, .int .i64 1, .int .i64 0, .slice 3705 0 1, .slice 3802 0 1, .int .i64 0, .nilSlice, .int .i64 1, .int .i64 0, .slice 3714 0 1, .slice 3809 0 1, .int .i64 0]),
 (4087, .cells 38 1 true false [.int .i64 1, .int .i64 2, .slice 3873 0 7, .slice 3894 0 6, .slice 3886 0 2]),
 (4384, .cells 104 1 true false [.slice 4366 0 5, .slice 4383 0 2, .int .i64 1, .slice 4338 0 0, .slice 4341 0 3, .ptr 4395 0, .slice 4390 0 1, .int .i64 0, .int .i64 0, .ptr 4390 0]),
 (4395, .cells 134 1 true false [.slice 4415 0 5, .ptr 4393 0, .nilSlice, .slice 4394 0 0, .int .i64 0, .nilSlice]),
 (4436, .cells 58 1 true false [.int .u64 0]),
 (4437, .cells 52 1 true false [.int .i64 0, .int .i64 0, .int .i64 0, .nilSlice, .int .i64 0])]
  n0 := 4438
  v := .agg [.int .i64 1, .int .i64 1, .int .i64 (-1), .slice 5055 0 1, .int .i64 98]
  h1 := [(1012, .cells 61 3 true false [.int .i64 1, .int .i64 1, .int .i64 0, .int .i64 6, .int .i64 0, .int .i64 0, .int .i64 5, .int .i64 0, .int .i64 0, .int .i64 1, .int .i64 2, .int .i64 0, .int .i64 17, .int .i64 0, .int .i64 0, .int .i64 27, .int .i64 10, .int .i64 0, .int .i64 5, .int .i64 0, .int .i64 0, .int .i64 36, .int .i64 0, .int .i64 1, .int .i64 6, .int .i64 0, .int .i64 0, .int .i64 26, .int .i64 2, .int .i64 0, .int .i64 41, .int .i64 0, .int .i64 0]),
 (1014, .cells 64 5 true false [.str [102], .slice 921 0 1, .int .i64 1, .slice 924 0 1, .slice 947 0 5, .str [109, 97, 105, 110], .slice 953 0 0, .int .i64 0, .slice 963 0 1, .slice 1012 0 11]),
 (1015, .cells 27 1 true false [.slice 731 0 5, .slice 1014 0 2, .int .i64 1, .nilSlice, .slice 981 0 3]),
 (3673, .cells 3 1 true false [.int .i64 1]),
 (3681, .cells 3 1 true false [.int .i64 2, .int .i64 3]),
 (3689, .cells 3 1 true false [.int .i64 4]),
 (3705, .cells 3 1 true false [.int .i64 5]),
 (3714, .cells 3 1 true false [.int .i64 1]),
 (3723, .cells 3 1 true false [.int .i64 1]),
 (3725, .cells 119 4 true false [.int .i64 1, .int .i64 2, .slice 3723 0 1, .slice 3722 0 0]),
 (3733, .cells 3 1 true false [.int .i64 1]),
 (3735, .cells 119 4 true false [.int .i64 1, .int .i64 10, .slice 3733 0 1, .slice 3732 0 0]),
 (3777, .cells 3 1 true false [.int .i64 0, .int .i64 5]),
 (3781, .cells 3 1 true false [.int .i64 0, .int .i64 6]),
 (3788, .cells 3 1 true false [.int .i64 1]),
 (3795, .cells 3 1 true false [.int .i64 1]),
 (3802, .cells 3 1 true false [.int .i64 2]),
 (3809, .cells 3 1 true false [.int .i64 4]),
 (3820, .cells 3 1 true false [.int .i64 0]),
 (3836, .cells 3 1 true false [.int .i64 1, .int .i64 2, .int .i64 3, .int .i64 4]),
 (3844, .cells 3 1 true false [.int .i64 5, .int .i64 6]),
 (3873, .cells 91 6 true false [.int .i64 1, .int .i64 0, .int .i64 0, .int .i64 0, .slice 3635 0 0, .int .i64 0, .int .i64 21, .int .i64 0, .int .i64 0, .int .i64 0, .slice 3781 0 2, .int .i64 0, .int .i64 23, .int .i64 0, .int .i64 0, .int .i64 0, .slice 3644 0 0, .int .i64 0, .int .i64 2, .int .i64 0, .int .i64 0, .int .i64 9, .slice 3648 0 0, .int .i64 0, .int .i64 12, .int .i64 1, .int .i64 3, .int .i64 0, .slice 3652 0 0, .int .i64 0, .int .i64 2, .int .i64 0, .int .i64 0, .int .i64 1, .slice 3656 0 0, .int .i64 0, .int .i64 3, .int .i64 1, .int .i64 5, .int .i64 0, .slice 3660 0 0, .int .i64 0]),
 (3886, .cells 117 1 true false [.slice 3725 0 1, .slice 3735 0 1]),
 (3894, .cells 127 6 true false [.slice 3820 0 1, .int .i64 1, .int .i64 0, .slice 3673 0 1, .nilSlice, .int .i64 0, .slice 3836 0 4, .int .i64 2, .int .i64 4, .slice 3681 0 2, .slice 3777 0 2, .int .i64 0, .nilSlice, .int .i64 1, .int .i64 0, .slice 3689 0 1, .slice 3788 0 1, .int .i64 0, .nilSlice, .int .i64 3, .int .i64 0, .slice 3695 0 0, .slice 3795 0 1, .int .i64 1, .slice 3844 0 2, .int .i64 1, .int .i64 0, .slice 3705 0 1, .slice 3802 0 1, .int .i64 0, .nilSlice, .int .i64 1, .int .i64 0, .slice 3714 0 1, .slice 3809 0 1, .int .i64 0]),
 (4087, .cells 38 1 true false [.int .i64 1, .int .i64 2, .slice 3873 0 7, .slice 3894 0 6, .slice 3886 0 2]),
 (4384, .cells 104 1 true false [.slice 4366 0 5, .slice 4383 0 2, .int .i64 1, .slice 4338 0 0, .slice 4341 0 3, .ptr 4395 0, .slice 4390 0 1, .int .i64 0, .int .i64 0, .ptr 4390 0]),
 (4395, .cells 134 1 true false [.slice 4415 0 5, .ptr 4393 0, .nilSlice, .slice 4394 0 0, .int .i64 0, .nilSlice]),
 (4436, .cells 58 1 true false [.int .u64 0]),
 (4437, .cells 52 1 true false [.int .i64 0, .int .i64 0, .int .i64 0, .nilSlice, .int .i64 0]),
 (5053, .cells 58 1 true false [.int .u64 9]),
 (5055, .cells 66 4 true false [.int .i64 1, .int .i64 10, .slice 5053 0 1, .nilSlice])]
  n1 := 5056
theorem CKH : ∀ f a h H, CK.K f a h = CK.K f a H := fun _ _ _ _ => rfl
end Go.Proofs.YthecofapmpibmaaGreatDoor.Hx
