/-
  Calls that are evaluated by themselves: what each needs of memory and what it leaves.
-/
import Derived.Test.YtgpoclcmapnloaaGreatDoorBs
namespace Go.Proofs.YtgpoclcmapnloaaGreatDoor
open Go.Ev
set_option maxRecDepth 1000000
set_option linter.unusedVariables false
set_option linter.unusedSimpArgs false
noncomputable def m0 : Memo := ⟨25, [(.agg [(kB 0), (kB 0), (kB 0), (kB 0), (kB 0), (kB 0), (kB 0), (kB 0), (kI 0), (kB 67), (kB 118), (kB 10), (kB 176), (kB 35), (kB 245), (kB 86), (kB 174), .nils])], 86, [], [], [], (.tuple [(.agg [(kB 139), (kB 236), (kB 231), (kB 181), (kB 146), (kB 143), (kB 209), (kB 18)]), (kI 0)]), 158⟩
noncomputable def m1 : Memo := ⟨25, [(.agg [(kB 0), (kB 0), (kB 0), (kB 0), (kB 0), (kB 0), (kB 0), (kB 0), (kI 0), (kB 67), (kB 118), (kB 10), (kB 176), (kB 35), (kB 245), (kB 86), (kB 174), .nils])], 197, [], [], [], (.tuple [(.agg [(kB 139), (kB 236), (kB 231), (kB 181), (kB 146), (kB 143), (kB 209), (kB 18)]), (kI 0)]), 269⟩
noncomputable def L0 : LB := .m [⟨(.agg [(kB 1), (kB 9), (kB 0), (kB 0), (kB 0), (kB 0), (kB 0), (kB 0), (kB 201), (kB 170), (kB 174), (kB 223), (kB 184), (kB 181), (kB 60), (kB 165)]), (kI 0), 0⟩] 1
noncomputable def L1 : LB := .c 109 false 0 false [(.slice 365 0 1 none), (.map 176)]
noncomputable def L2 : LB := .c 166 false 0 false [(kB 139), (kB 236), (kB 231), (kB 181), (kB 146), (kB 143), (kB 209), (kB 18), (kB 139), (kB 236), (kB 231), (kB 181), (kB 146), (kB 143), (kB 209), (kB 18), (kI 0), (.map 271)]
noncomputable def L3 : LB := .m [⟨(.agg [(kB 1), (kB 9), (kB 0), (kB 0), (kB 0), (kB 0), (kB 0), (kB 0)]), (.agg [(kI 100000), (kI 0)]), 0⟩] 1
noncomputable def L4 : LB := .c 155 false 0 false [(.map 273)]
noncomputable def L5 : LB := .c 130 false 0 false [(kI 0), (kI 0), (kI 0), (.iface 24 (.ptr 177 0)), (kB 139), (kB 236), (kB 231), (kB 181), (kB 146), (kB 143), (kB 209), (kB 18), (.ptr 272 0), (.ptr 279 0), (.map 281)]
noncomputable def L6 : LB := .m [⟨(.agg [(kB 139), (kB 236), (kB 231), (kB 181), (kB 146), (kB 143), (kB 209), (kB 18)]), (.ptr 285 0), 0⟩] 1
noncomputable def L7 : LB := .c 137 false 0 false [(.ptr 274 0), (.iface 57 (.ptr 283 0)), .nils, (kB 0), (kB 0), (kB 0), (kB 0), (kB 0), (kB 0), (kB 0), (kB 0), (kI 0), (kB 67), (kB 118), (kB 10), (kB 176), (kB 35), (kB 245), (kB 86), (kB 174), .nils, .nils]
noncomputable def L8 : LB := .y 5 true 0 false 3 332929
noncomputable def L9 : LB := .y 5 true 0 false 2 0
noncomputable def L10 : LB := .c 171 false 0 false [(kI 256), .nils]
noncomputable def L11 : LB := .c 175 true 0 false [(kB 1), (kB 9), (kB 0), (kB 0), (kB 0), (kB 0), (kB 0), (kB 0), (kI 0), (kI 1), (kI 0), (.slice 587 0 3 none), (.slice 589 0 2 none), (kB 169), (kB 105), (kB 56), (kB 84), (kB 155), (kB 217), (kB 167), (kB 1), (kI 0)]
noncomputable def L12 : LB := .c 171 false 0 false [(kI 256), (.slice 618 0 1 none)]
noncomputable def m2 : Memo := ⟨23, [(.ptr 280 0), (.agg [(kB 1), (kB 9), (kB 0), (kB 0), (kB 0), (kB 0), (kB 0), (kB 0), (kI 0), (kI 1), (kI 0), (.slice 309 0 3 none), (.slice 368 0 2 none)])], 510, [(176, L0), (177, L1), (272, L2), (273, L3), (274, L4), (280, L5), (281, L6), (285, L7), (309, L8), (368, L9)], [(279, L10)], [(589, L9), (587, L8), (618, L11), (279, L12)], (kI 0), 619⟩
noncomputable def m3 : Memo := ⟨25, [(.agg [(kB 0), (kB 0), (kB 0), (kB 0), (kB 0), (kB 0), (kB 0), (kB 0), (kI 0), (kB 67), (kB 118), (kB 10), (kB 176), (kB 35), (kB 245), (kB 86), (kB 174), (.slice 694 0 0 (some 0))])], 695, [], [], [], (.tuple [(.agg [(kB 139), (kB 236), (kB 231), (kB 181), (kB 146), (kB 143), (kB 209), (kB 18)]), (kI 0)]), 767⟩
noncomputable def L13 : LB := .y 38 false 0 false 8 119303176304748969
noncomputable def m4 : Memo := ⟨88, [(.slice 882 0 1 (some 1))], 912, [(882, L13)], [], [], (.tuple [(.agg [(kB 190), (kB 183), (kB 206), (kB 33), (kB 22), (kB 221), (kB 35), (kB 202)]), (kI 0)]), 956⟩
noncomputable def L14 : LB := .c 41 true 0 false [(kB 1), (kB 9), (kB 0), (kB 0), (kB 0), (kB 0), (kB 0), (kB 0), (kI 0), (kI 1), (kI 0), (.slice 805 0 3 none), (.slice 807 0 2 none)]
noncomputable def m5 : Memo := ⟨25, [(.agg [(kB 139), (kB 236), (kB 231), (kB 181), (kB 146), (kB 143), (kB 209), (kB 18), (kI 1), (kB 2), (kB 9), (kB 0), (kB 0), (kB 0), (kB 0), (kB 0), (kB 0), (.slice 854 0 1 none)])], 856, [(805, L8), (807, L9), (854, L14)], [], [], (.tuple [(.agg [(kB 152), (kB 56), (kB 57), (kB 92), (kB 210), (kB 191), (kB 37), (kB 89)]), (kI 0)]), 1010⟩
noncomputable def m6 : Memo := ⟨25, [(.agg [(kB 0), (kB 0), (kB 0), (kB 0), (kB 0), (kB 0), (kB 0), (kB 0), (kI 0), (kB 67), (kB 118), (kB 10), (kB 176), (kB 35), (kB 245), (kB 86), (kB 174), .nils])], 1034, [], [], [], (.tuple [(.agg [(kB 139), (kB 236), (kB 231), (kB 181), (kB 146), (kB 143), (kB 209), (kB 18)]), (kI 0)]), 1106⟩
noncomputable def L15 : LB := .m [] 0
noncomputable def L16 : LB := .c 116 false 0 false [(.iface 24 (.ptr 177 0)), (kI 0), (kI 0), (kI 0), .nils, (.map 282)]
noncomputable def L17 : LB := .m [⟨(.agg [(kB 139), (kB 236), (kB 231), (kB 181), (kB 146), (kB 143), (kB 209), (kB 18)]), (.agg [(kB 0), (kB 0), (kB 0), (kB 0), (kB 0), (kB 0), (kB 0), (kB 0), (kI 0)]), 0⟩] 1
noncomputable def L18 : LB := .y 38 true 0 false 8 119303176304748969
noncomputable def L19 : LB := .c 41 false 0 false [(kB 1), (kB 9), (kB 0), (kB 0), (kB 0), (kB 0), (kB 0), (kB 0), (kI 0), (kI 1), (kI 0), (.slice 1124 0 3 none), (.slice 1126 0 2 none)]
noncomputable def L20 : LB := .c 31 true 0 false [(kI 0)]
noncomputable def L21 : LB := .c 116 false 0 false [(.iface 24 (.ptr 177 0)), (kI 0), (kI 0), (kI 0), .nils, (.map 1114)]
noncomputable def L22 : LB := .m [⟨(.agg [(kB 1), (kB 9), (kB 0), (kB 0), (kB 0), (kB 0), (kB 0), (kB 0)]), (.agg [(kI 99994), (kI 1)]), 0⟩, ⟨(.agg [(kB 2), (kB 9), (kB 0), (kB 0), (kB 0), (kB 0), (kB 0), (kB 0)]), (.agg [(kI 1), (kI 0)]), 1⟩, ⟨(.agg [(kB 1), (kB 10), (kB 0), (kB 0), (kB 0), (kB 0), (kB 0), (kB 0)]), (.agg [(kI 5), (kI 0)]), 2⟩] 3
noncomputable def L23 : LB := .c 155 false 0 false [(.map 1109)]
noncomputable def L24 : LB := .c 137 false 0 false [(.ptr 1110 0), (.iface 57 (.ptr 1115 0)), (.slice 1219 0 1 none), (kB 139), (kB 236), (kB 231), (kB 181), (kB 146), (kB 143), (kB 209), (kB 18), (kI 1), (kB 2), (kB 9), (kB 0), (kB 0), (kB 0), (kB 0), (kB 0), (kB 0), (.slice 1119 0 1 (some 1)), (.slice 1248 0 1 none)]
noncomputable def L25 : LB := .c 175 true 0 false [(kB 0), (kB 0), (kB 0), (kB 0), (kB 0), (kB 0), (kB 0), (kB 0), (kI 0), (kI 0), (kI 0), .nils, .nils, (kB 0), (kB 0), (kB 0), (kB 0), (kB 0), (kB 0), (kB 0), (kB 0), (kI 0)]
noncomputable def L26 : LB := .m [⟨(.agg [(kB 139), (kB 236), (kB 231), (kB 181), (kB 146), (kB 143), (kB 209), (kB 18)]), (.ptr 285 0), 0⟩, ⟨(.agg [(kB 152), (kB 56), (kB 57), (kB 92), (kB 210), (kB 191), (kB 37), (kB 89)]), (.ptr 1128 0), 1⟩] 2
noncomputable def L27 : LB := .c 171 false 0 false [(kI 256), (.slice 618 0 0 none)]
noncomputable def L28 : LB := .c 166 false 0 false [(kB 139), (kB 236), (kB 231), (kB 181), (kB 146), (kB 143), (kB 209), (kB 18), (kB 152), (kB 56), (kB 57), (kB 92), (kB 210), (kB 191), (kB 37), (kB 89), (kI 0), (.map 271)]
noncomputable def L29 : LB := .m [⟨(.agg [(kB 139), (kB 236), (kB 231), (kB 181), (kB 146), (kB 143), (kB 209), (kB 18)]), (.agg [(kB 0), (kB 0), (kB 0), (kB 0), (kB 0), (kB 0), (kB 0), (kB 0), (kI 0)]), 0⟩, ⟨(.agg [(kB 152), (kB 56), (kB 57), (kB 92), (kB 210), (kB 191), (kB 37), (kB 89)]), (.agg [(kB 139), (kB 236), (kB 231), (kB 181), (kB 146), (kB 143), (kB 209), (kB 18), (kI 1)]), 1⟩] 2
noncomputable def m7 : Memo := ⟨28, [(.ptr 280 0), (.agg [(kB 139), (kB 236), (kB 231), (kB 181), (kB 146), (kB 143), (kB 209), (kB 18), (kI 1), (kB 2), (kB 9), (kB 0), (kB 0), (kB 0), (kB 0), (kB 0), (kB 0), (.slice 854 0 1 none)])], 855, [(176, L0), (177, L1), (273, L3), (274, L4), (280, L5), (282, L15), (283, L16), (285, L7), (805, L8), (807, L9), (854, L14)], [(271, L17), (272, L2), (279, L12), (281, L6), (618, L11)], [(1248, L18), (1126, L9), (1124, L8), (1119, L19), (1219, L20), (1114, L15), (1115, L21), (1109, L22), (1110, L23), (1128, L24), (618, L25), (281, L26), (279, L27), (272, L28), (271, L29)], (kI 0), 1307⟩
noncomputable def m8 : Memo := ⟨5, [], 175, [], [], [], (.bool true), 1375⟩
end Go.Proofs.YtgpoclcmapnloaaGreatDoor
