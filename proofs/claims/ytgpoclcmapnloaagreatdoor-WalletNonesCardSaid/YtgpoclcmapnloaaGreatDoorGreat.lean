/-
  DERIVED. MADE BY PROGRAM (an AI agent of the authors' house's tools/great-walk3.mjs) off ytgpoclcmapnloaagreatdoor.cut.gsa: THE TIE AT math/bits.deBruijn32tab, math/bits.deBruijn64tab, internal/strconv.uint64pow10, strings.asciiSpace, baize/code.operations, baize/print.operations, baize/print.parts, baize/sorts.stmtParts, baize/sorts.exprParts, baize/table.phases, unicode.White_Space: PAID BY A WALK OF 'gosem.cut.vars', the frame a variable; not by the kernel's run. The pattern and its lessons: GREAT.tables/000.READ-ME.md.
-/
import Derived.Test.YtgpoclcmapnloaaGreatDoorProg
import Derived.Great.CaseRows
import Derived.Great.LaidInts
import Derived.Great.ByCallsLater
import Derived.Lib.LaidU8
import Derived.Lib.LaidRTabT
import Derived.WalkKit
namespace Go.Proofs.YtgpoclcmapnloaaGreatDoor.Great
open Go.Great Go.Lib
set_option linter.unusedVariables false

def z1 : List Int := [0, 1, 28, 2, 29, 14, 24, 3, 30, 22, 20, 15, 25, 17, 4, 8, 31, 27, 13, 23, 21, 19, 16, 7, 26, 12, 18, 6, 11, 5, 10, 9]
def z2 : List Int := [0, 1, 56, 2, 57, 49, 28, 3, 61, 58, 42, 50, 38, 29, 17, 4, 62, 47, 59, 36, 45, 43, 51, 22, 53, 39, 33, 30, 24, 18, 12, 5, 63, 55, 48, 27, 60, 41, 37, 16, 46, 35, 44, 21, 52, 32, 23, 11, 54, 26, 40, 15, 34, 20, 31, 10, 25, 14, 19, 9, 13, 8, 7, 6]
def z0 : List Int := [1, 10, 100, 1000, 10000, 100000, 1000000, 10000000, 100000000, 1000000000, 10000000000, 100000000000, 1000000000000, 10000000000000, 100000000000000, 1000000000000000, 10000000000000000, 100000000000000000, 1000000000000000000, 10000000000000000000]
def z5 : List Int := [0, 0, 0, 0, 0, 0, 0, 0, 0, 1, 1, 1, 1, 1, 0, 0, 0, 0, 0, 0, 0, 0, 0, 0, 0, 0, 0, 0, 0, 0, 0, 0, 1, 0, 0, 0, 0, 0, 0, 0, 0, 0, 0, 0, 0, 0, 0, 0, 0, 0, 0, 0, 0, 0, 0, 0, 0, 0, 0, 0, 0, 0, 0, 0, 0, 0, 0, 0, 0, 0, 0, 0, 0, 0, 0, 0, 0, 0, 0, 0, 0, 0, 0, 0, 0, 0, 0, 0, 0, 0, 0, 0, 0, 0, 0, 0, 0, 0, 0, 0, 0, 0, 0, 0, 0, 0, 0, 0, 0, 0, 0, 0, 0, 0, 0, 0, 0, 0, 0, 0, 0, 0, 0, 0, 0, 0, 0, 0, 0, 0, 0, 0, 0, 0, 0, 0, 0, 0, 0, 0, 0, 0, 0, 0, 0, 0, 0, 0, 0, 0, 0, 0, 0, 0, 0, 0, 0, 0, 0, 0, 0, 0, 0, 0, 0, 0, 0, 0, 0, 0, 0, 0, 0, 0, 0, 0, 0, 0, 0, 0, 0, 0, 0, 0, 0, 0, 0, 0, 0, 0, 0, 0, 0, 0, 0, 0, 0, 0, 0, 0, 0, 0, 0, 0, 0, 0, 0, 0, 0, 0, 0, 0, 0, 0, 0, 0, 0, 0, 0, 0, 0, 0, 0, 0, 0, 0, 0, 0, 0, 0, 0, 0, 0, 0, 0, 0, 0, 0, 0, 0, 0, 0, 0, 0, 0, 0, 0, 0, 0, 0, 0, 0, 0, 0, 0, 0]
def z4 : List Int := [1, 2, 1, 0, 0, 0, 1, 0, 2, 1]
def z7 : List Int := [1, 2, 1, 0, 0, 0, 1, 0, 2, 1]
def z9 : List Int := [0, 0, 1, 1, 1, 2, 2, 2, 2, 2, 2, 2, 2, 2, 2, 2, 2, 2]
set_option maxHeartbeats 4000000 in
def T12 : RTab := { r16 := #[(9, 13, 1), (32, 133, 101), (160, 5760, 5600), (8192, 8202, 1), (8232, 8233, 1), (8239, 8287, 48), (12288, 12288, 1)], r32 := #[], off := 2 }

noncomputable def c15 (n0 : Nat) : Array Value := (Tryz.prog.built 784 [(0, (.string ⟨#[104, 97, 108, 116]⟩)), (1, (.string ⟨#[110]⟩))]).getD #[]
noncomputable def c16 (n0 : Nat) : Array Value := (Tryz.prog.built 784 [(0, (.string ⟨#[115, 101, 116]⟩)), (1, (.string ⟨#[119, 110]⟩))]).getD #[]
noncomputable def c17 (n0 : Nat) : Array Value := (Tryz.prog.built 784 [(0, (.string ⟨#[109, 111, 118, 101]⟩)), (1, (.string ⟨#[119, 119]⟩))]).getD #[]
noncomputable def c18 (n0 : Nat) : Array Value := (Tryz.prog.built 784 [(0, (.string ⟨#[97, 100, 100]⟩)), (1, (.string ⟨#[119, 119, 119]⟩))]).getD #[]
noncomputable def c19 (n0 : Nat) : Array Value := (Tryz.prog.built 784 [(0, (.string ⟨#[115, 117, 98]⟩)), (1, (.string ⟨#[119, 119, 119]⟩))]).getD #[]
noncomputable def c20 (n0 : Nat) : Array Value := (Tryz.prog.built 784 [(0, (.string ⟨#[109, 117, 108]⟩)), (1, (.string ⟨#[119, 119, 119]⟩))]).getD #[]
noncomputable def c21 (n0 : Nat) : Array Value := (Tryz.prog.built 784 [(0, (.string ⟨#[100, 105, 118]⟩)), (1, (.string ⟨#[119, 119, 119]⟩))]).getD #[]
noncomputable def c22 (n0 : Nat) : Array Value := (Tryz.prog.built 784 [(0, (.string ⟨#[114, 101, 109]⟩)), (1, (.string ⟨#[119, 119, 119]⟩))]).getD #[]
noncomputable def c23 (n0 : Nat) : Array Value := (Tryz.prog.built 784 [(0, (.string ⟨#[101, 113]⟩)), (1, (.string ⟨#[119, 119, 119]⟩))]).getD #[]
noncomputable def c24 (n0 : Nat) : Array Value := (Tryz.prog.built 784 [(0, (.string ⟨#[110, 101]⟩)), (1, (.string ⟨#[119, 119, 119]⟩))]).getD #[]
noncomputable def c25 (n0 : Nat) : Array Value := (Tryz.prog.built 784 [(0, (.string ⟨#[108, 116]⟩)), (1, (.string ⟨#[119, 119, 119]⟩))]).getD #[]
noncomputable def c26 (n0 : Nat) : Array Value := (Tryz.prog.built 784 [(0, (.string ⟨#[108, 101]⟩)), (1, (.string ⟨#[119, 119, 119]⟩))]).getD #[]
noncomputable def c27 (n0 : Nat) : Array Value := (Tryz.prog.built 784 [(0, (.string ⟨#[97, 110, 100]⟩)), (1, (.string ⟨#[119, 119, 119]⟩))]).getD #[]
noncomputable def c28 (n0 : Nat) : Array Value := (Tryz.prog.built 784 [(0, (.string ⟨#[111, 114]⟩)), (1, (.string ⟨#[119, 119, 119]⟩))]).getD #[]
noncomputable def c29 (n0 : Nat) : Array Value := (Tryz.prog.built 784 [(0, (.string ⟨#[110, 111, 116]⟩)), (1, (.string ⟨#[119, 119]⟩))]).getD #[]
noncomputable def c30 (n0 : Nat) : Array Value := (Tryz.prog.built 784 [(0, (.string ⟨#[108, 111, 97, 100]⟩)), (1, (.string ⟨#[119, 119, 119]⟩))]).getD #[]
noncomputable def c31 (n0 : Nat) : Array Value := (Tryz.prog.built 784 [(0, (.string ⟨#[115, 116, 111, 114, 101]⟩)), (1, (.string ⟨#[119, 119, 119]⟩))]).getD #[]
noncomputable def c32 (n0 : Nat) : Array Value := (Tryz.prog.built 784 [(0, (.string ⟨#[99, 117, 116]⟩)), (1, (.string ⟨#[119, 110, 110]⟩))]).getD #[]
noncomputable def c33 (n0 : Nat) : Array Value := (Tryz.prog.built 784 [(0, (.string ⟨#[119, 105, 116, 104, 105, 110]⟩)), (1, (.string ⟨#[119, 119, 110]⟩))]).getD #[]
noncomputable def c34 (n0 : Nat) : Array Value := (Tryz.prog.built 784 [(0, (.string ⟨#[106, 117, 109, 112]⟩)), (1, (.string ⟨#[112]⟩))]).getD #[]
noncomputable def c35 (n0 : Nat) : Array Value := (Tryz.prog.built 784 [(0, (.string ⟨#[106, 122]⟩)), (1, (.string ⟨#[112, 119]⟩))]).getD #[]
noncomputable def c36 (n0 : Nat) : Array Value := (Tryz.prog.built 784 [(0, (.string ⟨#[106, 110, 122]⟩)), (1, (.string ⟨#[112, 119]⟩))]).getD #[]
noncomputable def c37 (n0 : Nat) : Array Value := (Tryz.prog.built 785 [(0, (.agg (c15 n0))), (1, (.agg (c16 n0))), (2, (.agg (c17 n0))), (3, (.agg (c18 n0))), (4, (.agg (c19 n0))), (5, (.agg (c20 n0))), (6, (.agg (c21 n0))), (7, (.agg (c22 n0))), (8, (.agg (c23 n0))), (9, (.agg (c24 n0))), (10, (.agg (c25 n0))), (11, (.agg (c26 n0))), (12, (.agg (c27 n0))), (13, (.agg (c28 n0))), (14, (.agg (c29 n0))), (15, (.agg (c30 n0))), (16, (.agg (c31 n0))), (17, (.agg (c32 n0))), (18, (.agg (c33 n0))), (19, (.agg (c34 n0))), (20, (.agg (c35 n0))), (21, (.agg (c36 n0)))]).getD #[]
noncomputable def c38 (n0 : Nat) : Array Value := (Tryz.prog.built 809 [(0, (.string ⟨#[]⟩)), (1, (.int .i64 6)), (2, (.int .i64 0))]).getD #[]
noncomputable def c39 (n0 : Nat) : Array Value := (Tryz.prog.built 809 [(0, (.string ⟨#[]⟩)), (1, (.int .i64 6)), (2, (.int .i64 0))]).getD #[]
noncomputable def c40 (n0 : Nat) : Array Value := (Tryz.prog.built 809 [(0, (.string ⟨#[]⟩)), (1, (.int .i64 6)), (2, (.int .i64 1))]).getD #[]
noncomputable def c41 (n0 : Nat) : Array Value := (Tryz.prog.built 809 [(0, (.string ⟨#[45]⟩)), (1, (.int .i64 6)), (2, (.int .i64 1))]).getD #[]
noncomputable def c42 (n0 : Nat) : Array Value := (Tryz.prog.built 809 [(0, (.string ⟨#[110, 111, 116]⟩)), (1, (.int .i64 6)), (2, (.int .i64 1))]).getD #[]
noncomputable def c43 (n0 : Nat) : Array Value := (Tryz.prog.built 809 [(0, (.string ⟨#[42]⟩)), (1, (.int .i64 5)), (2, (.int .i64 2))]).getD #[]
noncomputable def c44 (n0 : Nat) : Array Value := (Tryz.prog.built 809 [(0, (.string ⟨#[47]⟩)), (1, (.int .i64 5)), (2, (.int .i64 2))]).getD #[]
noncomputable def c45 (n0 : Nat) : Array Value := (Tryz.prog.built 809 [(0, (.string ⟨#[37]⟩)), (1, (.int .i64 5)), (2, (.int .i64 2))]).getD #[]
noncomputable def c46 (n0 : Nat) : Array Value := (Tryz.prog.built 809 [(0, (.string ⟨#[43]⟩)), (1, (.int .i64 4)), (2, (.int .i64 2))]).getD #[]
noncomputable def c47 (n0 : Nat) : Array Value := (Tryz.prog.built 809 [(0, (.string ⟨#[45]⟩)), (1, (.int .i64 4)), (2, (.int .i64 2))]).getD #[]
noncomputable def c48 (n0 : Nat) : Array Value := (Tryz.prog.built 809 [(0, (.string ⟨#[61]⟩)), (1, (.int .i64 3)), (2, (.int .i64 2))]).getD #[]
noncomputable def c49 (n0 : Nat) : Array Value := (Tryz.prog.built 809 [(0, (.string ⟨#[33, 61]⟩)), (1, (.int .i64 3)), (2, (.int .i64 2))]).getD #[]
noncomputable def c50 (n0 : Nat) : Array Value := (Tryz.prog.built 809 [(0, (.string ⟨#[60]⟩)), (1, (.int .i64 3)), (2, (.int .i64 2))]).getD #[]
noncomputable def c51 (n0 : Nat) : Array Value := (Tryz.prog.built 809 [(0, (.string ⟨#[60, 61]⟩)), (1, (.int .i64 3)), (2, (.int .i64 2))]).getD #[]
noncomputable def c52 (n0 : Nat) : Array Value := (Tryz.prog.built 809 [(0, (.string ⟨#[62]⟩)), (1, (.int .i64 3)), (2, (.int .i64 2))]).getD #[]
noncomputable def c53 (n0 : Nat) : Array Value := (Tryz.prog.built 809 [(0, (.string ⟨#[62, 61]⟩)), (1, (.int .i64 3)), (2, (.int .i64 2))]).getD #[]
noncomputable def c54 (n0 : Nat) : Array Value := (Tryz.prog.built 809 [(0, (.string ⟨#[97, 110, 100]⟩)), (1, (.int .i64 2)), (2, (.int .i64 2))]).getD #[]
noncomputable def c55 (n0 : Nat) : Array Value := (Tryz.prog.built 809 [(0, (.string ⟨#[111, 114]⟩)), (1, (.int .i64 1)), (2, (.int .i64 2))]).getD #[]
noncomputable def c56 (n0 : Nat) : Array Value := (Tryz.prog.built 810 [(0, (.agg (c38 n0))), (1, (.agg (c39 n0))), (2, (.agg (c40 n0))), (3, (.agg (c41 n0))), (4, (.agg (c42 n0))), (5, (.agg (c43 n0))), (6, (.agg (c44 n0))), (7, (.agg (c45 n0))), (8, (.agg (c46 n0))), (9, (.agg (c47 n0))), (10, (.agg (c48 n0))), (11, (.agg (c49 n0))), (12, (.agg (c50 n0))), (13, (.agg (c51 n0))), (14, (.agg (c52 n0))), (15, (.agg (c53 n0))), (16, (.agg (c54 n0))), (17, (.agg (c55 n0)))]).getD #[]
noncomputable def c60 (n0 : Nat) : Array Value := (Tryz.prog.built 384 [(0, (.bool true))]).getD #[]
noncomputable def c61 (n0 : Nat) : Array Value := (Tryz.prog.built 384 [(0, (.bool true))]).getD #[]
noncomputable def c62 (n0 : Nat) : Array Value := (Tryz.prog.built 384 [(1, (.bool true)), (2, (.bool true))]).getD #[]
noncomputable def c63 (n0 : Nat) : Array Value := (Tryz.prog.built 384 [(1, (.bool true)), (2, (.bool true))]).getD #[]
noncomputable def c64 (n0 : Nat) : Array Value := (Tryz.prog.built 384 [(2, (.bool true))]).getD #[]
noncomputable def c65 (n0 : Nat) : Array Value := (Tryz.prog.built 384 [(2, (.bool true))]).getD #[]
noncomputable def c66 (n0 : Nat) : Array Value := (Tryz.prog.built 384 [(1, (.bool true)), (2, (.bool true))]).getD #[]
noncomputable def c67 (n0 : Nat) : Array Value := (Tryz.prog.built 384 [(2, (.bool true))]).getD #[]
noncomputable def c68 (n0 : Nat) : Array Value := (Tryz.prog.built 384 [(2, (.bool true))]).getD #[]
noncomputable def c69 (n0 : Nat) : Array Value := (Tryz.prog.built 384 [(2, (.bool true))]).getD #[]
noncomputable def c70 (n0 : Nat) : Array Value := (Tryz.prog.built 384 [(2, (.bool true))]).getD #[]
noncomputable def c71 (n0 : Nat) : Array Value := (Tryz.prog.built 384 [(2, (.bool true))]).getD #[]
noncomputable def c72 (n0 : Nat) : Array Value := (Tryz.prog.built 384 [(1, (.bool true))]).getD #[]
noncomputable def c73 (n0 : Nat) : Array Value := (Tryz.prog.built 384 [(1, (.bool true)), (2, (.bool true))]).getD #[]
noncomputable def c74 (n0 : Nat) : Array Value := (Tryz.prog.built 384 [(1, (.bool true)), (2, (.bool true))]).getD #[]
noncomputable def c75 (n0 : Nat) : Array Value := (Tryz.prog.built 385 [(0, (.agg (c60 n0))), (1, (.agg (c61 n0))), (2, (.agg (c62 n0))), (3, (.agg (c63 n0))), (4, (.agg (c64 n0))), (5, (.agg (c65 n0))), (6, (.agg (c66 n0))), (7, (.agg (c67 n0))), (8, (.agg (c68 n0))), (9, (.agg (c69 n0))), (10, (.agg (c70 n0))), (11, (.agg (c71 n0))), (12, (.agg (c72 n0))), (13, (.agg (c73 n0))), (14, (.agg (c74 n0)))]).getD #[]
def accCells : Array Value := #[.int .u8 128, .int .u8 191, .int .u8 160, .int .u8 191, .int .u8 128, .int .u8 159, .int .u8 144, .int .u8 191, .int .u8 128, .int .u8 143, .int .u8 0, .int .u8 0, .int .u8 0, .int .u8 0, .int .u8 0, .int .u8 0, .int .u8 0, .int .u8 0, .int .u8 0, .int .u8 0, .int .u8 0, .int .u8 0, .int .u8 0, .int .u8 0, .int .u8 0, .int .u8 0, .int .u8 0, .int .u8 0, .int .u8 0, .int .u8 0, .int .u8 0, .int .u8 0]
def rowOf (w : World) (g : Nat) : Array Value := match w.heap[g]? with | some (.cells c _ _) => c | _ => #[]
def cellOf (w : World) (g : Nat) : Value := (rowOf w g).getD 0 undef
abbrev ints (k : IntKind) (zs : List Int) : DataW Unit := .slice (zs.map fun n => .lit (.int k n)) []
def laidAll : List (String × DataW Unit) := [("math/bits.deBruijn32tab", Lib.tabData .u8 z1), ("math/bits.deBruijn64tab", Lib.tabData .u8 z2), ("internal/strconv.uint64pow10", Lib.tabData .u64 z0), ("strings.asciiSpace", Lib.tabData .u8 z5), ("baize/code.operations", .agg [.agg [.lit (.string [104, 97, 108, 116]), .lit (.string [110])], .agg [.lit (.string [115, 101, 116]), .lit (.string [119, 110])], .agg [.lit (.string [109, 111, 118, 101]), .lit (.string [119, 119])], .agg [.lit (.string [97, 100, 100]), .lit (.string [119, 119, 119])], .agg [.lit (.string [115, 117, 98]), .lit (.string [119, 119, 119])], .agg [.lit (.string [109, 117, 108]), .lit (.string [119, 119, 119])], .agg [.lit (.string [100, 105, 118]), .lit (.string [119, 119, 119])], .agg [.lit (.string [114, 101, 109]), .lit (.string [119, 119, 119])], .agg [.lit (.string [101, 113]), .lit (.string [119, 119, 119])], .agg [.lit (.string [110, 101]), .lit (.string [119, 119, 119])], .agg [.lit (.string [108, 116]), .lit (.string [119, 119, 119])], .agg [.lit (.string [108, 101]), .lit (.string [119, 119, 119])], .agg [.lit (.string [97, 110, 100]), .lit (.string [119, 119, 119])], .agg [.lit (.string [111, 114]), .lit (.string [119, 119, 119])], .agg [.lit (.string [110, 111, 116]), .lit (.string [119, 119])], .agg [.lit (.string [108, 111, 97, 100]), .lit (.string [119, 119, 119])], .agg [.lit (.string [115, 116, 111, 114, 101]), .lit (.string [119, 119, 119])], .agg [.lit (.string [99, 117, 116]), .lit (.string [119, 110, 110])], .agg [.lit (.string [119, 105, 116, 104, 105, 110]), .lit (.string [119, 119, 110])], .agg [.lit (.string [106, 117, 109, 112]), .lit (.string [112])], .agg [.lit (.string [106, 122]), .lit (.string [112, 119])], .agg [.lit (.string [106, 110, 122]), .lit (.string [112, 119])]]), ("baize/print.operations", .agg [.agg [.lit (.string []), .lit (.int .i64 6), .lit (.int .i64 0)], .agg [.lit (.string []), .lit (.int .i64 6), .lit (.int .i64 0)], .agg [.lit (.string []), .lit (.int .i64 6), .lit (.int .i64 1)], .agg [.lit (.string [45]), .lit (.int .i64 6), .lit (.int .i64 1)], .agg [.lit (.string [110, 111, 116]), .lit (.int .i64 6), .lit (.int .i64 1)], .agg [.lit (.string [42]), .lit (.int .i64 5), .lit (.int .i64 2)], .agg [.lit (.string [47]), .lit (.int .i64 5), .lit (.int .i64 2)], .agg [.lit (.string [37]), .lit (.int .i64 5), .lit (.int .i64 2)], .agg [.lit (.string [43]), .lit (.int .i64 4), .lit (.int .i64 2)], .agg [.lit (.string [45]), .lit (.int .i64 4), .lit (.int .i64 2)], .agg [.lit (.string [61]), .lit (.int .i64 3), .lit (.int .i64 2)], .agg [.lit (.string [33, 61]), .lit (.int .i64 3), .lit (.int .i64 2)], .agg [.lit (.string [60]), .lit (.int .i64 3), .lit (.int .i64 2)], .agg [.lit (.string [60, 61]), .lit (.int .i64 3), .lit (.int .i64 2)], .agg [.lit (.string [62]), .lit (.int .i64 3), .lit (.int .i64 2)], .agg [.lit (.string [62, 61]), .lit (.int .i64 3), .lit (.int .i64 2)], .agg [.lit (.string [97, 110, 100]), .lit (.int .i64 2), .lit (.int .i64 2)], .agg [.lit (.string [111, 114]), .lit (.int .i64 1), .lit (.int .i64 2)]]), ("baize/print.parts", Lib.tabData .i64 z4), ("baize/sorts.stmtParts", Lib.tabData .i64 z7), ("baize/sorts.exprParts", Lib.tabData .i64 z9), ("baize/table.phases", .agg [.agg [.lit (.bool true), .lit (.bool false), .lit (.bool false), .lit (.bool false)], .agg [.lit (.bool true), .lit (.bool false), .lit (.bool false), .lit (.bool false)], .agg [.lit (.bool false), .lit (.bool true), .lit (.bool true), .lit (.bool false)], .agg [.lit (.bool false), .lit (.bool true), .lit (.bool true), .lit (.bool false)], .agg [.lit (.bool false), .lit (.bool false), .lit (.bool true), .lit (.bool false)], .agg [.lit (.bool false), .lit (.bool false), .lit (.bool true), .lit (.bool false)], .agg [.lit (.bool false), .lit (.bool true), .lit (.bool true), .lit (.bool false)], .agg [.lit (.bool false), .lit (.bool false), .lit (.bool true), .lit (.bool false)], .agg [.lit (.bool false), .lit (.bool false), .lit (.bool true), .lit (.bool false)], .agg [.lit (.bool false), .lit (.bool false), .lit (.bool true), .lit (.bool false)], .agg [.lit (.bool false), .lit (.bool false), .lit (.bool true), .lit (.bool false)], .agg [.lit (.bool false), .lit (.bool false), .lit (.bool true), .lit (.bool false)], .agg [.lit (.bool false), .lit (.bool true), .lit (.bool false), .lit (.bool false)], .agg [.lit (.bool false), .lit (.bool true), .lit (.bool true), .lit (.bool false)], .agg [.lit (.bool false), .lit (.bool true), .lit (.bool true), .lit (.bool false)]])] ++ ([("unicode.White_Space", rtabData T12)])
/-- No handle stands in the list: 'laidMetH' is 'laidMet'. -/
theorem noHandle (w : World) (h : laidMet Tryz.prog laidAll w) : laidMetH Tryz.prog laidAll w := by
  have e : (laidAll.filter fun x => x.2.handleName?.isSome) = [] := by kernel_rfl
  unfold laidMetH
  rw [e]
  exact h
theorem fits (k : IntKind) (zs : List Int) (h : (zs.all fun n => (Lit.int k n).wf) = true) : ∀ n ∈ zs, (Lit.int k n).wf = true := fun n hn => List.all_eq_true.1 h n hn

/-- The guide's nine facts on unicode's types ('RTypes') and eight on cells ('RExtra'), at this dump's numbers. -/
def rho : Shelf.Ren := ⟨id, fun | 3 => 3 | 49 => 800 | 51 => 249 | 141 => 778 | 193 => 796 | 194 => 797 | 196 => 799 | 198 => 802 | 201 => 805 | x => x, id⟩
theorem rty : RTypes Tryz.prog rho := ⟨by kernel_rfl, by kernel_rfl, by kernel_rfl, by kernel_rfl, by kernel_rfl, by kernel_rfl, by kernel_rfl, by kernel_rfl, by kernel_rfl⟩
theorem rex : RExtra Tryz.prog rho := ⟨by kernel_rfl, by kernel_rfl, by kernel_rfl, by kernel_rfl, by kernel_rfl, by kernel_rfl, by kernel_rfl, by kernel_rfl⟩

attribute [local irreducible] wpList Code.wp varsStart rowOf cellOf accCells z1 z2 z0 z5 z4 z7 z9 c15 c16 c17 c18 c19 c20 c21 c22 c23 c24 c25 c26 c27 c28 c29 c30 c31 c32 c33 c34 c35 c36 c37 c38 c39 c40 c41 c42 c43 c44 c45 c46 c47 c48 c49 c50 c51 c52 c53 c54 c55 c56 c60 c61 c62 c63 c64 c65 c66 c67 c68 c69 c70 c71 c72 c73 c74 c75

set_option linter.unusedSimpArgs false in
set_option maxRecDepth 1000000 in
set_option maxHeartbeats 4000000 in
theorem tie : Tryz.prog.laidByTextLater laidAll [.data, .data, .data, .data, .data, .data, .data, .data, .data, .data, .listed] true :=
  Program.laidByTextLater_by_calls (by as_aux_lemma => kernel_rfl) (by as_aux_lemma => kernel_rfl) (by as_aux_lemma => kernel_rfl) (by as_aux_lemma => kernel_rfl) (by as_aux_lemma => kernel_rfl) (by as_aux_lemma => kernel_rfl) (by as_aux_lemma => kernel_rfl) fun os tape => by
    have e : varsId Tryz.prog = 785 := by as_aux_lemma => kernel_rfl
    rw [e]
    refine calls_of_wp Tryz.func785 rfl ?_
    refine wp_anyFrame 76 (by as_aux_lemma => kernel_rfl) rfl fun a0 hs0 hd0 => ?_
    -- bits.go:44: math/bits.deBruijn32tab
    apply wp_seq_k; intro K0 hK0
    apply wp_region_lit
    refine wpList_buildFlatArrTo rfl 276 5 32 _ rfl .u8 z1 (some 0) rfl (by as_aux_lemma => kernel_rfl) (by as_aux_lemma => kernel_rfl) (by as_aux_lemma => kernel_rfl) (by as_aux_lemma => kernel_rfl) ?_
    refine wpList_store_rowTo rfl 276 _ _ rfl rfl 1 (z1.map (Value.int .u8)).toArray rfl (Act.eval_put_same _ 0 _ (by simp only [Act.size_put, hs0]; omega)) 276 (rowOf (varsStart Tryz.prog os tape) 1) (by as_aux_lemma => kernel_rfl) (by as_aux_lemma => kernel_rfl) (by as_aux_lemma => kernel_rfl) (by as_aux_lemma => kernel_rfl) ?_
    apply wpList_nil
    refine hK0 _ _ ?_
    refine wp_anyFrame 76 (by simp only [Act.size_put, hs0]) (by simp only [Act.defers_put', hd0]) fun a1 hs1 hd1 => ?_
    clear hK0 K0
    -- bits.go:51: math/bits.deBruijn64tab
    apply wp_seq_k; intro K1 hK1
    apply wp_region_lit
    refine wpList_buildFlatArrTo rfl 277 5 64 _ rfl .u8 z2 (some 1) rfl (by as_aux_lemma => kernel_rfl) (by as_aux_lemma => kernel_rfl) (by as_aux_lemma => kernel_rfl) (by as_aux_lemma => kernel_rfl) ?_
    refine wpList_store_rowTo rfl 277 _ _ rfl rfl 2 (z2.map (Value.int .u8)).toArray rfl (Act.eval_put_same _ 1 _ (by simp only [Act.size_put, hs1]; omega)) 277 (rowOf (varsStart Tryz.prog os tape) 2) (by as_aux_lemma => kernel_rfl) (by as_aux_lemma => kernel_rfl) (by as_aux_lemma => kernel_rfl) (by as_aux_lemma => kernel_rfl) ?_
    apply wpList_nil
    refine hK1 _ _ ?_
    refine wp_anyFrame 76 (by simp only [Act.size_put, hs1]) (by simp only [Act.defers_put', hd1]) fun a2 hs2 hd2 => ?_
    clear hK1 K1
    -- uscale.go:82: internal/strconv.uint64pow10
    apply wp_seq_k; intro K2 hK2
    apply wp_region_lit
    refine wpList_buildFlatArrTo rfl 271 94 20 _ rfl .u64 z0 (some 2) rfl (by as_aux_lemma => kernel_rfl) (by as_aux_lemma => kernel_rfl) (by as_aux_lemma => kernel_rfl) (by as_aux_lemma => kernel_rfl) ?_
    refine wpList_store_rowTo rfl 271 _ _ rfl rfl 0 (z0.map (Value.int .u64)).toArray rfl (Act.eval_put_same _ 2 _ (by simp only [Act.size_put, hs2]; omega)) 271 (rowOf (varsStart Tryz.prog os tape) 0) (by as_aux_lemma => kernel_rfl) (by as_aux_lemma => kernel_rfl) (by as_aux_lemma => kernel_rfl) (by as_aux_lemma => kernel_rfl) ?_
    apply wpList_nil
    refine hK2 _ _ ?_
    refine wp_anyFrame 76 (by simp only [Act.size_put, hs2]) (by simp only [Act.defers_put', hd2]) fun a3 hs3 hd3 => ?_
    clear hK2 K2
    -- tables.go:9029: unicode._White_Space
    apply wp_seq_k; intro K3 hK3
    apply wp_region_lit
    refine wpList_splitAt 7 (rgOps 802 "tables.go:9029" .u16 3 T12.r16.toList) (by as_aux_lemma => kernel_rfl) ?_
    refine wpList_rgs 802 "tables.go:9029" .u16 (fun _ _ _ => by as_aux_lemma => kernel_rfl) T12.r16.toList 3 _ (by simp only [Act.size_put, hs3]; exact Nat.le_of_ble_eq_true (by as_aux_lemma => kernel_rfl)) fun b3 hb3 hbd3 hev3 _ => ?_
    refine wpList_buildRgs rfl 796 802 _ .u16 T12.r16 rfl 3 ((varsStart Tryz.prog os tape).heap.size + 0) (by as_aux_lemma => kernel_rfl) (some 10) rfl (by as_aux_lemma => kernel_rfl) (by as_aux_lemma => kernel_rfl) (by as_aux_lemma => kernel_rfl) (by decide) (by decide) (by as_aux_lemma => kernel_rfl) hev3 ?_
    refine wpList_buildTo rfl 799 _ rfl (some 11) rfl #[.slice (some ⟨(varsStart Tryz.prog os tape).heap.size + 0, 0, none⟩) T12.r16.size T12.r16.size, .slice none 0 0, .int .i64 T12.off] ?_ ?_
    · simp only [List.map_toArray, List.map_cons, List.map_nil]
      rw [Act.eval_put_same _ 10 _ (by simp only [Act.size_put, hb3, hs3]; omega)]
      as_aux_lemma => kernel_rfl
    refine wpList_boxTo rfl 799 _ rfl (some 12) rfl ((varsStart Tryz.prog os tape).heap.size + 1) (by as_aux_lemma => kernel_rfl) #[.slice (some ⟨(varsStart Tryz.prog os tape).heap.size + 0, 0, none⟩) T12.r16.size T12.r16.size, .slice none 0 0, .int .i64 T12.off] (by rw [Act.eval_put_same _ 11 _ (by simp only [Act.size_put, hb3, hs3]; omega)]; rfl) ?_
    refine wpList_store_oneTo rfl 778 _ _ rfl rfl 12 (.pointer (some ⟨(varsStart Tryz.prog os tape).heap.size + 1, 0, none⟩)) rfl (Act.eval_put_same _ 12 _ (by simp only [Act.size_put, hb3, hs3]; omega)) rfl 778 (cellOf (varsStart Tryz.prog os tape) 12) (by as_aux_lemma => kernel_rfl) (by as_aux_lemma => kernel_rfl) ?_
    apply wpList_nil
    refine hK3 _ _ ?_
    refine wp_anyFrame 76 (by simp only [Act.size_put, hb3, hs3]) (by simp only [Act.defers_put', hbd3, hd3]) fun a4 hs4 hd4 => ?_
    clear hK3 K3
    -- tables.go:9082: unicode.White_Space
    apply wp_seq_k; intro K4 hK4
    apply wp_region_lit
    refine wpList_readTo rfl (some 13) rfl (.pointer (some ⟨(varsStart Tryz.prog os tape).heap.size + 1, 0, none⟩)) (by as_aux_lemma => kernel_rfl) ?_
    refine wpList_store_oneTo rfl 778 _ _ rfl rfl 6 (.pointer (some ⟨(varsStart Tryz.prog os tape).heap.size + 1, 0, none⟩)) rfl (Act.eval_put_same _ 13 _ (by simp only [Act.size_put, hs4]; omega)) rfl 778 (cellOf (varsStart Tryz.prog os tape) 6) (by as_aux_lemma => kernel_rfl) (by as_aux_lemma => kernel_rfl) ?_
    apply wpList_nil
    refine hK4 _ _ ?_
    refine wp_anyFrame 76 (by simp only [Act.size_put, hs4]) (by simp only [Act.defers_put', hd4]) fun a5 hs5 hd5 => ?_
    clear hK4 K4
    -- strings.go:358: strings.asciiSpace
    apply wp_seq_k; intro K5 hK5
    apply wp_region_lit
    refine wpList_buildTo rfl 752 _ rfl (some 14) rfl (z5.map (Value.int .u8)).toArray (by as_aux_lemma => kernel_rfl) ?_
    refine wpList_store_rowTo rfl 752 _ _ rfl rfl 5 (z5.map (Value.int .u8)).toArray rfl (Act.eval_put_same _ 14 _ (by simp only [Act.size_put, hs5]; omega)) 752 (rowOf (varsStart Tryz.prog os tape) 5) (by as_aux_lemma => kernel_rfl) (by as_aux_lemma => kernel_rfl) (by as_aux_lemma => kernel_rfl) (by as_aux_lemma => kernel_rfl) ?_
    apply wpList_nil
    refine hK5 _ _ ?_
    refine wp_anyFrame 76 (by simp only [Act.size_put, hs5]) (by simp only [Act.defers_put', hd5]) fun a6 hs6 hd6 => ?_
    clear hK5 K5
    -- code.go:59: baize/code.operations
    apply wp_seq_k; intro K6 hK6
    apply wp_region_lit
    refine wpList_buildTo rfl 784 _ rfl (some 15) rfl (c15 ((varsStart Tryz.prog os tape).heap.size)) ?_ ?_
    · simp only [List.map_toArray, List.map_cons, List.map_nil]
      as_aux_lemma => kernel_rfl
    refine wpList_buildTo rfl 784 _ rfl (some 16) rfl (c16 ((varsStart Tryz.prog os tape).heap.size)) ?_ ?_
    · simp only [List.map_toArray, List.map_cons, List.map_nil]
      as_aux_lemma => kernel_rfl
    refine wpList_buildTo rfl 784 _ rfl (some 17) rfl (c17 ((varsStart Tryz.prog os tape).heap.size)) ?_ ?_
    · simp only [List.map_toArray, List.map_cons, List.map_nil]
      as_aux_lemma => kernel_rfl
    refine wpList_buildTo rfl 784 _ rfl (some 18) rfl (c18 ((varsStart Tryz.prog os tape).heap.size)) ?_ ?_
    · simp only [List.map_toArray, List.map_cons, List.map_nil]
      as_aux_lemma => kernel_rfl
    refine wpList_buildTo rfl 784 _ rfl (some 19) rfl (c19 ((varsStart Tryz.prog os tape).heap.size)) ?_ ?_
    · simp only [List.map_toArray, List.map_cons, List.map_nil]
      as_aux_lemma => kernel_rfl
    refine wpList_buildTo rfl 784 _ rfl (some 20) rfl (c20 ((varsStart Tryz.prog os tape).heap.size)) ?_ ?_
    · simp only [List.map_toArray, List.map_cons, List.map_nil]
      as_aux_lemma => kernel_rfl
    refine wpList_buildTo rfl 784 _ rfl (some 21) rfl (c21 ((varsStart Tryz.prog os tape).heap.size)) ?_ ?_
    · simp only [List.map_toArray, List.map_cons, List.map_nil]
      as_aux_lemma => kernel_rfl
    refine wpList_buildTo rfl 784 _ rfl (some 22) rfl (c22 ((varsStart Tryz.prog os tape).heap.size)) ?_ ?_
    · simp only [List.map_toArray, List.map_cons, List.map_nil]
      as_aux_lemma => kernel_rfl
    refine wpList_buildTo rfl 784 _ rfl (some 23) rfl (c23 ((varsStart Tryz.prog os tape).heap.size)) ?_ ?_
    · simp only [List.map_toArray, List.map_cons, List.map_nil]
      as_aux_lemma => kernel_rfl
    refine wpList_buildTo rfl 784 _ rfl (some 24) rfl (c24 ((varsStart Tryz.prog os tape).heap.size)) ?_ ?_
    · simp only [List.map_toArray, List.map_cons, List.map_nil]
      as_aux_lemma => kernel_rfl
    refine wpList_buildTo rfl 784 _ rfl (some 25) rfl (c25 ((varsStart Tryz.prog os tape).heap.size)) ?_ ?_
    · simp only [List.map_toArray, List.map_cons, List.map_nil]
      as_aux_lemma => kernel_rfl
    refine wpList_buildTo rfl 784 _ rfl (some 26) rfl (c26 ((varsStart Tryz.prog os tape).heap.size)) ?_ ?_
    · simp only [List.map_toArray, List.map_cons, List.map_nil]
      as_aux_lemma => kernel_rfl
    refine wpList_buildTo rfl 784 _ rfl (some 27) rfl (c27 ((varsStart Tryz.prog os tape).heap.size)) ?_ ?_
    · simp only [List.map_toArray, List.map_cons, List.map_nil]
      as_aux_lemma => kernel_rfl
    refine wpList_buildTo rfl 784 _ rfl (some 28) rfl (c28 ((varsStart Tryz.prog os tape).heap.size)) ?_ ?_
    · simp only [List.map_toArray, List.map_cons, List.map_nil]
      as_aux_lemma => kernel_rfl
    refine wpList_buildTo rfl 784 _ rfl (some 29) rfl (c29 ((varsStart Tryz.prog os tape).heap.size)) ?_ ?_
    · simp only [List.map_toArray, List.map_cons, List.map_nil]
      as_aux_lemma => kernel_rfl
    refine wpList_buildTo rfl 784 _ rfl (some 30) rfl (c30 ((varsStart Tryz.prog os tape).heap.size)) ?_ ?_
    · simp only [List.map_toArray, List.map_cons, List.map_nil]
      as_aux_lemma => kernel_rfl
    refine wpList_buildTo rfl 784 _ rfl (some 31) rfl (c31 ((varsStart Tryz.prog os tape).heap.size)) ?_ ?_
    · simp only [List.map_toArray, List.map_cons, List.map_nil]
      as_aux_lemma => kernel_rfl
    refine wpList_buildTo rfl 784 _ rfl (some 32) rfl (c32 ((varsStart Tryz.prog os tape).heap.size)) ?_ ?_
    · simp only [List.map_toArray, List.map_cons, List.map_nil]
      as_aux_lemma => kernel_rfl
    refine wpList_buildTo rfl 784 _ rfl (some 33) rfl (c33 ((varsStart Tryz.prog os tape).heap.size)) ?_ ?_
    · simp only [List.map_toArray, List.map_cons, List.map_nil]
      as_aux_lemma => kernel_rfl
    refine wpList_buildTo rfl 784 _ rfl (some 34) rfl (c34 ((varsStart Tryz.prog os tape).heap.size)) ?_ ?_
    · simp only [List.map_toArray, List.map_cons, List.map_nil]
      as_aux_lemma => kernel_rfl
    refine wpList_buildTo rfl 784 _ rfl (some 35) rfl (c35 ((varsStart Tryz.prog os tape).heap.size)) ?_ ?_
    · simp only [List.map_toArray, List.map_cons, List.map_nil]
      as_aux_lemma => kernel_rfl
    refine wpList_buildTo rfl 784 _ rfl (some 36) rfl (c36 ((varsStart Tryz.prog os tape).heap.size)) ?_ ?_
    · simp only [List.map_toArray, List.map_cons, List.map_nil]
      as_aux_lemma => kernel_rfl
    refine wpList_buildTo rfl 785 _ rfl (some 37) rfl (c37 ((varsStart Tryz.prog os tape).heap.size)) ?_ ?_
    · simp only [List.map_toArray, List.map_cons, List.map_nil]
      rw [Act.eval_put_ne _ _ _ _ (by decide), Act.eval_put_ne _ _ _ _ (by decide), Act.eval_put_ne _ _ _ _ (by decide), Act.eval_put_ne _ _ _ _ (by decide), Act.eval_put_ne _ _ _ _ (by decide), Act.eval_put_ne _ _ _ _ (by decide), Act.eval_put_ne _ _ _ _ (by decide), Act.eval_put_ne _ _ _ _ (by decide), Act.eval_put_ne _ _ _ _ (by decide), Act.eval_put_ne _ _ _ _ (by decide), Act.eval_put_ne _ _ _ _ (by decide), Act.eval_put_ne _ _ _ _ (by decide), Act.eval_put_ne _ _ _ _ (by decide), Act.eval_put_ne _ _ _ _ (by decide), Act.eval_put_ne _ _ _ _ (by decide), Act.eval_put_ne _ _ _ _ (by decide), Act.eval_put_ne _ _ _ _ (by decide), Act.eval_put_ne _ _ _ _ (by decide), Act.eval_put_ne _ _ _ _ (by decide), Act.eval_put_ne _ _ _ _ (by decide), Act.eval_put_ne _ _ _ _ (by decide), Act.eval_put_same _ 15 _ (by simp only [Act.size_put, hs6]; omega), Act.eval_put_ne _ _ _ _ (by decide), Act.eval_put_ne _ _ _ _ (by decide), Act.eval_put_ne _ _ _ _ (by decide), Act.eval_put_ne _ _ _ _ (by decide), Act.eval_put_ne _ _ _ _ (by decide), Act.eval_put_ne _ _ _ _ (by decide), Act.eval_put_ne _ _ _ _ (by decide), Act.eval_put_ne _ _ _ _ (by decide), Act.eval_put_ne _ _ _ _ (by decide), Act.eval_put_ne _ _ _ _ (by decide), Act.eval_put_ne _ _ _ _ (by decide), Act.eval_put_ne _ _ _ _ (by decide), Act.eval_put_ne _ _ _ _ (by decide), Act.eval_put_ne _ _ _ _ (by decide), Act.eval_put_ne _ _ _ _ (by decide), Act.eval_put_ne _ _ _ _ (by decide), Act.eval_put_ne _ _ _ _ (by decide), Act.eval_put_ne _ _ _ _ (by decide), Act.eval_put_ne _ _ _ _ (by decide), Act.eval_put_ne _ _ _ _ (by decide), Act.eval_put_same _ 16 _ (by simp only [Act.size_put, hs6]; omega), Act.eval_put_ne _ _ _ _ (by decide), Act.eval_put_ne _ _ _ _ (by decide), Act.eval_put_ne _ _ _ _ (by decide), Act.eval_put_ne _ _ _ _ (by decide), Act.eval_put_ne _ _ _ _ (by decide), Act.eval_put_ne _ _ _ _ (by decide), Act.eval_put_ne _ _ _ _ (by decide), Act.eval_put_ne _ _ _ _ (by decide), Act.eval_put_ne _ _ _ _ (by decide), Act.eval_put_ne _ _ _ _ (by decide), Act.eval_put_ne _ _ _ _ (by decide), Act.eval_put_ne _ _ _ _ (by decide), Act.eval_put_ne _ _ _ _ (by decide), Act.eval_put_ne _ _ _ _ (by decide), Act.eval_put_ne _ _ _ _ (by decide), Act.eval_put_ne _ _ _ _ (by decide), Act.eval_put_ne _ _ _ _ (by decide), Act.eval_put_ne _ _ _ _ (by decide), Act.eval_put_ne _ _ _ _ (by decide), Act.eval_put_same _ 17 _ (by simp only [Act.size_put, hs6]; omega), Act.eval_put_ne _ _ _ _ (by decide), Act.eval_put_ne _ _ _ _ (by decide), Act.eval_put_ne _ _ _ _ (by decide), Act.eval_put_ne _ _ _ _ (by decide), Act.eval_put_ne _ _ _ _ (by decide), Act.eval_put_ne _ _ _ _ (by decide), Act.eval_put_ne _ _ _ _ (by decide), Act.eval_put_ne _ _ _ _ (by decide), Act.eval_put_ne _ _ _ _ (by decide), Act.eval_put_ne _ _ _ _ (by decide), Act.eval_put_ne _ _ _ _ (by decide), Act.eval_put_ne _ _ _ _ (by decide), Act.eval_put_ne _ _ _ _ (by decide), Act.eval_put_ne _ _ _ _ (by decide), Act.eval_put_ne _ _ _ _ (by decide), Act.eval_put_ne _ _ _ _ (by decide), Act.eval_put_ne _ _ _ _ (by decide), Act.eval_put_ne _ _ _ _ (by decide), Act.eval_put_same _ 18 _ (by simp only [Act.size_put, hs6]; omega), Act.eval_put_ne _ _ _ _ (by decide), Act.eval_put_ne _ _ _ _ (by decide), Act.eval_put_ne _ _ _ _ (by decide), Act.eval_put_ne _ _ _ _ (by decide), Act.eval_put_ne _ _ _ _ (by decide), Act.eval_put_ne _ _ _ _ (by decide), Act.eval_put_ne _ _ _ _ (by decide), Act.eval_put_ne _ _ _ _ (by decide), Act.eval_put_ne _ _ _ _ (by decide), Act.eval_put_ne _ _ _ _ (by decide), Act.eval_put_ne _ _ _ _ (by decide), Act.eval_put_ne _ _ _ _ (by decide), Act.eval_put_ne _ _ _ _ (by decide), Act.eval_put_ne _ _ _ _ (by decide), Act.eval_put_ne _ _ _ _ (by decide), Act.eval_put_ne _ _ _ _ (by decide), Act.eval_put_ne _ _ _ _ (by decide), Act.eval_put_same _ 19 _ (by simp only [Act.size_put, hs6]; omega), Act.eval_put_ne _ _ _ _ (by decide), Act.eval_put_ne _ _ _ _ (by decide), Act.eval_put_ne _ _ _ _ (by decide), Act.eval_put_ne _ _ _ _ (by decide), Act.eval_put_ne _ _ _ _ (by decide), Act.eval_put_ne _ _ _ _ (by decide), Act.eval_put_ne _ _ _ _ (by decide), Act.eval_put_ne _ _ _ _ (by decide), Act.eval_put_ne _ _ _ _ (by decide), Act.eval_put_ne _ _ _ _ (by decide), Act.eval_put_ne _ _ _ _ (by decide), Act.eval_put_ne _ _ _ _ (by decide), Act.eval_put_ne _ _ _ _ (by decide), Act.eval_put_ne _ _ _ _ (by decide), Act.eval_put_ne _ _ _ _ (by decide), Act.eval_put_ne _ _ _ _ (by decide), Act.eval_put_same _ 20 _ (by simp only [Act.size_put, hs6]; omega), Act.eval_put_ne _ _ _ _ (by decide), Act.eval_put_ne _ _ _ _ (by decide), Act.eval_put_ne _ _ _ _ (by decide), Act.eval_put_ne _ _ _ _ (by decide), Act.eval_put_ne _ _ _ _ (by decide), Act.eval_put_ne _ _ _ _ (by decide), Act.eval_put_ne _ _ _ _ (by decide), Act.eval_put_ne _ _ _ _ (by decide), Act.eval_put_ne _ _ _ _ (by decide), Act.eval_put_ne _ _ _ _ (by decide), Act.eval_put_ne _ _ _ _ (by decide), Act.eval_put_ne _ _ _ _ (by decide), Act.eval_put_ne _ _ _ _ (by decide), Act.eval_put_ne _ _ _ _ (by decide), Act.eval_put_ne _ _ _ _ (by decide), Act.eval_put_same _ 21 _ (by simp only [Act.size_put, hs6]; omega), Act.eval_put_ne _ _ _ _ (by decide), Act.eval_put_ne _ _ _ _ (by decide), Act.eval_put_ne _ _ _ _ (by decide), Act.eval_put_ne _ _ _ _ (by decide), Act.eval_put_ne _ _ _ _ (by decide), Act.eval_put_ne _ _ _ _ (by decide), Act.eval_put_ne _ _ _ _ (by decide), Act.eval_put_ne _ _ _ _ (by decide), Act.eval_put_ne _ _ _ _ (by decide), Act.eval_put_ne _ _ _ _ (by decide), Act.eval_put_ne _ _ _ _ (by decide), Act.eval_put_ne _ _ _ _ (by decide), Act.eval_put_ne _ _ _ _ (by decide), Act.eval_put_ne _ _ _ _ (by decide), Act.eval_put_same _ 22 _ (by simp only [Act.size_put, hs6]; omega), Act.eval_put_ne _ _ _ _ (by decide), Act.eval_put_ne _ _ _ _ (by decide), Act.eval_put_ne _ _ _ _ (by decide), Act.eval_put_ne _ _ _ _ (by decide), Act.eval_put_ne _ _ _ _ (by decide), Act.eval_put_ne _ _ _ _ (by decide), Act.eval_put_ne _ _ _ _ (by decide), Act.eval_put_ne _ _ _ _ (by decide), Act.eval_put_ne _ _ _ _ (by decide), Act.eval_put_ne _ _ _ _ (by decide), Act.eval_put_ne _ _ _ _ (by decide), Act.eval_put_ne _ _ _ _ (by decide), Act.eval_put_ne _ _ _ _ (by decide), Act.eval_put_same _ 23 _ (by simp only [Act.size_put, hs6]; omega), Act.eval_put_ne _ _ _ _ (by decide), Act.eval_put_ne _ _ _ _ (by decide), Act.eval_put_ne _ _ _ _ (by decide), Act.eval_put_ne _ _ _ _ (by decide), Act.eval_put_ne _ _ _ _ (by decide), Act.eval_put_ne _ _ _ _ (by decide), Act.eval_put_ne _ _ _ _ (by decide), Act.eval_put_ne _ _ _ _ (by decide), Act.eval_put_ne _ _ _ _ (by decide), Act.eval_put_ne _ _ _ _ (by decide), Act.eval_put_ne _ _ _ _ (by decide), Act.eval_put_ne _ _ _ _ (by decide), Act.eval_put_same _ 24 _ (by simp only [Act.size_put, hs6]; omega), Act.eval_put_ne _ _ _ _ (by decide), Act.eval_put_ne _ _ _ _ (by decide), Act.eval_put_ne _ _ _ _ (by decide), Act.eval_put_ne _ _ _ _ (by decide), Act.eval_put_ne _ _ _ _ (by decide), Act.eval_put_ne _ _ _ _ (by decide), Act.eval_put_ne _ _ _ _ (by decide), Act.eval_put_ne _ _ _ _ (by decide), Act.eval_put_ne _ _ _ _ (by decide), Act.eval_put_ne _ _ _ _ (by decide), Act.eval_put_ne _ _ _ _ (by decide), Act.eval_put_same _ 25 _ (by simp only [Act.size_put, hs6]; omega), Act.eval_put_ne _ _ _ _ (by decide), Act.eval_put_ne _ _ _ _ (by decide), Act.eval_put_ne _ _ _ _ (by decide), Act.eval_put_ne _ _ _ _ (by decide), Act.eval_put_ne _ _ _ _ (by decide), Act.eval_put_ne _ _ _ _ (by decide), Act.eval_put_ne _ _ _ _ (by decide), Act.eval_put_ne _ _ _ _ (by decide), Act.eval_put_ne _ _ _ _ (by decide), Act.eval_put_ne _ _ _ _ (by decide), Act.eval_put_same _ 26 _ (by simp only [Act.size_put, hs6]; omega), Act.eval_put_ne _ _ _ _ (by decide), Act.eval_put_ne _ _ _ _ (by decide), Act.eval_put_ne _ _ _ _ (by decide), Act.eval_put_ne _ _ _ _ (by decide), Act.eval_put_ne _ _ _ _ (by decide), Act.eval_put_ne _ _ _ _ (by decide), Act.eval_put_ne _ _ _ _ (by decide), Act.eval_put_ne _ _ _ _ (by decide), Act.eval_put_ne _ _ _ _ (by decide), Act.eval_put_same _ 27 _ (by simp only [Act.size_put, hs6]; omega), Act.eval_put_ne _ _ _ _ (by decide), Act.eval_put_ne _ _ _ _ (by decide), Act.eval_put_ne _ _ _ _ (by decide), Act.eval_put_ne _ _ _ _ (by decide), Act.eval_put_ne _ _ _ _ (by decide), Act.eval_put_ne _ _ _ _ (by decide), Act.eval_put_ne _ _ _ _ (by decide), Act.eval_put_ne _ _ _ _ (by decide), Act.eval_put_same _ 28 _ (by simp only [Act.size_put, hs6]; omega), Act.eval_put_ne _ _ _ _ (by decide), Act.eval_put_ne _ _ _ _ (by decide), Act.eval_put_ne _ _ _ _ (by decide), Act.eval_put_ne _ _ _ _ (by decide), Act.eval_put_ne _ _ _ _ (by decide), Act.eval_put_ne _ _ _ _ (by decide), Act.eval_put_ne _ _ _ _ (by decide), Act.eval_put_same _ 29 _ (by simp only [Act.size_put, hs6]; omega), Act.eval_put_ne _ _ _ _ (by decide), Act.eval_put_ne _ _ _ _ (by decide), Act.eval_put_ne _ _ _ _ (by decide), Act.eval_put_ne _ _ _ _ (by decide), Act.eval_put_ne _ _ _ _ (by decide), Act.eval_put_ne _ _ _ _ (by decide), Act.eval_put_same _ 30 _ (by simp only [Act.size_put, hs6]; omega), Act.eval_put_ne _ _ _ _ (by decide), Act.eval_put_ne _ _ _ _ (by decide), Act.eval_put_ne _ _ _ _ (by decide), Act.eval_put_ne _ _ _ _ (by decide), Act.eval_put_ne _ _ _ _ (by decide), Act.eval_put_same _ 31 _ (by simp only [Act.size_put, hs6]; omega), Act.eval_put_ne _ _ _ _ (by decide), Act.eval_put_ne _ _ _ _ (by decide), Act.eval_put_ne _ _ _ _ (by decide), Act.eval_put_ne _ _ _ _ (by decide), Act.eval_put_same _ 32 _ (by simp only [Act.size_put, hs6]; omega), Act.eval_put_ne _ _ _ _ (by decide), Act.eval_put_ne _ _ _ _ (by decide), Act.eval_put_ne _ _ _ _ (by decide), Act.eval_put_same _ 33 _ (by simp only [Act.size_put, hs6]; omega), Act.eval_put_ne _ _ _ _ (by decide), Act.eval_put_ne _ _ _ _ (by decide), Act.eval_put_same _ 34 _ (by simp only [Act.size_put, hs6]; omega), Act.eval_put_ne _ _ _ _ (by decide), Act.eval_put_same _ 35 _ (by simp only [Act.size_put, hs6]; omega), Act.eval_put_same _ 36 _ (by simp only [Act.size_put, hs6]; omega)]
      as_aux_lemma => kernel_rfl
    refine wpList_store_rowTo rfl 785 _ _ rfl rfl 8 (c37 ((varsStart Tryz.prog os tape).heap.size)) rfl (Act.eval_put_same _ 37 _ (by simp only [Act.size_put, hs6]; omega)) 785 (rowOf (varsStart Tryz.prog os tape) 8) (by as_aux_lemma => kernel_rfl) (by as_aux_lemma => kernel_rfl) (by as_aux_lemma => kernel_rfl) (by as_aux_lemma => kernel_rfl) ?_
    apply wpList_nil
    refine hK6 _ _ ?_
    refine wp_anyFrame 76 (by simp only [Act.size_put, hs6]) (by simp only [Act.defers_put', hd6]) fun a7 hs7 hd7 => ?_
    clear hK6 K6
    -- print.go:32: baize/print.operations
    apply wp_seq_k; intro K7 hK7
    apply wp_region_lit
    refine wpList_buildTo rfl 809 _ rfl (some 38) rfl (c38 ((varsStart Tryz.prog os tape).heap.size)) ?_ ?_
    · simp only [List.map_toArray, List.map_cons, List.map_nil]
      as_aux_lemma => kernel_rfl
    refine wpList_buildTo rfl 809 _ rfl (some 39) rfl (c39 ((varsStart Tryz.prog os tape).heap.size)) ?_ ?_
    · simp only [List.map_toArray, List.map_cons, List.map_nil]
      as_aux_lemma => kernel_rfl
    refine wpList_buildTo rfl 809 _ rfl (some 40) rfl (c40 ((varsStart Tryz.prog os tape).heap.size)) ?_ ?_
    · simp only [List.map_toArray, List.map_cons, List.map_nil]
      as_aux_lemma => kernel_rfl
    refine wpList_buildTo rfl 809 _ rfl (some 41) rfl (c41 ((varsStart Tryz.prog os tape).heap.size)) ?_ ?_
    · simp only [List.map_toArray, List.map_cons, List.map_nil]
      as_aux_lemma => kernel_rfl
    refine wpList_buildTo rfl 809 _ rfl (some 42) rfl (c42 ((varsStart Tryz.prog os tape).heap.size)) ?_ ?_
    · simp only [List.map_toArray, List.map_cons, List.map_nil]
      as_aux_lemma => kernel_rfl
    refine wpList_buildTo rfl 809 _ rfl (some 43) rfl (c43 ((varsStart Tryz.prog os tape).heap.size)) ?_ ?_
    · simp only [List.map_toArray, List.map_cons, List.map_nil]
      as_aux_lemma => kernel_rfl
    refine wpList_buildTo rfl 809 _ rfl (some 44) rfl (c44 ((varsStart Tryz.prog os tape).heap.size)) ?_ ?_
    · simp only [List.map_toArray, List.map_cons, List.map_nil]
      as_aux_lemma => kernel_rfl
    refine wpList_buildTo rfl 809 _ rfl (some 45) rfl (c45 ((varsStart Tryz.prog os tape).heap.size)) ?_ ?_
    · simp only [List.map_toArray, List.map_cons, List.map_nil]
      as_aux_lemma => kernel_rfl
    refine wpList_buildTo rfl 809 _ rfl (some 46) rfl (c46 ((varsStart Tryz.prog os tape).heap.size)) ?_ ?_
    · simp only [List.map_toArray, List.map_cons, List.map_nil]
      as_aux_lemma => kernel_rfl
    refine wpList_buildTo rfl 809 _ rfl (some 47) rfl (c47 ((varsStart Tryz.prog os tape).heap.size)) ?_ ?_
    · simp only [List.map_toArray, List.map_cons, List.map_nil]
      as_aux_lemma => kernel_rfl
    refine wpList_buildTo rfl 809 _ rfl (some 48) rfl (c48 ((varsStart Tryz.prog os tape).heap.size)) ?_ ?_
    · simp only [List.map_toArray, List.map_cons, List.map_nil]
      as_aux_lemma => kernel_rfl
    refine wpList_buildTo rfl 809 _ rfl (some 49) rfl (c49 ((varsStart Tryz.prog os tape).heap.size)) ?_ ?_
    · simp only [List.map_toArray, List.map_cons, List.map_nil]
      as_aux_lemma => kernel_rfl
    refine wpList_buildTo rfl 809 _ rfl (some 50) rfl (c50 ((varsStart Tryz.prog os tape).heap.size)) ?_ ?_
    · simp only [List.map_toArray, List.map_cons, List.map_nil]
      as_aux_lemma => kernel_rfl
    refine wpList_buildTo rfl 809 _ rfl (some 51) rfl (c51 ((varsStart Tryz.prog os tape).heap.size)) ?_ ?_
    · simp only [List.map_toArray, List.map_cons, List.map_nil]
      as_aux_lemma => kernel_rfl
    refine wpList_buildTo rfl 809 _ rfl (some 52) rfl (c52 ((varsStart Tryz.prog os tape).heap.size)) ?_ ?_
    · simp only [List.map_toArray, List.map_cons, List.map_nil]
      as_aux_lemma => kernel_rfl
    refine wpList_buildTo rfl 809 _ rfl (some 53) rfl (c53 ((varsStart Tryz.prog os tape).heap.size)) ?_ ?_
    · simp only [List.map_toArray, List.map_cons, List.map_nil]
      as_aux_lemma => kernel_rfl
    refine wpList_buildTo rfl 809 _ rfl (some 54) rfl (c54 ((varsStart Tryz.prog os tape).heap.size)) ?_ ?_
    · simp only [List.map_toArray, List.map_cons, List.map_nil]
      as_aux_lemma => kernel_rfl
    refine wpList_buildTo rfl 809 _ rfl (some 55) rfl (c55 ((varsStart Tryz.prog os tape).heap.size)) ?_ ?_
    · simp only [List.map_toArray, List.map_cons, List.map_nil]
      as_aux_lemma => kernel_rfl
    refine wpList_buildTo rfl 810 _ rfl (some 56) rfl (c56 ((varsStart Tryz.prog os tape).heap.size)) ?_ ?_
    · simp only [List.map_toArray, List.map_cons, List.map_nil]
      rw [Act.eval_put_ne _ _ _ _ (by decide), Act.eval_put_ne _ _ _ _ (by decide), Act.eval_put_ne _ _ _ _ (by decide), Act.eval_put_ne _ _ _ _ (by decide), Act.eval_put_ne _ _ _ _ (by decide), Act.eval_put_ne _ _ _ _ (by decide), Act.eval_put_ne _ _ _ _ (by decide), Act.eval_put_ne _ _ _ _ (by decide), Act.eval_put_ne _ _ _ _ (by decide), Act.eval_put_ne _ _ _ _ (by decide), Act.eval_put_ne _ _ _ _ (by decide), Act.eval_put_ne _ _ _ _ (by decide), Act.eval_put_ne _ _ _ _ (by decide), Act.eval_put_ne _ _ _ _ (by decide), Act.eval_put_ne _ _ _ _ (by decide), Act.eval_put_ne _ _ _ _ (by decide), Act.eval_put_ne _ _ _ _ (by decide), Act.eval_put_same _ 38 _ (by simp only [Act.size_put, hs7]; omega), Act.eval_put_ne _ _ _ _ (by decide), Act.eval_put_ne _ _ _ _ (by decide), Act.eval_put_ne _ _ _ _ (by decide), Act.eval_put_ne _ _ _ _ (by decide), Act.eval_put_ne _ _ _ _ (by decide), Act.eval_put_ne _ _ _ _ (by decide), Act.eval_put_ne _ _ _ _ (by decide), Act.eval_put_ne _ _ _ _ (by decide), Act.eval_put_ne _ _ _ _ (by decide), Act.eval_put_ne _ _ _ _ (by decide), Act.eval_put_ne _ _ _ _ (by decide), Act.eval_put_ne _ _ _ _ (by decide), Act.eval_put_ne _ _ _ _ (by decide), Act.eval_put_ne _ _ _ _ (by decide), Act.eval_put_ne _ _ _ _ (by decide), Act.eval_put_ne _ _ _ _ (by decide), Act.eval_put_same _ 39 _ (by simp only [Act.size_put, hs7]; omega), Act.eval_put_ne _ _ _ _ (by decide), Act.eval_put_ne _ _ _ _ (by decide), Act.eval_put_ne _ _ _ _ (by decide), Act.eval_put_ne _ _ _ _ (by decide), Act.eval_put_ne _ _ _ _ (by decide), Act.eval_put_ne _ _ _ _ (by decide), Act.eval_put_ne _ _ _ _ (by decide), Act.eval_put_ne _ _ _ _ (by decide), Act.eval_put_ne _ _ _ _ (by decide), Act.eval_put_ne _ _ _ _ (by decide), Act.eval_put_ne _ _ _ _ (by decide), Act.eval_put_ne _ _ _ _ (by decide), Act.eval_put_ne _ _ _ _ (by decide), Act.eval_put_ne _ _ _ _ (by decide), Act.eval_put_ne _ _ _ _ (by decide), Act.eval_put_same _ 40 _ (by simp only [Act.size_put, hs7]; omega), Act.eval_put_ne _ _ _ _ (by decide), Act.eval_put_ne _ _ _ _ (by decide), Act.eval_put_ne _ _ _ _ (by decide), Act.eval_put_ne _ _ _ _ (by decide), Act.eval_put_ne _ _ _ _ (by decide), Act.eval_put_ne _ _ _ _ (by decide), Act.eval_put_ne _ _ _ _ (by decide), Act.eval_put_ne _ _ _ _ (by decide), Act.eval_put_ne _ _ _ _ (by decide), Act.eval_put_ne _ _ _ _ (by decide), Act.eval_put_ne _ _ _ _ (by decide), Act.eval_put_ne _ _ _ _ (by decide), Act.eval_put_ne _ _ _ _ (by decide), Act.eval_put_ne _ _ _ _ (by decide), Act.eval_put_same _ 41 _ (by simp only [Act.size_put, hs7]; omega), Act.eval_put_ne _ _ _ _ (by decide), Act.eval_put_ne _ _ _ _ (by decide), Act.eval_put_ne _ _ _ _ (by decide), Act.eval_put_ne _ _ _ _ (by decide), Act.eval_put_ne _ _ _ _ (by decide), Act.eval_put_ne _ _ _ _ (by decide), Act.eval_put_ne _ _ _ _ (by decide), Act.eval_put_ne _ _ _ _ (by decide), Act.eval_put_ne _ _ _ _ (by decide), Act.eval_put_ne _ _ _ _ (by decide), Act.eval_put_ne _ _ _ _ (by decide), Act.eval_put_ne _ _ _ _ (by decide), Act.eval_put_ne _ _ _ _ (by decide), Act.eval_put_same _ 42 _ (by simp only [Act.size_put, hs7]; omega), Act.eval_put_ne _ _ _ _ (by decide), Act.eval_put_ne _ _ _ _ (by decide), Act.eval_put_ne _ _ _ _ (by decide), Act.eval_put_ne _ _ _ _ (by decide), Act.eval_put_ne _ _ _ _ (by decide), Act.eval_put_ne _ _ _ _ (by decide), Act.eval_put_ne _ _ _ _ (by decide), Act.eval_put_ne _ _ _ _ (by decide), Act.eval_put_ne _ _ _ _ (by decide), Act.eval_put_ne _ _ _ _ (by decide), Act.eval_put_ne _ _ _ _ (by decide), Act.eval_put_ne _ _ _ _ (by decide), Act.eval_put_same _ 43 _ (by simp only [Act.size_put, hs7]; omega), Act.eval_put_ne _ _ _ _ (by decide), Act.eval_put_ne _ _ _ _ (by decide), Act.eval_put_ne _ _ _ _ (by decide), Act.eval_put_ne _ _ _ _ (by decide), Act.eval_put_ne _ _ _ _ (by decide), Act.eval_put_ne _ _ _ _ (by decide), Act.eval_put_ne _ _ _ _ (by decide), Act.eval_put_ne _ _ _ _ (by decide), Act.eval_put_ne _ _ _ _ (by decide), Act.eval_put_ne _ _ _ _ (by decide), Act.eval_put_ne _ _ _ _ (by decide), Act.eval_put_same _ 44 _ (by simp only [Act.size_put, hs7]; omega), Act.eval_put_ne _ _ _ _ (by decide), Act.eval_put_ne _ _ _ _ (by decide), Act.eval_put_ne _ _ _ _ (by decide), Act.eval_put_ne _ _ _ _ (by decide), Act.eval_put_ne _ _ _ _ (by decide), Act.eval_put_ne _ _ _ _ (by decide), Act.eval_put_ne _ _ _ _ (by decide), Act.eval_put_ne _ _ _ _ (by decide), Act.eval_put_ne _ _ _ _ (by decide), Act.eval_put_ne _ _ _ _ (by decide), Act.eval_put_same _ 45 _ (by simp only [Act.size_put, hs7]; omega), Act.eval_put_ne _ _ _ _ (by decide), Act.eval_put_ne _ _ _ _ (by decide), Act.eval_put_ne _ _ _ _ (by decide), Act.eval_put_ne _ _ _ _ (by decide), Act.eval_put_ne _ _ _ _ (by decide), Act.eval_put_ne _ _ _ _ (by decide), Act.eval_put_ne _ _ _ _ (by decide), Act.eval_put_ne _ _ _ _ (by decide), Act.eval_put_ne _ _ _ _ (by decide), Act.eval_put_same _ 46 _ (by simp only [Act.size_put, hs7]; omega), Act.eval_put_ne _ _ _ _ (by decide), Act.eval_put_ne _ _ _ _ (by decide), Act.eval_put_ne _ _ _ _ (by decide), Act.eval_put_ne _ _ _ _ (by decide), Act.eval_put_ne _ _ _ _ (by decide), Act.eval_put_ne _ _ _ _ (by decide), Act.eval_put_ne _ _ _ _ (by decide), Act.eval_put_ne _ _ _ _ (by decide), Act.eval_put_same _ 47 _ (by simp only [Act.size_put, hs7]; omega), Act.eval_put_ne _ _ _ _ (by decide), Act.eval_put_ne _ _ _ _ (by decide), Act.eval_put_ne _ _ _ _ (by decide), Act.eval_put_ne _ _ _ _ (by decide), Act.eval_put_ne _ _ _ _ (by decide), Act.eval_put_ne _ _ _ _ (by decide), Act.eval_put_ne _ _ _ _ (by decide), Act.eval_put_same _ 48 _ (by simp only [Act.size_put, hs7]; omega), Act.eval_put_ne _ _ _ _ (by decide), Act.eval_put_ne _ _ _ _ (by decide), Act.eval_put_ne _ _ _ _ (by decide), Act.eval_put_ne _ _ _ _ (by decide), Act.eval_put_ne _ _ _ _ (by decide), Act.eval_put_ne _ _ _ _ (by decide), Act.eval_put_same _ 49 _ (by simp only [Act.size_put, hs7]; omega), Act.eval_put_ne _ _ _ _ (by decide), Act.eval_put_ne _ _ _ _ (by decide), Act.eval_put_ne _ _ _ _ (by decide), Act.eval_put_ne _ _ _ _ (by decide), Act.eval_put_ne _ _ _ _ (by decide), Act.eval_put_same _ 50 _ (by simp only [Act.size_put, hs7]; omega), Act.eval_put_ne _ _ _ _ (by decide), Act.eval_put_ne _ _ _ _ (by decide), Act.eval_put_ne _ _ _ _ (by decide), Act.eval_put_ne _ _ _ _ (by decide), Act.eval_put_same _ 51 _ (by simp only [Act.size_put, hs7]; omega), Act.eval_put_ne _ _ _ _ (by decide), Act.eval_put_ne _ _ _ _ (by decide), Act.eval_put_ne _ _ _ _ (by decide), Act.eval_put_same _ 52 _ (by simp only [Act.size_put, hs7]; omega), Act.eval_put_ne _ _ _ _ (by decide), Act.eval_put_ne _ _ _ _ (by decide), Act.eval_put_same _ 53 _ (by simp only [Act.size_put, hs7]; omega), Act.eval_put_ne _ _ _ _ (by decide), Act.eval_put_same _ 54 _ (by simp only [Act.size_put, hs7]; omega), Act.eval_put_same _ 55 _ (by simp only [Act.size_put, hs7]; omega)]
      as_aux_lemma => kernel_rfl
    refine wpList_store_rowTo rfl 810 _ _ rfl rfl 11 (c56 ((varsStart Tryz.prog os tape).heap.size)) rfl (Act.eval_put_same _ 56 _ (by simp only [Act.size_put, hs7]; omega)) 810 (rowOf (varsStart Tryz.prog os tape) 11) (by as_aux_lemma => kernel_rfl) (by as_aux_lemma => kernel_rfl) (by as_aux_lemma => kernel_rfl) (by as_aux_lemma => kernel_rfl) ?_
    apply wpList_nil
    refine hK7 _ _ ?_
    refine wp_anyFrame 76 (by simp only [Act.size_put, hs7]) (by simp only [Act.defers_put', hd7]) fun a8 hs8 hd8 => ?_
    clear hK7 K7
    -- print.go:40: baize/print.parts
    apply wp_seq_k; intro K8 hK8
    apply wp_region_lit
    refine wpList_buildFlatArrTo rfl 734 3 10 _ rfl .i64 z4 (some 57) rfl (by as_aux_lemma => kernel_rfl) (by as_aux_lemma => kernel_rfl) (by as_aux_lemma => kernel_rfl) (by as_aux_lemma => kernel_rfl) ?_
    refine wpList_store_rowTo rfl 734 _ _ rfl rfl 4 (z4.map (Value.int .i64)).toArray rfl (Act.eval_put_same _ 57 _ (by simp only [Act.size_put, hs8]; omega)) 734 (rowOf (varsStart Tryz.prog os tape) 4) (by as_aux_lemma => kernel_rfl) (by as_aux_lemma => kernel_rfl) (by as_aux_lemma => kernel_rfl) (by as_aux_lemma => kernel_rfl) ?_
    apply wpList_nil
    refine hK8 _ _ ?_
    refine wp_anyFrame 76 (by simp only [Act.size_put, hs8]) (by simp only [Act.defers_put', hd8]) fun a9 hs9 hd9 => ?_
    clear hK8 K8
    -- sorts.go:48: baize/sorts.stmtParts
    apply wp_seq_k; intro K9 hK9
    apply wp_region_lit
    refine wpList_buildFlatArrTo rfl 734 3 10 _ rfl .i64 z7 (some 58) rfl (by as_aux_lemma => kernel_rfl) (by as_aux_lemma => kernel_rfl) (by as_aux_lemma => kernel_rfl) (by as_aux_lemma => kernel_rfl) ?_
    refine wpList_store_rowTo rfl 734 _ _ rfl rfl 7 (z7.map (Value.int .i64)).toArray rfl (Act.eval_put_same _ 58 _ (by simp only [Act.size_put, hs9]; omega)) 734 (rowOf (varsStart Tryz.prog os tape) 7) (by as_aux_lemma => kernel_rfl) (by as_aux_lemma => kernel_rfl) (by as_aux_lemma => kernel_rfl) (by as_aux_lemma => kernel_rfl) ?_
    apply wpList_nil
    refine hK9 _ _ ?_
    refine wp_anyFrame 76 (by simp only [Act.size_put, hs9]) (by simp only [Act.defers_put', hd9]) fun a10 hs10 hd10 => ?_
    clear hK9 K9
    -- sorts.go:49: baize/sorts.exprParts
    apply wp_seq_k; intro K10 hK10
    apply wp_region_lit
    refine wpList_buildFlatArrTo rfl 807 3 18 _ rfl .i64 z9 (some 59) rfl (by as_aux_lemma => kernel_rfl) (by as_aux_lemma => kernel_rfl) (by as_aux_lemma => kernel_rfl) (by as_aux_lemma => kernel_rfl) ?_
    refine wpList_store_rowTo rfl 807 _ _ rfl rfl 9 (z9.map (Value.int .i64)).toArray rfl (Act.eval_put_same _ 59 _ (by simp only [Act.size_put, hs10]; omega)) 807 (rowOf (varsStart Tryz.prog os tape) 9) (by as_aux_lemma => kernel_rfl) (by as_aux_lemma => kernel_rfl) (by as_aux_lemma => kernel_rfl) (by as_aux_lemma => kernel_rfl) ?_
    apply wpList_nil
    refine hK10 _ _ ?_
    refine wp_anyFrame 76 (by simp only [Act.size_put, hs10]) (by simp only [Act.defers_put', hd10]) fun a11 hs11 hd11 => ?_
    clear hK10 K10
    -- do.go:23: baize/table.phases
    apply wp_region_lit
    refine wpList_buildTo rfl 384 _ rfl (some 60) rfl (c60 ((varsStart Tryz.prog os tape).heap.size)) ?_ ?_
    · simp only [List.map_toArray, List.map_cons, List.map_nil]
      as_aux_lemma => kernel_rfl
    refine wpList_buildTo rfl 384 _ rfl (some 61) rfl (c61 ((varsStart Tryz.prog os tape).heap.size)) ?_ ?_
    · simp only [List.map_toArray, List.map_cons, List.map_nil]
      as_aux_lemma => kernel_rfl
    refine wpList_buildTo rfl 384 _ rfl (some 62) rfl (c62 ((varsStart Tryz.prog os tape).heap.size)) ?_ ?_
    · simp only [List.map_toArray, List.map_cons, List.map_nil]
      as_aux_lemma => kernel_rfl
    refine wpList_buildTo rfl 384 _ rfl (some 63) rfl (c63 ((varsStart Tryz.prog os tape).heap.size)) ?_ ?_
    · simp only [List.map_toArray, List.map_cons, List.map_nil]
      as_aux_lemma => kernel_rfl
    refine wpList_buildTo rfl 384 _ rfl (some 64) rfl (c64 ((varsStart Tryz.prog os tape).heap.size)) ?_ ?_
    · simp only [List.map_toArray, List.map_cons, List.map_nil]
      as_aux_lemma => kernel_rfl
    refine wpList_buildTo rfl 384 _ rfl (some 65) rfl (c65 ((varsStart Tryz.prog os tape).heap.size)) ?_ ?_
    · simp only [List.map_toArray, List.map_cons, List.map_nil]
      as_aux_lemma => kernel_rfl
    refine wpList_buildTo rfl 384 _ rfl (some 66) rfl (c66 ((varsStart Tryz.prog os tape).heap.size)) ?_ ?_
    · simp only [List.map_toArray, List.map_cons, List.map_nil]
      as_aux_lemma => kernel_rfl
    refine wpList_buildTo rfl 384 _ rfl (some 67) rfl (c67 ((varsStart Tryz.prog os tape).heap.size)) ?_ ?_
    · simp only [List.map_toArray, List.map_cons, List.map_nil]
      as_aux_lemma => kernel_rfl
    refine wpList_buildTo rfl 384 _ rfl (some 68) rfl (c68 ((varsStart Tryz.prog os tape).heap.size)) ?_ ?_
    · simp only [List.map_toArray, List.map_cons, List.map_nil]
      as_aux_lemma => kernel_rfl
    refine wpList_buildTo rfl 384 _ rfl (some 69) rfl (c69 ((varsStart Tryz.prog os tape).heap.size)) ?_ ?_
    · simp only [List.map_toArray, List.map_cons, List.map_nil]
      as_aux_lemma => kernel_rfl
    refine wpList_buildTo rfl 384 _ rfl (some 70) rfl (c70 ((varsStart Tryz.prog os tape).heap.size)) ?_ ?_
    · simp only [List.map_toArray, List.map_cons, List.map_nil]
      as_aux_lemma => kernel_rfl
    refine wpList_buildTo rfl 384 _ rfl (some 71) rfl (c71 ((varsStart Tryz.prog os tape).heap.size)) ?_ ?_
    · simp only [List.map_toArray, List.map_cons, List.map_nil]
      as_aux_lemma => kernel_rfl
    refine wpList_buildTo rfl 384 _ rfl (some 72) rfl (c72 ((varsStart Tryz.prog os tape).heap.size)) ?_ ?_
    · simp only [List.map_toArray, List.map_cons, List.map_nil]
      as_aux_lemma => kernel_rfl
    refine wpList_buildTo rfl 384 _ rfl (some 73) rfl (c73 ((varsStart Tryz.prog os tape).heap.size)) ?_ ?_
    · simp only [List.map_toArray, List.map_cons, List.map_nil]
      as_aux_lemma => kernel_rfl
    refine wpList_buildTo rfl 384 _ rfl (some 74) rfl (c74 ((varsStart Tryz.prog os tape).heap.size)) ?_ ?_
    · simp only [List.map_toArray, List.map_cons, List.map_nil]
      as_aux_lemma => kernel_rfl
    refine wpList_buildTo rfl 385 _ rfl (some 75) rfl (c75 ((varsStart Tryz.prog os tape).heap.size)) ?_ ?_
    · simp only [List.map_toArray, List.map_cons, List.map_nil]
      rw [Act.eval_put_ne _ _ _ _ (by decide), Act.eval_put_ne _ _ _ _ (by decide), Act.eval_put_ne _ _ _ _ (by decide), Act.eval_put_ne _ _ _ _ (by decide), Act.eval_put_ne _ _ _ _ (by decide), Act.eval_put_ne _ _ _ _ (by decide), Act.eval_put_ne _ _ _ _ (by decide), Act.eval_put_ne _ _ _ _ (by decide), Act.eval_put_ne _ _ _ _ (by decide), Act.eval_put_ne _ _ _ _ (by decide), Act.eval_put_ne _ _ _ _ (by decide), Act.eval_put_ne _ _ _ _ (by decide), Act.eval_put_ne _ _ _ _ (by decide), Act.eval_put_ne _ _ _ _ (by decide), Act.eval_put_same _ 60 _ (by simp only [Act.size_put, hs11]; omega), Act.eval_put_ne _ _ _ _ (by decide), Act.eval_put_ne _ _ _ _ (by decide), Act.eval_put_ne _ _ _ _ (by decide), Act.eval_put_ne _ _ _ _ (by decide), Act.eval_put_ne _ _ _ _ (by decide), Act.eval_put_ne _ _ _ _ (by decide), Act.eval_put_ne _ _ _ _ (by decide), Act.eval_put_ne _ _ _ _ (by decide), Act.eval_put_ne _ _ _ _ (by decide), Act.eval_put_ne _ _ _ _ (by decide), Act.eval_put_ne _ _ _ _ (by decide), Act.eval_put_ne _ _ _ _ (by decide), Act.eval_put_ne _ _ _ _ (by decide), Act.eval_put_same _ 61 _ (by simp only [Act.size_put, hs11]; omega), Act.eval_put_ne _ _ _ _ (by decide), Act.eval_put_ne _ _ _ _ (by decide), Act.eval_put_ne _ _ _ _ (by decide), Act.eval_put_ne _ _ _ _ (by decide), Act.eval_put_ne _ _ _ _ (by decide), Act.eval_put_ne _ _ _ _ (by decide), Act.eval_put_ne _ _ _ _ (by decide), Act.eval_put_ne _ _ _ _ (by decide), Act.eval_put_ne _ _ _ _ (by decide), Act.eval_put_ne _ _ _ _ (by decide), Act.eval_put_ne _ _ _ _ (by decide), Act.eval_put_ne _ _ _ _ (by decide), Act.eval_put_same _ 62 _ (by simp only [Act.size_put, hs11]; omega), Act.eval_put_ne _ _ _ _ (by decide), Act.eval_put_ne _ _ _ _ (by decide), Act.eval_put_ne _ _ _ _ (by decide), Act.eval_put_ne _ _ _ _ (by decide), Act.eval_put_ne _ _ _ _ (by decide), Act.eval_put_ne _ _ _ _ (by decide), Act.eval_put_ne _ _ _ _ (by decide), Act.eval_put_ne _ _ _ _ (by decide), Act.eval_put_ne _ _ _ _ (by decide), Act.eval_put_ne _ _ _ _ (by decide), Act.eval_put_ne _ _ _ _ (by decide), Act.eval_put_same _ 63 _ (by simp only [Act.size_put, hs11]; omega), Act.eval_put_ne _ _ _ _ (by decide), Act.eval_put_ne _ _ _ _ (by decide), Act.eval_put_ne _ _ _ _ (by decide), Act.eval_put_ne _ _ _ _ (by decide), Act.eval_put_ne _ _ _ _ (by decide), Act.eval_put_ne _ _ _ _ (by decide), Act.eval_put_ne _ _ _ _ (by decide), Act.eval_put_ne _ _ _ _ (by decide), Act.eval_put_ne _ _ _ _ (by decide), Act.eval_put_ne _ _ _ _ (by decide), Act.eval_put_same _ 64 _ (by simp only [Act.size_put, hs11]; omega), Act.eval_put_ne _ _ _ _ (by decide), Act.eval_put_ne _ _ _ _ (by decide), Act.eval_put_ne _ _ _ _ (by decide), Act.eval_put_ne _ _ _ _ (by decide), Act.eval_put_ne _ _ _ _ (by decide), Act.eval_put_ne _ _ _ _ (by decide), Act.eval_put_ne _ _ _ _ (by decide), Act.eval_put_ne _ _ _ _ (by decide), Act.eval_put_ne _ _ _ _ (by decide), Act.eval_put_same _ 65 _ (by simp only [Act.size_put, hs11]; omega), Act.eval_put_ne _ _ _ _ (by decide), Act.eval_put_ne _ _ _ _ (by decide), Act.eval_put_ne _ _ _ _ (by decide), Act.eval_put_ne _ _ _ _ (by decide), Act.eval_put_ne _ _ _ _ (by decide), Act.eval_put_ne _ _ _ _ (by decide), Act.eval_put_ne _ _ _ _ (by decide), Act.eval_put_ne _ _ _ _ (by decide), Act.eval_put_same _ 66 _ (by simp only [Act.size_put, hs11]; omega), Act.eval_put_ne _ _ _ _ (by decide), Act.eval_put_ne _ _ _ _ (by decide), Act.eval_put_ne _ _ _ _ (by decide), Act.eval_put_ne _ _ _ _ (by decide), Act.eval_put_ne _ _ _ _ (by decide), Act.eval_put_ne _ _ _ _ (by decide), Act.eval_put_ne _ _ _ _ (by decide), Act.eval_put_same _ 67 _ (by simp only [Act.size_put, hs11]; omega), Act.eval_put_ne _ _ _ _ (by decide), Act.eval_put_ne _ _ _ _ (by decide), Act.eval_put_ne _ _ _ _ (by decide), Act.eval_put_ne _ _ _ _ (by decide), Act.eval_put_ne _ _ _ _ (by decide), Act.eval_put_ne _ _ _ _ (by decide), Act.eval_put_same _ 68 _ (by simp only [Act.size_put, hs11]; omega), Act.eval_put_ne _ _ _ _ (by decide), Act.eval_put_ne _ _ _ _ (by decide), Act.eval_put_ne _ _ _ _ (by decide), Act.eval_put_ne _ _ _ _ (by decide), Act.eval_put_ne _ _ _ _ (by decide), Act.eval_put_same _ 69 _ (by simp only [Act.size_put, hs11]; omega), Act.eval_put_ne _ _ _ _ (by decide), Act.eval_put_ne _ _ _ _ (by decide), Act.eval_put_ne _ _ _ _ (by decide), Act.eval_put_ne _ _ _ _ (by decide), Act.eval_put_same _ 70 _ (by simp only [Act.size_put, hs11]; omega), Act.eval_put_ne _ _ _ _ (by decide), Act.eval_put_ne _ _ _ _ (by decide), Act.eval_put_ne _ _ _ _ (by decide), Act.eval_put_same _ 71 _ (by simp only [Act.size_put, hs11]; omega), Act.eval_put_ne _ _ _ _ (by decide), Act.eval_put_ne _ _ _ _ (by decide), Act.eval_put_same _ 72 _ (by simp only [Act.size_put, hs11]; omega), Act.eval_put_ne _ _ _ _ (by decide), Act.eval_put_same _ 73 _ (by simp only [Act.size_put, hs11]; omega), Act.eval_put_same _ 74 _ (by simp only [Act.size_put, hs11]; omega)]
      as_aux_lemma => kernel_rfl
    refine wpList_store_rowTo rfl 385 _ _ rfl rfl 3 (c75 ((varsStart Tryz.prog os tape).heap.size)) rfl (Act.eval_put_same _ 75 _ (by simp only [Act.size_put, hs11]; omega)) 385 (rowOf (varsStart Tryz.prog os tape) 3) (by as_aux_lemma => kernel_rfl) (by as_aux_lemma => kernel_rfl) (by as_aux_lemma => kernel_rfl) (by as_aux_lemma => kernel_rfl) ?_
    apply wpList_nil
    refine bodyPost_end0 rfl (by simp only [Act.defers_put', hd11]) ?_
    refine ⟨⟨_, rfl⟩, noHandle _ (laidMet_memory (LaidIn.met (B := [1, 2, 0, 5, 8, 11, 4, 7, 9, 3] ++ ([6, (varsStart Tryz.prog os tape).heap.size + 1, (varsStart Tryz.prog os tape).heap.size + 0])) ?_))⟩
    unfold laidAll
    refine LaidIn.append (B := [1, 2, 0, 5, 8, 11, 4, 7, 9, 3]) (LaidIn.of_run [1, 2, 0, 5, 8, 11, 4, 7, 9, 3] 10 (by as_aux_lemma => kernel_rfl) (by as_aux_lemma => kernel_rfl) (by as_aux_lemma => kernel_rfl) (by as_aux_lemma => kernel_rfl)) ?_ (by as_aux_lemma => kernel_rfl)
    exact (laidIn_rtab16T (ρ := rho) rty rex (name := "unicode.White_Space") (g := 6) (by as_aux_lemma => kernel_rfl) (by as_aux_lemma => kernel_rfl) T12 ((varsStart Tryz.prog os tape).heap.size + 1) ((varsStart Tryz.prog os tape).heap.size + 0) 802 (by as_aux_lemma => kernel_rfl) (by as_aux_lemma => kernel_rfl) (by as_aux_lemma => kernel_rfl) (by as_aux_lemma => kernel_rfl) (by decide) (by decide) (of_decide_eq_true (by as_aux_lemma => kernel_rfl)))

end Go.Proofs.YtgpoclcmapnloaaGreatDoor.Great
