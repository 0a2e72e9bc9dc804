/- The annotated code of the loaded program, printed by wip/tools/gen.py. -/
import Derived.Test.YthhebfamepmagaaA1

set_option maxRecDepth 100000
namespace Code7
open Ax Go

/-- runrig/runriglaw7.HeadsMake -/

def s3 : SFunc := { fid := 3, mode := .pure, nparams := 1, nboxes := 6, clr := [], results := [.tmp 2 false], body :=
  (.seq
    (.region [
      ⟨some 2, .move, [.const (.bool false)], none⟩] none [2])
    (.seq
      (.region [
        ⟨some 10, .move, [.tmp 0 false], none⟩,
        ⟨some 11, .call 9, [.tmp 10 true], none⟩,
        ⟨some 9, .move, [.tmp 11 true], none⟩,
        ⟨some 12, .extract 0, [.tmp 9 false], none⟩,
        ⟨some 13, .extract 1, [.tmp 9 true], none⟩,
        ⟨some 3, .allocF 0 [.nilSl, .nilSl, .nilSl], [], none⟩,
        ⟨some 4, .allocF 1 [.int .i64 0, .int .i64 0], [], none⟩,
        ⟨none, .storeF 0 3, [.tmp 3 false, .tmp 12 true], none⟩,
        ⟨none, .storeF 1 2, [.tmp 4 false, .tmp 13 true], none⟩] none [])
      (.seq
        (.seq
          (.region [
            ⟨some 14, .move, [.tmp 0 true], none⟩,
            ⟨some 15, .len .str, [.tmp 14 true], none⟩,
            ⟨some 16, .bin .gtr, [.tmp 15 true, .const (.int .i64 4000)], none⟩,
            ⟨some 17, .move, [.tmp 16 true], none⟩,
            ⟨some 18, .fieldAddr 0, [.tmp 4 true], some (17, false)⟩,
            ⟨some 19, .loadF 1 false 1 false, [.tmp 18 true], some (17, false)⟩,
            ⟨some 20, .bin .neq, [.tmp 19 true, .const (.int .i64 0)], some (17, false)⟩,
            ⟨some 21, .pick, [.tmp 17 true, .const (.bool true), .tmp 20 true], none⟩] none [4, 18, 19])
          (.cond (.tmp 21 true) [3]
            (.seq
              (.region [
                ⟨some 2, .move, [.const (.bool true)], none⟩] none [])
              .ret) []
            .skip))
        (.seq
          (.region [
            ⟨some 23, .loadF 0 true 3 false, [.tmp 3 false], none⟩,
            ⟨some 24, .call 10, [.tmp 23 true], none⟩,
            ⟨some 22, .move, [.tmp 24 true], none⟩,
            ⟨some 25, .extract 0, [.tmp 22 false], none⟩,
            ⟨some 26, .extract 1, [.tmp 22 true], none⟩,
            ⟨some 5, .allocF 2 [.nilSl, .nilSl, .nilSl, .int .i64 0], [], none⟩,
            ⟨some 6, .allocF 3 [.int .i64 0, .int .i64 0], [], none⟩,
            ⟨none, .storeF 2 4, [.tmp 5 false, .tmp 25 true], none⟩,
            ⟨none, .storeF 3 2, [.tmp 6 false, .tmp 26 true], none⟩] none [])
          (.seq
            (.region [
              ⟨some 28, .loadF 0 true 3 false, [.tmp 3 true], none⟩,
              ⟨some 29, .call 11, [.tmp 28 true], none⟩,
              ⟨some 27, .move, [.tmp 29 true], none⟩,
              ⟨some 30, .extract 0, [.tmp 27 false], none⟩,
              ⟨some 31, .extract 1, [.tmp 27 true], none⟩,
              ⟨some 7, .allocF 4 [.nilSl, .nilSl, .nilSl, .int .i64 0], [], none⟩,
              ⟨some 8, .allocF 5 [.int .i64 0, .int .i64 0], [], none⟩,
              ⟨none, .storeF 4 4, [.tmp 7 false, .tmp 30 true], none⟩,
              ⟨none, .storeF 5 2, [.tmp 8 false, .tmp 31 true], none⟩] none [])
            (.seq
              (.region [
                ⟨some 32, .loadF 3 true 2 false, [.tmp 6 true], none⟩,
                ⟨some 33, .loadF 5 true 2 false, [.tmp 8 true], none⟩,
                ⟨some 34, .eqv (.flat [.int, .int]) false, [.tmp 32 true, .tmp 33 true], none⟩,
                ⟨some 35, .move, [.tmp 34 true], none⟩,
                ⟨some 36, .loadF 2 true 4 false, [.tmp 5 true], some (35, true)⟩,
                ⟨some 37, .loadF 4 true 4 false, [.tmp 7 true], some (35, true)⟩,
                ⟨some 38, .call 12, [.tmp 36 true, .tmp 37 true], some (35, true)⟩,
                ⟨some 39, .pick, [.tmp 35 true, .tmp 38 true, .const (.bool false)], none⟩,
                ⟨some 40, .move, [.tmp 39 true], none⟩,
                ⟨some 41, .call 13, [], some (40, true)⟩,
                ⟨some 42, .pick, [.tmp 40 true, .tmp 41 true, .const (.bool false)], none⟩,
                ⟨some 2, .move, [.tmp 42 true], none⟩] none [5, 7, 36, 37])
              .ret)))))) }

/-- runrig/runriglaw7.HeadsRaw -/

def s4 : SFunc := { fid := 4, mode := .pure, nparams := 1, nboxes := 5, clr := [], results := [.tmp 2 false], body :=
  (.seq
    (.region [
      ⟨some 1, .boxF 0 3, [.tmp 0 true], none⟩,
      ⟨some 2, .move, [.const (.bool false)], none⟩] none [2])
    (.seq
      (.seq
        (.region [
          ⟨some 7, .loadF 0 true 3 false, [.tmp 1 false], none⟩,
          ⟨some 8, .call 14, [.tmp 7 true], none⟩] none [])
        (.cond (.tmp 8 true) [1]
          (.seq
            (.region [
              ⟨some 2, .move, [.const (.bool true)], none⟩] none [])
            .ret) []
          .skip))
      (.seq
        (.region [
          ⟨some 10, .loadF 0 true 3 false, [.tmp 1 false], none⟩,
          ⟨some 11, .call 10, [.tmp 10 true], none⟩,
          ⟨some 9, .move, [.tmp 11 true], none⟩,
          ⟨some 12, .extract 0, [.tmp 9 false], none⟩,
          ⟨some 13, .extract 1, [.tmp 9 true], none⟩,
          ⟨some 3, .allocF 1 [.nilSl, .nilSl, .nilSl, .int .i64 0], [], none⟩,
          ⟨some 4, .allocF 2 [.int .i64 0, .int .i64 0], [], none⟩,
          ⟨none, .storeF 1 4, [.tmp 3 false, .tmp 12 true], none⟩,
          ⟨none, .storeF 2 2, [.tmp 4 false, .tmp 13 true], none⟩] none [])
        (.seq
          (.region [
            ⟨some 15, .loadF 0 true 3 false, [.tmp 1 true], none⟩,
            ⟨some 16, .call 11, [.tmp 15 true], none⟩,
            ⟨some 14, .move, [.tmp 16 true], none⟩,
            ⟨some 17, .extract 0, [.tmp 14 false], none⟩,
            ⟨some 18, .extract 1, [.tmp 14 true], none⟩,
            ⟨some 5, .allocF 3 [.nilSl, .nilSl, .nilSl, .int .i64 0], [], none⟩,
            ⟨some 6, .allocF 4 [.int .i64 0, .int .i64 0], [], none⟩,
            ⟨none, .storeF 3 4, [.tmp 5 false, .tmp 17 true], none⟩,
            ⟨none, .storeF 4 2, [.tmp 6 false, .tmp 18 true], none⟩] none [])
          (.seq
            (.region [
              ⟨some 19, .loadF 2 true 2 false, [.tmp 4 true], none⟩,
              ⟨some 20, .loadF 4 true 2 false, [.tmp 6 true], none⟩,
              ⟨some 21, .eqv (.flat [.int, .int]) false, [.tmp 19 true, .tmp 20 true], none⟩,
              ⟨some 22, .move, [.tmp 21 true], none⟩,
              ⟨some 23, .loadF 1 true 4 false, [.tmp 3 true], some (22, true)⟩,
              ⟨some 24, .loadF 3 true 4 false, [.tmp 5 true], some (22, true)⟩,
              ⟨some 25, .call 12, [.tmp 23 true, .tmp 24 true], some (22, true)⟩,
              ⟨some 26, .pick, [.tmp 22 true, .tmp 25 true, .const (.bool false)], none⟩,
              ⟨some 27, .move, [.tmp 26 true], none⟩,
              ⟨some 28, .call 13, [], some (27, true)⟩,
              ⟨some 29, .pick, [.tmp 27 true, .tmp 28 true, .const (.bool false)], none⟩,
              ⟨some 2, .move, [.tmp 29 true], none⟩] none [3, 5, 23, 24])
            .ret))))) }

/-- runrig/runriglaw7.HeadsTypes -/

def s5 : SFunc := { fid := 5, mode := .pure, nparams := 3, nboxes := 4, clr := [], results := [.tmp 6 false], body :=
  (.seq
    (.region [
      ⟨some 4, .boxF 0 2, [.tmp 1 true], none⟩,
      ⟨some 5, .boxF 1 3, [.tmp 2 true], none⟩,
      ⟨some 6, .move, [.const (.bool false)], none⟩] none [6])
    (.seq
      (.seq
        (.region [
          ⟨some 11, .move, [.tmp 0 false], none⟩,
          ⟨some 12, .len .sl, [.tmp 11 true], none⟩,
          ⟨some 13, .bin .gtr, [.tmp 12 true, .const (.int .i64 30)], none⟩] none [])
        (.cond (.tmp 13 true) [0, 4, 5]
          (.seq
            (.region [
              ⟨some 6, .move, [.const (.bool true)], none⟩] none [])
            .ret) []
          .skip))
      (.seq
        (.region [
          ⟨some 15, .move, [.tmp 0 false], none⟩,
          ⟨some 16, .loadF 0 true 2 false, [.tmp 4 false], none⟩,
          ⟨some 17, .call 15, [.tmp 15 true, .tmp 16 true], none⟩,
          ⟨some 14, .move, [.tmp 17 true], none⟩,
          ⟨some 18, .extract 0, [.tmp 14 false], none⟩,
          ⟨some 19, .extract 1, [.tmp 14 true], none⟩,
          ⟨some 7, .allocF 2 [.int .i64 0, .int .i64 0, .int .i64 0], [], none⟩,
          ⟨none, .storeF 2 3, [.tmp 7 false, .tmp 18 true], none⟩,
          ⟨some 8, .move, [.tmp 19 true], none⟩] none [])
        (.seq
          (.region [
            ⟨some 21, .move, [.tmp 0 true], none⟩,
            ⟨some 22, .loadF 0 true 2 false, [.tmp 4 true], none⟩,
            ⟨some 23, .call 16, [.tmp 21 true, .tmp 22 true], none⟩,
            ⟨some 20, .move, [.tmp 23 true], none⟩,
            ⟨some 24, .extract 0, [.tmp 20 false], none⟩,
            ⟨some 25, .extract 1, [.tmp 20 true], none⟩,
            ⟨some 9, .allocF 3 [.int .i64 0, .int .i64 0, .int .i64 0], [], none⟩,
            ⟨none, .storeF 3 3, [.tmp 9 false, .tmp 24 true], none⟩,
            ⟨some 10, .move, [.tmp 25 true], none⟩] none [])
          (.seq
            (.region [
              ⟨some 26, .loadF 2 true 3 false, [.tmp 7 false], none⟩,
              ⟨some 27, .loadF 3 true 3 false, [.tmp 9 true], none⟩,
              ⟨some 28, .eqv (.flat [.int, .int, .int]) false, [.tmp 26 true, .tmp 27 true], none⟩,
              ⟨some 29, .move, [.tmp 28 true], none⟩,
              ⟨some 30, .move, [.tmp 8 false], some (29, true)⟩,
              ⟨some 31, .move, [.tmp 10 true], some (29, true)⟩,
              ⟨some 32, .eqv (.sc .bool) false, [.tmp 30 true, .tmp 31 true], some (29, true)⟩,
              ⟨some 33, .pick, [.tmp 29 false, .tmp 32 true, .const (.bool false)], none⟩,
              ⟨some 34, .move, [.tmp 33 true], none⟩,
              ⟨some 35, .loadF 1 true 3 false, [.tmp 5 false], some (34, true)⟩,
              ⟨some 36, .call 17, [.tmp 35 true], some (34, true)⟩,
              ⟨some 37, .loadF 1 true 3 false, [.tmp 5 false], some (34, true)⟩,
              ⟨some 38, .call 18, [.tmp 37 true], some (34, true)⟩,
              ⟨some 39, .eqv (.sc .bool) false, [.tmp 36 true, .tmp 38 true], some (34, true)⟩,
              ⟨some 40, .pick, [.tmp 34 false, .tmp 39 true, .const (.bool false)], none⟩,
              ⟨some 41, .move, [.tmp 40 true], none⟩,
              ⟨some 42, .move, [.tmp 8 false], some (41, true)⟩,
              ⟨some 43, .un .not, [.tmp 42 true], some (41, true)⟩,
              ⟨some 44, .move, [.tmp 43 true], some (41, true)⟩,
              ⟨some 45, .loadF 2 true 3 false, [.tmp 7 false], some (44, false)⟩,
              ⟨some 46, .call 17, [.tmp 45 true], some (44, false)⟩,
              ⟨some 47, .loadF 2 true 3 false, [.tmp 7 false], some (44, false)⟩,
              ⟨some 48, .call 18, [.tmp 47 true], some (44, false)⟩,
              ⟨some 49, .eqv (.sc .bool) false, [.tmp 46 true, .tmp 48 true], some (44, false)⟩,
              ⟨some 50, .pick, [.tmp 44 false, .const (.bool true), .tmp 49 true], some (41, true)⟩,
              ⟨some 51, .pick, [.tmp 41 false, .tmp 50 true, .const (.bool false)], none⟩,
              ⟨some 52, .move, [.tmp 51 true], none⟩,
              ⟨some 53, .call 13, [], some (52, true)⟩,
              ⟨some 54, .pick, [.tmp 52 false, .tmp 53 true, .const (.bool false)], none⟩,
              ⟨some 6, .move, [.tmp 54 true], none⟩] (some []) [5, 7, 8, 10, 29, 30, 31, 34, 35, 36, 37, 38, 41, 42, 43, 44, 45, 46, 47, 48, 49, 52])
            .ret))))) }

/-- runrig/runriglaw7.HeadsTurned -/
def s6_l0 : SCode :=
  (.seq
    (.seq
      (.region [
        ⟨some 50, .move, [.tmp 9 false], none⟩,
        ⟨some 51, .bin .geq, [.tmp 50 true, .const (.int .i64 0)], none⟩] none [])
      (.cond (.tmp 51 true) []
        .skip [3, 9]
        (.exit 0)))
    (.seq
      (.block 1
        (.region [
          ⟨some 54, .fieldAddr 0, [.tmp 8 false], none⟩,
          ⟨some 55, .loadF 4 false 1 true, [.tmp 54 true], none⟩,
          ⟨some 56, .fieldAddr 0, [.tmp 3 false], none⟩,
          ⟨some 57, .loadF 0 false 1 false, [.tmp 56 true], none⟩,
          ⟨some 58, .move, [.tmp 9 false], none⟩,
          ⟨some 59, .indexAddr 3, [.tmp 57 true, .tmp 58 true], none⟩,
          ⟨some 60, .load true 3 false, [.tmp 59 true], none⟩,
          ⟨some 61, .lit 3 1 [.str [], .nilSl, .int .i64 0] [0], [.tmp 60 true], none⟩,
          ⟨some 62, .append 3 48, [.tmp 55 true, .tmp 61 true], none⟩,
          ⟨some 63, .fieldAddr 0, [.tmp 8 false], none⟩,
          ⟨none, .storeF 4 1, [.tmp 63 true, .tmp 62 true], none⟩] (some []) []))
      (.region [
        ⟨some 52, .move, [.tmp 9 true], none⟩,
        ⟨some 53, .bin .sub, [.tmp 52 true, .const (.int .i64 1)], none⟩,
        ⟨some 9, .move, [.tmp 53 true], none⟩] none [])))
def s6_l1 : SCode :=
  (.seq
    (.seq
      (.region [
        ⟨some 136, .move, [.tmp 15 false], none⟩,
        ⟨some 137, .fieldAddr 1, [.tmp 13 false], none⟩,
        ⟨some 138, .loadF 7 false 1 false, [.tmp 137 true], none⟩,
        ⟨some 139, .len .sl, [.tmp 138 true], none⟩,
        ⟨some 140, .bin .lss, [.tmp 136 true, .tmp 139 true], none⟩] none [])
      (.cond (.tmp 140 true) []
        .skip [13, 14, 15]
        (.exit 4)))
    (.seq
      (.block 5
        (.seq
          (.region [
            ⟨some 143, .fieldAddr 1, [.tmp 13 false], none⟩,
            ⟨some 144, .loadF 7 false 1 false, [.tmp 143 true], none⟩,
            ⟨some 145, .move, [.tmp 15 false], none⟩,
            ⟨some 146, .indexAddr 4, [.tmp 144 true, .tmp 145 true], none⟩,
            ⟨some 147, .fieldAddr 1, [.tmp 146 true], none⟩,
            ⟨some 148, .load true 3 false, [.tmp 147 true], none⟩,
            ⟨some 149, .fieldAddr 1, [.tmp 14 false], none⟩,
            ⟨some 150, .loadF 8 false 1 false, [.tmp 149 true], none⟩,
            ⟨some 151, .move, [.tmp 15 false], none⟩,
            ⟨some 152, .indexAddr 4, [.tmp 150 true, .tmp 151 true], none⟩,
            ⟨some 153, .fieldAddr 1, [.tmp 152 true], none⟩,
            ⟨some 154, .load true 3 false, [.tmp 153 true], none⟩,
            ⟨some 155, .move, [.tmp 7 false], none⟩,
            ⟨some 156, .call 19, [.tmp 154 true, .tmp 155 true], none⟩,
            ⟨some 157, .eqv (.flat [.int, .int, .int]) true, [.tmp 148 true, .tmp 156 true], none⟩] (some []) [])
          (.cond (.tmp 157 true) [5, 7, 10, 12, 13, 14, 15]
            (.seq
              (.region [
                ⟨some 2, .move, [.const (.bool false)], none⟩] none [])
              .ret) []
            .skip)))
      (.region [
        ⟨some 141, .move, [.tmp 15 true], none⟩,
        ⟨some 142, .bin .add, [.tmp 141 true, .const (.int .i64 1)], none⟩,
        ⟨some 15, .move, [.tmp 142 true], none⟩] none [])))
def s6_l2 : SCode :=
  (.seq
    (.seq
      (.region [
        ⟨some 104, .move, [.tmp 12 false], none⟩,
        ⟨some 105, .move, [.tmp 7 false], none⟩,
        ⟨some 106, .bin .lss, [.tmp 104 true, .tmp 105 true], none⟩] none [])
      (.cond (.tmp 106 true) []
        .skip [12]
        (.exit 2)))
    (.seq
      (.block 3
        (.seq
          (.region [
            ⟨some 109, .fieldAddr 0, [.tmp 10 false], none⟩,
            ⟨some 110, .loadF 5 false 1 false, [.tmp 109 true], none⟩,
            ⟨some 111, .move, [.tmp 7 false], none⟩,
            ⟨some 112, .bin .sub, [.tmp 111 true, .const (.int .i64 1)], none⟩,
            ⟨some 113, .move, [.tmp 12 false], none⟩,
            ⟨some 114, .bin .sub, [.tmp 112 true, .tmp 113 true], none⟩,
            ⟨some 115, .indexAddr 2, [.tmp 110 true, .tmp 114 true], none⟩,
            ⟨some 116, .load true 2 false, [.tmp 115 true], none⟩,
            ⟨some 117, .fieldAddr 0, [.tmp 5 false], none⟩,
            ⟨some 118, .loadF 2 false 1 false, [.tmp 117 true], none⟩,
            ⟨some 119, .move, [.tmp 12 false], none⟩,
            ⟨some 120, .indexAddr 2, [.tmp 118 true, .tmp 119 true], none⟩,
            ⟨some 121, .load true 2 false, [.tmp 120 true], none⟩,
            ⟨some 13, .allocF 7 [.str [], .nilSl], [], none⟩,
            ⟨some 14, .allocF 8 [.str [], .nilSl], [], none⟩,
            ⟨none, .storeF 7 2, [.tmp 13 false, .tmp 116 true], none⟩,
            ⟨none, .storeF 8 2, [.tmp 14 false, .tmp 121 true], none⟩] (some []) [])
          (.seq
            (.seq
              (.region [
                ⟨some 122, .fieldAddr 0, [.tmp 13 false], none⟩,
                ⟨some 123, .loadF 7 false 1 false, [.tmp 122 true], none⟩,
                ⟨some 124, .fieldAddr 0, [.tmp 14 false], none⟩,
                ⟨some 125, .loadF 8 false 1 false, [.tmp 124 true], none⟩,
                ⟨some 126, .bin .neq, [.tmp 123 true, .tmp 125 true], none⟩,
                ⟨some 127, .move, [.tmp 126 true], none⟩,
                ⟨some 128, .fieldAddr 1, [.tmp 13 false], some (127, false)⟩,
                ⟨some 129, .loadF 7 false 1 false, [.tmp 128 true], some (127, false)⟩,
                ⟨some 130, .len .sl, [.tmp 129 true], some (127, false)⟩,
                ⟨some 131, .fieldAddr 1, [.tmp 14 false], some (127, false)⟩,
                ⟨some 132, .loadF 8 false 1 false, [.tmp 131 true], some (127, false)⟩,
                ⟨some 133, .len .sl, [.tmp 132 true], some (127, false)⟩,
                ⟨some 134, .bin .neq, [.tmp 130 true, .tmp 133 true], some (127, false)⟩,
                ⟨some 135, .pick, [.tmp 127 true, .const (.bool true), .tmp 134 true], none⟩] none [128, 129, 130, 131, 132, 133])
              (.cond (.tmp 135 true) [5, 7, 10, 12, 13, 14]
                (.seq
                  (.region [
                    ⟨some 2, .move, [.const (.bool false)], none⟩] none [])
                  .ret) []
                .skip))
            (.seq
              (.region [
                ⟨some 15, .move, [.const (.int .i64 0)], none⟩] none [])
              (.block 4
                (.loop s6_l1))))))
      (.region [
        ⟨some 107, .move, [.tmp 12 true], none⟩,
        ⟨some 108, .bin .add, [.tmp 107 true, .const (.int .i64 1)], none⟩,
        ⟨some 12, .move, [.tmp 108 true], none⟩] none [])))
def s6_l3 : SCode :=
  (.seq
    (.seq
      (.region [
        ⟨some 158, .move, [.tmp 16 false], none⟩,
        ⟨some 159, .fieldAddr 1, [.tmp 5 false], none⟩,
        ⟨some 160, .loadF 2 false 1 false, [.tmp 159 true], none⟩,
        ⟨some 161, .len .sl, [.tmp 160 true], none⟩,
        ⟨some 162, .bin .lss, [.tmp 158 true, .tmp 161 true], none⟩] none [])
      (.cond (.tmp 162 true) []
        .skip [16]
        (.exit 6)))
    (.seq
      (.block 7
        (.seq
          (.region [
            ⟨some 165, .fieldAddr 1, [.tmp 10 false], none⟩,
            ⟨some 166, .loadF 5 false 1 false, [.tmp 165 true], none⟩,
            ⟨some 167, .move, [.tmp 16 false], none⟩,
            ⟨some 168, .indexAddr 4, [.tmp 166 true, .tmp 167 true], none⟩,
            ⟨some 169, .fieldAddr 1, [.tmp 168 true], none⟩,
            ⟨some 170, .load true 3 false, [.tmp 169 true], none⟩,
            ⟨some 171, .fieldAddr 1, [.tmp 5 false], none⟩,
            ⟨some 172, .loadF 2 false 1 false, [.tmp 171 true], none⟩,
            ⟨some 173, .move, [.tmp 16 false], none⟩,
            ⟨some 174, .indexAddr 4, [.tmp 172 true, .tmp 173 true], none⟩,
            ⟨some 175, .fieldAddr 1, [.tmp 174 true], none⟩,
            ⟨some 176, .load true 3 false, [.tmp 175 true], none⟩,
            ⟨some 177, .move, [.tmp 7 false], none⟩,
            ⟨some 178, .call 19, [.tmp 176 true, .tmp 177 true], none⟩,
            ⟨some 179, .eqv (.flat [.int, .int, .int]) true, [.tmp 170 true, .tmp 178 true], none⟩] (some []) [])
          (.cond (.tmp 179 true) [5, 7, 10, 16]
            (.seq
              (.region [
                ⟨some 2, .move, [.const (.bool false)], none⟩] none [])
              .ret) []
            .skip)))
      (.region [
        ⟨some 163, .move, [.tmp 16 true], none⟩,
        ⟨some 164, .bin .add, [.tmp 163 true, .const (.int .i64 1)], none⟩,
        ⟨some 16, .move, [.tmp 164 true], none⟩] none [])))
def s6_l4 : SCode :=
  (.seq
    (.seq
      (.region [
        ⟨some 180, .move, [.tmp 17 false], none⟩,
        ⟨some 181, .fieldAddr 2, [.tmp 5 false], none⟩,
        ⟨some 182, .loadF 2 false 1 false, [.tmp 181 true], none⟩,
        ⟨some 183, .len .sl, [.tmp 182 true], none⟩,
        ⟨some 184, .bin .lss, [.tmp 180 true, .tmp 183 true], none⟩] none [])
      (.cond (.tmp 184 true) []
        .skip [5, 7, 10, 17]
        (.exit 8)))
    (.seq
      (.block 9
        (.seq
          (.region [
            ⟨some 187, .fieldAddr 2, [.tmp 10 false], none⟩,
            ⟨some 188, .loadF 5 false 1 false, [.tmp 187 true], none⟩,
            ⟨some 189, .move, [.tmp 17 false], none⟩,
            ⟨some 190, .indexAddr 6, [.tmp 188 true, .tmp 189 true], none⟩,
            ⟨some 191, .fieldAddr 3, [.tmp 190 true], none⟩,
            ⟨some 192, .load true 3 false, [.tmp 191 true], none⟩,
            ⟨some 193, .fieldAddr 2, [.tmp 5 false], none⟩,
            ⟨some 194, .loadF 2 false 1 false, [.tmp 193 true], none⟩,
            ⟨some 195, .move, [.tmp 17 false], none⟩,
            ⟨some 196, .indexAddr 6, [.tmp 194 true, .tmp 195 true], none⟩,
            ⟨some 197, .fieldAddr 3, [.tmp 196 true], none⟩,
            ⟨some 198, .load true 3 false, [.tmp 197 true], none⟩,
            ⟨some 199, .move, [.tmp 7 false], none⟩,
            ⟨some 200, .call 19, [.tmp 198 true, .tmp 199 true], none⟩,
            ⟨some 201, .eqv (.flat [.int, .int, .int]) true, [.tmp 192 true, .tmp 200 true], none⟩] (some []) [])
          (.cond (.tmp 201 true) [5, 7, 10, 17]
            (.seq
              (.region [
                ⟨some 2, .move, [.const (.bool false)], none⟩] none [])
              .ret) []
            .skip)))
      (.region [
        ⟨some 185, .move, [.tmp 17 true], none⟩,
        ⟨some 186, .bin .add, [.tmp 185 true, .const (.int .i64 1)], none⟩,
        ⟨some 17, .move, [.tmp 186 true], none⟩] none [])))
def s6 : SFunc := { fid := 6, mode := .pure, nparams := 1, nboxes := 9, clr := [], results := [.tmp 2 false], body :=
  (.seq
    (.region [
      ⟨some 2, .move, [.const (.bool false)], none⟩] none [2])
    (.seq
      (.region [
        ⟨some 19, .move, [.tmp 0 false], none⟩,
        ⟨some 20, .call 9, [.tmp 19 true], none⟩,
        ⟨some 18, .move, [.tmp 20 true], none⟩,
        ⟨some 21, .extract 0, [.tmp 18 false], none⟩,
        ⟨some 22, .extract 1, [.tmp 18 true], none⟩,
        ⟨some 3, .allocF 0 [.nilSl, .nilSl, .nilSl], [], none⟩,
        ⟨some 4, .allocF 1 [.int .i64 0, .int .i64 0], [], none⟩,
        ⟨none, .storeF 0 3, [.tmp 3 false, .tmp 21 true], none⟩,
        ⟨none, .storeF 1 2, [.tmp 4 false, .tmp 22 true], none⟩] none [])
      (.seq
        (.seq
          (.region [
            ⟨some 23, .move, [.tmp 0 true], none⟩,
            ⟨some 24, .len .str, [.tmp 23 true], none⟩,
            ⟨some 25, .bin .gtr, [.tmp 24 true, .const (.int .i64 4000)], none⟩,
            ⟨some 26, .move, [.tmp 25 true], none⟩,
            ⟨some 27, .fieldAddr 0, [.tmp 4 true], some (26, false)⟩,
            ⟨some 28, .loadF 1 false 1 false, [.tmp 27 true], some (26, false)⟩,
            ⟨some 29, .bin .neq, [.tmp 28 true, .const (.int .i64 0)], some (26, false)⟩,
            ⟨some 30, .pick, [.tmp 26 true, .const (.bool true), .tmp 29 true], none⟩] none [4, 27, 28])
          (.cond (.tmp 30 true) [3]
            (.seq
              (.region [
                ⟨some 2, .move, [.const (.bool true)], none⟩] none [])
              .ret) []
            .skip))
        (.seq
          (.region [
            ⟨some 32, .loadF 0 true 3 false, [.tmp 3 false], none⟩,
            ⟨some 33, .call 11, [.tmp 32 true], none⟩,
            ⟨some 31, .move, [.tmp 33 true], none⟩,
            ⟨some 34, .extract 0, [.tmp 31 false], none⟩,
            ⟨some 35, .extract 1, [.tmp 31 true], none⟩,
            ⟨some 5, .allocF 2 [.nilSl, .nilSl, .nilSl, .int .i64 0], [], none⟩,
            ⟨some 6, .allocF 3 [.int .i64 0, .int .i64 0], [], none⟩,
            ⟨none, .storeF 2 4, [.tmp 5 false, .tmp 34 true], none⟩,
            ⟨none, .storeF 3 2, [.tmp 6 false, .tmp 35 true], none⟩] none [])
          (.seq
            (.seq
              (.region [
                ⟨some 36, .fieldAddr 0, [.tmp 6 true], none⟩,
                ⟨some 37, .loadF 3 false 1 false, [.tmp 36 true], none⟩,
                ⟨some 38, .bin .neq, [.tmp 37 true, .const (.int .i64 0)], none⟩] none [])
              (.cond (.tmp 38 true) [3, 5]
                (.seq
                  (.region [
                    ⟨some 39, .call 13, [], none⟩,
                    ⟨some 2, .move, [.tmp 39 true], none⟩] none [])
                  .ret) []
                .skip))
            (.seq
              (.region [
                ⟨some 40, .fieldAddr 0, [.tmp 3 false], none⟩,
                ⟨some 41, .loadF 0 false 1 false, [.tmp 40 true], none⟩,
                ⟨some 42, .len .sl, [.tmp 41 true], none⟩,
                ⟨some 7, .move, [.tmp 42 true], none⟩] none [])
              (.seq
                (.region [
                  ⟨some 43, .fieldAddr 1, [.tmp 3 false], none⟩,
                  ⟨some 44, .loadF 0 false 1 false, [.tmp 43 true], none⟩,
                  ⟨some 45, .fieldAddr 2, [.tmp 3 false], none⟩,
                  ⟨some 46, .loadF 0 false 1 false, [.tmp 45 true], none⟩,
                  ⟨some 47, .build [.nilSl, .nilSl, .nilSl] [(1, 1), (2, 1)], [.tmp 44 true, .tmp 46 true], none⟩,
                  ⟨some 8, .allocF 4 [.nilSl, .nilSl, .nilSl], [], none⟩,
                  ⟨none, .storeF 4 3, [.tmp 8 false, .tmp 47 true], none⟩] none [])
                (.seq
                  (.seq
                    (.region [
                      ⟨some 48, .move, [.tmp 7 false], none⟩,
                      ⟨some 49, .bin .sub, [.tmp 48 true, .const (.int .i64 1)], none⟩,
                      ⟨some 9, .move, [.tmp 49 true], none⟩] none [])
                    (.block 0
                      (.loop s6_l0)))
                  (.seq
                    (.region [
                      ⟨some 65, .loadF 4 true 3 false, [.tmp 8 true], none⟩,
                      ⟨some 66, .call 10, [.tmp 65 true], none⟩,
                      ⟨some 64, .move, [.tmp 66 true], none⟩,
                      ⟨some 67, .extract 0, [.tmp 64 false], none⟩,
                      ⟨some 68, .extract 1, [.tmp 64 true], none⟩,
                      ⟨some 10, .allocF 5 [.nilSl, .nilSl, .nilSl, .int .i64 0], [], none⟩,
                      ⟨some 11, .allocF 6 [.int .i64 0, .int .i64 0], [], none⟩,
                      ⟨none, .storeF 5 4, [.tmp 10 false, .tmp 67 true], none⟩,
                      ⟨none, .storeF 6 2, [.tmp 11 false, .tmp 68 true], none⟩] none [])
                    (.seq
                      (.seq
                        (.region [
                          ⟨some 69, .fieldAddr 0, [.tmp 11 true], none⟩,
                          ⟨some 70, .loadF 6 false 1 false, [.tmp 69 true], none⟩,
                          ⟨some 71, .bin .neq, [.tmp 70 true, .const (.int .i64 0)], none⟩,
                          ⟨some 72, .move, [.tmp 71 true], none⟩,
                          ⟨some 73, .fieldAddr 0, [.tmp 10 false], some (72, false)⟩,
                          ⟨some 74, .loadF 5 false 1 false, [.tmp 73 true], some (72, false)⟩,
                          ⟨some 75, .len .sl, [.tmp 74 true], some (72, false)⟩,
                          ⟨some 76, .move, [.tmp 7 false], some (72, false)⟩,
                          ⟨some 77, .bin .neq, [.tmp 75 true, .tmp 76 true], some (72, false)⟩,
                          ⟨some 78, .pick, [.tmp 72 true, .const (.bool true), .tmp 77 true], none⟩,
                          ⟨some 79, .move, [.tmp 78 true], none⟩,
                          ⟨some 80, .fieldAddr 1, [.tmp 10 false], some (79, false)⟩,
                          ⟨some 81, .loadF 5 false 1 false, [.tmp 80 true], some (79, false)⟩,
                          ⟨some 82, .len .sl, [.tmp 81 true], some (79, false)⟩,
                          ⟨some 83, .fieldAddr 1, [.tmp 5 false], some (79, false)⟩,
                          ⟨some 84, .loadF 2 false 1 false, [.tmp 83 true], some (79, false)⟩,
                          ⟨some 85, .len .sl, [.tmp 84 true], some (79, false)⟩,
                          ⟨some 86, .bin .neq, [.tmp 82 true, .tmp 85 true], some (79, false)⟩,
                          ⟨some 87, .pick, [.tmp 79 true, .const (.bool true), .tmp 86 true], none⟩,
                          ⟨some 88, .move, [.tmp 87 true], none⟩,
                          ⟨some 89, .fieldAddr 2, [.tmp 10 false], some (88, false)⟩,
                          ⟨some 90, .loadF 5 false 1 false, [.tmp 89 true], some (88, false)⟩,
                          ⟨some 91, .len .sl, [.tmp 90 true], some (88, false)⟩,
                          ⟨some 92, .fieldAddr 2, [.tmp 5 false], some (88, false)⟩,
                          ⟨some 93, .loadF 2 false 1 false, [.tmp 92 true], some (88, false)⟩,
                          ⟨some 94, .len .sl, [.tmp 93 true], some (88, false)⟩,
                          ⟨some 95, .bin .neq, [.tmp 91 true, .tmp 94 true], some (88, false)⟩,
                          ⟨some 96, .pick, [.tmp 88 true, .const (.bool true), .tmp 95 true], none⟩,
                          ⟨some 97, .move, [.tmp 96 true], none⟩,
                          ⟨some 98, .fieldAddr 3, [.tmp 10 false], some (97, false)⟩,
                          ⟨some 99, .loadF 5 false 1 false, [.tmp 98 true], some (97, false)⟩,
                          ⟨some 100, .fieldAddr 3, [.tmp 5 false], some (97, false)⟩,
                          ⟨some 101, .loadF 2 false 1 false, [.tmp 100 true], some (97, false)⟩,
                          ⟨some 102, .bin .neq, [.tmp 99 true, .tmp 101 true], some (97, false)⟩,
                          ⟨some 103, .pick, [.tmp 97 true, .const (.bool true), .tmp 102 true], none⟩] none [73, 74, 75, 76, 80, 81, 82, 83, 84, 85, 89, 90, 91, 92, 93, 94, 98, 99, 100, 101])
                        (.cond (.tmp 103 true) [5, 7, 10]
                          (.seq
                            (.region [
                              ⟨some 2, .move, [.const (.bool false)], none⟩] none [])
                            .ret) []
                          .skip))
                      (.seq
                        (.seq
                          (.region [
                            ⟨some 12, .move, [.const (.int .i64 0)], none⟩] none [])
                          (.block 2
                            (.loop s6_l2)))
                        (.seq
                          (.seq
                            (.region [
                              ⟨some 16, .move, [.const (.int .i64 0)], none⟩] none [])
                            (.block 6
                              (.loop s6_l3)))
                          (.seq
                            (.seq
                              (.region [
                                ⟨some 17, .move, [.const (.int .i64 0)], none⟩] none [])
                              (.block 8
                                (.loop s6_l4)))
                            (.seq
                              (.region [
                                ⟨some 202, .call 13, [], none⟩,
                                ⟨some 2, .move, [.tmp 202 true], none⟩] none [])
                              .ret)))))))))))))) }

/-- runrig/runriglaw7.HeadsOdd -/

def s7 : SFunc := { fid := 7, mode := .pure, nparams := 1, nboxes := 4, clr := [], results := [.tmp 2 false], body :=
  (.seq
    (.region [
      ⟨some 2, .move, [.const (.bool false)], none⟩] none [2])
    (.seq
      (.region [
        ⟨some 3, .move, [.const (.str [32, 102, 117, 110, 99, 32, 109, 97, 105, 110, 40, 41, 32, 123, 32, 125])], none⟩] none [])
      (.seq
        (.region [
          ⟨some 10, .move, [.tmp 3 false], none⟩,
          ⟨some 11, .bin .add, [.const (.str [114, 101, 99, 111, 114, 100, 32, 65, 32, 123, 32, 125, 32, 114, 101, 99, 111, 114, 100, 32, 65, 32, 123, 32, 125]), .tmp 10 true], none⟩,
          ⟨some 12, .move, [.tmp 3 false], none⟩,
          ⟨some 13, .bin .add, [.const (.str [114, 101, 99, 111, 114, 100, 32, 65, 32, 123, 32, 97, 58, 32, 105, 110, 116, 59, 32, 97, 58, 32, 105, 110, 116, 59, 32, 125]), .tmp 12 true], none⟩,
          ⟨some 14, .move, [.tmp 3 false], none⟩,
          ⟨some 15, .bin .add, [.const (.str [114, 101, 99, 111, 114, 100, 32, 65, 32, 123, 32, 97, 58, 32, 66, 59, 32, 125]), .tmp 14 true], none⟩,
          ⟨some 16, .move, [.tmp 3 false], none⟩,
          ⟨some 17, .bin .add, [.const (.str [103, 108, 111, 98, 97, 108, 32, 103, 58, 32, 105, 110, 116, 59, 32, 103, 108, 111, 98, 97, 108, 32, 103, 58, 32, 98, 111, 111, 108, 59]), .tmp 16 true], none⟩,
          ⟨some 18, .move, [.tmp 3 false], none⟩,
          ⟨some 19, .bin .add, [.const (.str [103, 108, 111, 98, 97, 108, 32, 103, 58, 32, 82, 59]), .tmp 18 true], none⟩,
          ⟨some 20, .move, [.tmp 3 false], none⟩,
          ⟨some 21, .bin .add, [.const (.str [102, 117, 110, 99, 32, 102, 40, 41, 32, 123, 32, 125, 32, 102, 117, 110, 99, 32, 102, 40, 41, 32, 123, 32, 125]), .tmp 20 true], none⟩,
          ⟨some 22, .move, [.tmp 3 false], none⟩,
          ⟨some 23, .bin .add, [.const (.str [102, 117, 110, 99, 32, 102, 40, 97, 58, 32, 105, 110, 116, 44, 32, 97, 58, 32, 105, 110, 116, 41, 32, 123, 32, 125]), .tmp 22 true], none⟩,
          ⟨some 24, .move, [.tmp 3 false], none⟩,
          ⟨some 25, .bin .add, [.const (.str [102, 117, 110, 99, 32, 102, 40, 41, 58, 32, 82, 32, 123, 32, 125]), .tmp 24 true], none⟩,
          ⟨some 26, .move, [.tmp 3 false], none⟩,
          ⟨some 27, .bin .add, [.const (.str [114, 101, 99, 111, 114, 100, 32, 105, 110, 116, 50, 32, 123, 32, 97, 58, 32, 105, 110, 116, 120, 59, 32, 125]), .tmp 26 true], none⟩,
          ⟨some 28, .move, [.tmp 3 true], none⟩,
          ⟨some 29, .bin .add, [.const (.str [103, 108, 111, 98, 97, 108, 32, 103, 58, 32, 66, 59, 32, 114, 101, 99, 111, 114, 100, 32, 65, 32, 123, 32, 97, 58, 32, 67, 59, 32, 125]), .tmp 28 true], none⟩,
          ⟨some 30, .lit 1 13 [.str []] [0, 1, 2, 3, 4, 5, 6, 7, 8, 9, 10, 11, 12], [.tmp 11 true, .tmp 13 true, .tmp 15 true, .tmp 17 true, .tmp 19 true, .tmp 21 true, .tmp 23 true, .tmp 25 true, .const (.str [102, 117, 110, 99, 32, 109, 97, 105, 110, 40, 97, 58, 32, 105, 110, 116, 41, 32, 123, 32, 125]), .const (.str [102, 117, 110, 99, 32, 109, 97, 105, 110, 40, 41, 58, 32, 105, 110, 116, 32, 123, 32, 125]), .const (.str [102, 117, 110, 99, 32, 102, 40, 41, 32, 123, 32, 125]), .tmp 27 true, .tmp 29 true], none⟩,
          ⟨some 4, .move, [.tmp 30 true], none⟩] none [])
        (.seq
          (.region [
            ⟨some 31, .lit 1 13 [.int .i64 0] [0, 1, 2, 3, 4, 5, 6, 7, 8, 9, 10, 11, 12], [.const (.int .i64 20), .const (.int .i64 19), .const (.int .i64 11), .const (.int .i64 22), .const (.int .i64 7), .const (.int .i64 18), .const (.int .i64 15), .const (.int .i64 5), .const (.int .i64 0), .const (.int .i64 0), .const (.int .i64 0), .const (.int .i64 14), .const (.int .i64 24)], none⟩,
            ⟨some 5, .move, [.tmp 31 true], none⟩] none [])
          (.seq
            (.seq
              (.region [
                ⟨some 32, .move, [.tmp 0 false], none⟩,
                ⟨some 33, .bin .lss, [.tmp 32 true, .const (.int .i64 0)], none⟩,
                ⟨some 34, .move, [.tmp 33 true], none⟩,
                ⟨some 35, .move, [.tmp 0 false], some (34, false)⟩,
                ⟨some 36, .move, [.tmp 4 false], some (34, false)⟩,
                ⟨some 37, .len .sl, [.tmp 36 true], some (34, false)⟩,
                ⟨some 38, .bin .geq, [.tmp 35 true, .tmp 37 true], some (34, false)⟩,
                ⟨some 39, .pick, [.tmp 34 true, .const (.bool true), .tmp 38 true], none⟩] none [35, 36, 37])
              (.cond (.tmp 39 true) [0, 4, 5]
                (.seq
                  (.region [
                    ⟨some 2, .move, [.const (.bool true)], none⟩] none [])
                  .ret) []
                .skip))
            (.seq
              (.region [
                ⟨some 41, .move, [.tmp 4 true], none⟩,
                ⟨some 42, .move, [.tmp 0 false], none⟩,
                ⟨some 43, .indexAddr 1, [.tmp 41 true, .tmp 42 true], none⟩,
                ⟨some 44, .load false 1 false, [.tmp 43 true], none⟩,
                ⟨some 45, .call 9, [.tmp 44 true], none⟩,
                ⟨some 40, .move, [.tmp 45 true], none⟩,
                ⟨some 46, .extract 0, [.tmp 40 false], none⟩,
                ⟨some 47, .extract 1, [.tmp 40 true], none⟩,
                ⟨some 6, .allocF 0 [.nilSl, .nilSl, .nilSl], [], none⟩,
                ⟨some 7, .allocF 1 [.int .i64 0, .int .i64 0], [], none⟩,
                ⟨none, .storeF 0 3, [.tmp 6 false, .tmp 46 true], none⟩,
                ⟨none, .storeF 1 2, [.tmp 7 false, .tmp 47 true], none⟩] none [])
              (.seq
                (.region [
                  ⟨some 49, .loadF 0 true 3 false, [.tmp 6 true], none⟩,
                  ⟨some 50, .call 10, [.tmp 49 true], none⟩,
                  ⟨some 48, .move, [.tmp 50 true], none⟩,
                  ⟨some 51, .extract 0, [.tmp 48 false], none⟩,
                  ⟨some 52, .extract 1, [.tmp 48 true], none⟩,
                  ⟨some 8, .allocF 2 [.nilSl, .nilSl, .nilSl, .int .i64 0], [], none⟩,
                  ⟨some 9, .allocF 3 [.int .i64 0, .int .i64 0], [], none⟩,
                  ⟨none, .storeF 2 4, [.tmp 8 false, .tmp 51 true], none⟩,
                  ⟨none, .storeF 3 2, [.tmp 9 false, .tmp 52 true], none⟩] none [])
                (.seq
                  (.region [
                    ⟨some 53, .fieldAddr 0, [.tmp 7 true], none⟩,
                    ⟨some 54, .loadF 1 false 1 false, [.tmp 53 true], none⟩,
                    ⟨some 55, .bin .eql, [.tmp 54 true, .const (.int .i64 0)], none⟩,
                    ⟨some 56, .move, [.tmp 55 true], none⟩,
                    ⟨some 57, .loadF 3 true 2 false, [.tmp 9 true], some (56, true)⟩,
                    ⟨some 58, .move, [.tmp 5 true], some (56, true)⟩,
                    ⟨some 59, .move, [.tmp 0 true], some (56, true)⟩,
                    ⟨some 60, .indexAddr 1, [.tmp 58 true, .tmp 59 true], some (56, true)⟩,
                    ⟨some 61, .load false 1 false, [.tmp 60 true], some (56, true)⟩,
                    ⟨some 62, .build [.int .i64 0, .int .i64 0] [(0, 1), (1, 1)], [.const (.int .i64 3), .tmp 61 true], some (56, true)⟩,
                    ⟨some 63, .eqv (.flat [.int, .int]) false, [.tmp 57 true, .tmp 62 true], some (56, true)⟩,
                    ⟨some 64, .pick, [.tmp 56 false, .tmp 63 true, .const (.bool false)], none⟩,
                    ⟨some 65, .move, [.tmp 64 true], none⟩,
                    ⟨some 66, .loadF 2 true 4 false, [.tmp 8 true], some (65, true)⟩,
                    ⟨some 67, .build [.nilSl, .nilSl, .nilSl, .int .i64 0] [], [], some (65, true)⟩,
                    ⟨some 68, .call 12, [.tmp 66 true, .tmp 67 true], some (65, true)⟩,
                    ⟨some 69, .pick, [.tmp 65 false, .tmp 68 true, .const (.bool false)], none⟩,
                    ⟨some 70, .move, [.tmp 69 true], none⟩,
                    ⟨some 71, .call 13, [], some (70, true)⟩,
                    ⟨some 72, .pick, [.tmp 70 false, .tmp 71 true, .const (.bool false)], none⟩,
                    ⟨some 2, .move, [.tmp 72 true], none⟩] (some []) [0, 5, 8, 9, 56, 57, 58, 59, 60, 61, 62, 65, 66, 67, 70])
                  .ret)))))))) }

/-- runrig/runriglaw7.HeadsDims -/

def s8 : SFunc := { fid := 8, mode := .pure, nparams := 2, nboxes := 4, clr := [], results := [.tmp 4 false], body :=
  (.seq
    (.region [
      ⟨some 4, .move, [.const (.bool false)], none⟩] none [4])
    (.seq
      (.seq
        (.region [
          ⟨some 11, .move, [.tmp 0 false], none⟩,
          ⟨some 12, .bin .lss, [.tmp 11 true, .const (.int .i64 (-3))], none⟩,
          ⟨some 13, .move, [.tmp 12 true], none⟩,
          ⟨some 14, .move, [.tmp 0 false], some (13, false)⟩,
          ⟨some 15, .bin .gtr, [.tmp 14 true, .const (.int .i64 10)], some (13, false)⟩,
          ⟨some 16, .pick, [.tmp 13 true, .const (.bool true), .tmp 15 true], none⟩] none [14])
        (.cond (.tmp 16 true) [0, 1]
          (.seq
            (.region [
              ⟨some 4, .move, [.const (.bool true)], none⟩] none [])
            .ret) []
          .skip))
      (.seq
        (.region [
          ⟨some 17, .move, [.tmp 0 false], none⟩,
          ⟨some 18, .build [.str [], .int .i64 0] [(0, 1), (1, 1)], [.const (.str [98, 111, 111, 108]), .tmp 17 true], none⟩,
          ⟨some 5, .allocF 0 [.str [], .int .i64 0], [], none⟩,
          ⟨none, .storeF 0 2, [.tmp 5 false, .tmp 18 true], none⟩] none [])
        (.seq
          (.region [
            ⟨some 19, .move, [.tmp 0 false], none⟩,
            ⟨some 20, .build [.int .i64 0, .int .i64 0, .int .i64 0] [(0, 1), (2, 1)], [.const (.int .i64 2), .tmp 19 true], none⟩,
            ⟨some 6, .allocF 1 [.int .i64 0, .int .i64 0, .int .i64 0], [], none⟩,
            ⟨none, .storeF 1 3, [.tmp 6 false, .tmp 20 true], none⟩] none [])
          (.seq
            (.seq
              (.region [
                ⟨some 21, .move, [.tmp 1 false], none⟩] none [])
              (.cond (.tmp 21 true) []
                (.seq
                  (.region [
                    ⟨some 22, .fieldAddr 0, [.tmp 5 false], none⟩,
                    ⟨none, .storeF 0 1, [.tmp 22 true, .const (.str [66])], none⟩] none [])
                  (.region [
                    ⟨some 23, .move, [.tmp 0 false], none⟩,
                    ⟨some 24, .build [.int .i64 0, .int .i64 0, .int .i64 0] [(0, 1), (1, 1), (2, 1)], [.const (.int .i64 3), .const (.int .i64 1), .tmp 23 true], none⟩,
                    ⟨none, .storeF 1 3, [.tmp 6 false, .tmp 24 true], none⟩] none [])) []
                .skip))
            (.seq
              (.region [
                ⟨some 26, .lit 1 3 [.str []] [0, 1, 2], [.const (.str [65]), .const (.str [66]), .const (.str [66])], none⟩,
                ⟨some 27, .loadF 0 true 2 false, [.tmp 5 true], none⟩,
                ⟨some 28, .call 15, [.tmp 26 true, .tmp 27 true], none⟩,
                ⟨some 25, .move, [.tmp 28 true], none⟩,
                ⟨some 29, .extract 0, [.tmp 25 false], none⟩,
                ⟨some 30, .extract 1, [.tmp 25 true], none⟩,
                ⟨some 7, .allocF 2 [.int .i64 0, .int .i64 0, .int .i64 0], [], none⟩,
                ⟨none, .storeF 2 3, [.tmp 7 false, .tmp 29 true], none⟩,
                ⟨some 8, .move, [.tmp 30 true], none⟩] none [])
              (.seq
                (.region [
                  ⟨some 32, .lit 1 1 [.str []] [0], [.const (.str [65])], none⟩,
                  ⟨some 33, .build [.str [], .int .i64 0] [(0, 1)], [.const (.str [66])], none⟩,
                  ⟨some 34, .call 15, [.tmp 32 true, .tmp 33 true], none⟩,
                  ⟨some 31, .move, [.tmp 34 true], none⟩,
                  ⟨some 35, .extract 0, [.tmp 31 false], none⟩,
                  ⟨some 36, .extract 1, [.tmp 31 true], none⟩,
                  ⟨some 9, .allocF 3 [.int .i64 0, .int .i64 0, .int .i64 0], [], none⟩,
                  ⟨none, .storeF 3 3, [.tmp 9 true, .tmp 35 true], none⟩,
                  ⟨some 10, .move, [.tmp 36 true], none⟩] none [])
                (.seq
                  (.seq
                    (.region [
                      ⟨some 37, .move, [.tmp 0 false], none⟩,
                      ⟨some 38, .bin .lss, [.tmp 37 true, .const (.int .i64 0)], none⟩,
                      ⟨some 39, .move, [.tmp 38 true], none⟩,
                      ⟨some 40, .move, [.tmp 0 false], some (39, false)⟩,
                      ⟨some 41, .bin .gtr, [.tmp 40 true, .const (.int .i64 3)], some (39, false)⟩,
                      ⟨some 42, .pick, [.tmp 39 true, .const (.bool true), .tmp 41 true], none⟩] none [40])
                    (.cond (.tmp 42 true) [0, 1, 6]
                      (.seq
                        (.region [
                          ⟨some 43, .move, [.tmp 8 true], none⟩,
                          ⟨some 44, .un .not, [.tmp 43 true], none⟩,
                          ⟨some 45, .move, [.tmp 44 true], none⟩,
                          ⟨some 46, .loadF 2 true 3 false, [.tmp 7 true], some (45, true)⟩,
                          ⟨some 47, .build [.int .i64 0, .int .i64 0, .int .i64 0] [], [], some (45, true)⟩,
                          ⟨some 48, .eqv (.flat [.int, .int, .int]) false, [.tmp 46 true, .tmp 47 true], some (45, true)⟩,
                          ⟨some 49, .pick, [.tmp 45 true, .tmp 48 true, .const (.bool false)], none⟩,
                          ⟨some 50, .move, [.tmp 49 true], none⟩,
                          ⟨some 51, .move, [.tmp 10 true], some (50, true)⟩,
                          ⟨some 52, .un .not, [.tmp 51 true], some (50, true)⟩,
                          ⟨some 53, .pick, [.tmp 50 true, .tmp 52 true, .const (.bool false)], none⟩,
                          ⟨some 54, .move, [.tmp 53 true], none⟩,
                          ⟨some 55, .call 13, [], some (54, true)⟩,
                          ⟨some 56, .pick, [.tmp 54 true, .tmp 55 true, .const (.bool false)], none⟩,
                          ⟨some 4, .move, [.tmp 56 true], none⟩] none [7, 10, 46, 47, 51])
                        .ret) []
                      .skip))
                  (.seq
                    (.region [
                      ⟨some 57, .move, [.tmp 8 true], none⟩,
                      ⟨some 58, .move, [.tmp 57 true], none⟩,
                      ⟨some 59, .loadF 2 true 3 false, [.tmp 7 false], some (58, true)⟩,
                      ⟨some 60, .loadF 1 true 3 false, [.tmp 6 true], some (58, true)⟩,
                      ⟨some 61, .eqv (.flat [.int, .int, .int]) false, [.tmp 59 true, .tmp 60 true], some (58, true)⟩,
                      ⟨some 62, .pick, [.tmp 58 true, .tmp 61 true, .const (.bool false)], none⟩,
                      ⟨some 63, .move, [.tmp 62 true], none⟩,
                      ⟨some 64, .loadF 2 true 3 false, [.tmp 7 true], some (63, true)⟩,
                      ⟨some 65, .call 17, [.tmp 64 true], some (63, true)⟩,
                      ⟨some 66, .move, [.tmp 1 true], some (63, true)⟩,
                      ⟨some 67, .move, [.tmp 66 true], some (63, true)⟩,
                      ⟨some 68, .move, [.tmp 0 true], some (67, false)⟩,
                      ⟨some 69, .bin .gtr, [.tmp 68 true, .const (.int .i64 0)], some (67, false)⟩,
                      ⟨some 70, .pick, [.tmp 67 true, .const (.bool true), .tmp 69 true], some (63, true)⟩,
                      ⟨some 71, .eqv (.sc .bool) false, [.tmp 65 true, .tmp 70 true], some (63, true)⟩,
                      ⟨some 72, .pick, [.tmp 63 true, .tmp 71 true, .const (.bool false)], none⟩,
                      ⟨some 73, .move, [.tmp 72 true], none⟩,
                      ⟨some 74, .move, [.tmp 10 true], some (73, true)⟩,
                      ⟨some 75, .un .not, [.tmp 74 true], some (73, true)⟩,
                      ⟨some 76, .pick, [.tmp 73 true, .tmp 75 true, .const (.bool false)], none⟩,
                      ⟨some 77, .move, [.tmp 76 true], none⟩,
                      ⟨some 78, .call 13, [], some (77, true)⟩,
                      ⟨some 79, .pick, [.tmp 77 true, .tmp 78 true, .const (.bool false)], none⟩,
                      ⟨some 4, .move, [.tmp 79 true], none⟩] none [0, 1, 6, 7, 10, 59, 60, 64, 65, 66, 67, 68, 69, 70, 74])
                    .ret))))))))) }

/-- runrig/runrigref3.Prog -/
def s9_l0 : SCode :=
  (.seq
    (.seq
      (.region [
        ⟨some 21, .move, [.tmp 6 false], none⟩,
        ⟨some 22, .call 21, [.tmp 21 true], none⟩,
        ⟨some 23, .move, [.tmp 22 true], none⟩,
        ⟨some 24, .move, [.tmp 6 false], some (23, true)⟩,
        ⟨some 25, .call 22, [.tmp 24 true], some (23, true)⟩,
        ⟨some 26, .field 0 1 false, [.tmp 25 true], some (23, true)⟩,
        ⟨some 27, .bin .neq, [.tmp 26 true, .const (.int .i64 0)], some (23, true)⟩,
        ⟨some 28, .pick, [.tmp 23 true, .tmp 27 true, .const (.bool false)], none⟩] none [24, 25, 26])
      (.cond (.tmp 28 true) []
        .skip []
        (.exit 0)))
    (.block 1
      (.block 2
        (.seq
          (.seq
            (.region [
              ⟨some 32, .move, [.tmp 6 false], none⟩,
              ⟨some 33, .call 23, [.tmp 32 true, .const (.str [114, 101, 99, 111, 114, 100])], none⟩,
              ⟨some 34, .move, [.tmp 33 true], none⟩,
              ⟨some 35, .fieldAddr 0, [.tmp 7 false], some (34, true)⟩,
              ⟨some 36, .loadF 3 false 1 false, [.tmp 35 true], some (34, true)⟩,
              ⟨some 37, .len .sl, [.tmp 36 true], some (34, true)⟩,
              ⟨some 38, .bin .eql, [.tmp 37 true, .const (.int .i64 12)], some (34, true)⟩,
              ⟨some 39, .pick, [.tmp 34 true, .tmp 38 true, .const (.bool false)], none⟩,
              ⟨some 31, .move, [.tmp 39 true], none⟩] none [35, 36, 37])
            (.cond (.tmp 31 false) []
              .skip [31]
              (.seq
                (.region [
                  ⟨some 40, .move, [.tmp 6 false], none⟩,
                  ⟨some 41, .call 23, [.tmp 40 true, .const (.str [103, 108, 111, 98, 97, 108])], none⟩,
                  ⟨some 42, .move, [.tmp 41 true], none⟩,
                  ⟨some 43, .fieldAddr 1, [.tmp 7 false], some (42, true)⟩,
                  ⟨some 44, .loadF 3 false 1 false, [.tmp 43 true], some (42, true)⟩,
                  ⟨some 45, .len .sl, [.tmp 44 true], some (42, true)⟩,
                  ⟨some 46, .bin .eql, [.tmp 45 true, .const (.int .i64 8)], some (42, true)⟩,
                  ⟨some 47, .pick, [.tmp 42 true, .tmp 46 true, .const (.bool false)], none⟩,
                  ⟨some 31, .move, [.tmp 47 true], none⟩] none [43, 44, 45])
                (.cond (.tmp 31 false) []
                  .skip [31]
                  (.region [
                    ⟨some 48, .move, [.tmp 6 false], none⟩,
                    ⟨some 49, .call 23, [.tmp 48 true, .const (.str [102, 117, 110, 99])], none⟩,
                    ⟨some 50, .move, [.tmp 49 true], none⟩,
                    ⟨some 51, .fieldAddr 2, [.tmp 7 false], some (50, true)⟩,
                    ⟨some 52, .loadF 3 false 1 false, [.tmp 51 true], some (50, true)⟩,
                    ⟨some 53, .len .sl, [.tmp 52 true], some (50, true)⟩,
                    ⟨some 54, .bin .eql, [.tmp 53 true, .const (.int .i64 16)], some (50, true)⟩,
                    ⟨some 55, .pick, [.tmp 50 true, .tmp 54 true, .const (.bool false)], none⟩,
                    ⟨some 31, .move, [.tmp 55 true], none⟩] none [51, 52, 53])))))
          (.cond (.tmp 31 true) []
            (.region [
              ⟨some 56, .move, [.tmp 6 false], none⟩,
              ⟨some 57, .call 24, [.tmp 56 true, .const (.int .i64 4)], none⟩] none [57]) []
            (.seq
              (.region [
                ⟨some 59, .move, [.tmp 6 false], none⟩,
                ⟨some 60, .call 23, [.tmp 59 true, .const (.str [114, 101, 99, 111, 114, 100])], none⟩,
                ⟨some 58, .move, [.tmp 60 true], none⟩] none [])
              (.cond (.tmp 58 true) []
                (.seq
                  (.region [
                    ⟨some 61, .move, [.tmp 6 false], none⟩,
                    ⟨some 62, .nilCheck, [.tmp 61 false], none⟩,
                    ⟨some 63, .fieldAddr 1, [.tmp 62 true], none⟩,
                    ⟨some 64, .load false 1 false, [.tmp 63 true], none⟩,
                    ⟨some 65, .bin .add, [.tmp 64 true, .const (.int .i64 1)], none⟩,
                    ⟨some 66, .nilCheck, [.tmp 61 true], none⟩,
                    ⟨some 67, .fieldAddr 1, [.tmp 66 true], none⟩,
                    ⟨none, .store 1, [.tmp 67 true, .tmp 65 true], none⟩] none [])
                  (.region [
                    ⟨some 68, .fieldAddr 0, [.tmp 7 false], none⟩,
                    ⟨some 69, .loadF 3 false 1 true, [.tmp 68 true], none⟩,
                    ⟨some 70, .move, [.tmp 6 false], none⟩,
                    ⟨some 71, .call 25, [.tmp 70 true], none⟩,
                    ⟨some 72, .lit 3 1 [.str [], .nilSl, .int .i64 0] [0], [.tmp 71 true], none⟩,
                    ⟨some 73, .append 3 48, [.tmp 69 true, .tmp 72 true], none⟩,
                    ⟨some 74, .fieldAddr 0, [.tmp 7 false], none⟩,
                    ⟨none, .storeF 3 1, [.tmp 74 true, .tmp 73 true], none⟩] (some []) [])) []
                (.seq
                  (.region [
                    ⟨some 76, .move, [.tmp 6 false], none⟩,
                    ⟨some 77, .call 23, [.tmp 76 true, .const (.str [103, 108, 111, 98, 97, 108])], none⟩,
                    ⟨some 75, .move, [.tmp 77 true], none⟩] none [])
                  (.cond (.tmp 75 true) []
                    (.seq
                      (.region [
                        ⟨some 78, .move, [.tmp 6 false], none⟩,
                        ⟨some 79, .nilCheck, [.tmp 78 false], none⟩,
                        ⟨some 80, .fieldAddr 1, [.tmp 79 true], none⟩,
                        ⟨some 81, .load false 1 false, [.tmp 80 true], none⟩,
                        ⟨some 82, .bin .add, [.tmp 81 true, .const (.int .i64 1)], none⟩,
                        ⟨some 83, .nilCheck, [.tmp 78 true], none⟩,
                        ⟨some 84, .fieldAddr 1, [.tmp 83 true], none⟩,
                        ⟨none, .store 1, [.tmp 84 true, .tmp 82 true], none⟩] none [])
                      (.seq
                        (.region [
                          ⟨some 85, .fieldAddr 1, [.tmp 7 false], none⟩,
                          ⟨some 86, .loadF 3 false 1 true, [.tmp 85 true], none⟩,
                          ⟨some 87, .move, [.tmp 6 false], none⟩,
                          ⟨some 88, .call 26, [.tmp 87 true], none⟩,
                          ⟨some 89, .lit 4 1 [.str [], .str [], .int .i64 0, .int .i64 0] [0], [.tmp 88 true], none⟩,
                          ⟨some 90, .append 4 48, [.tmp 86 true, .tmp 89 true], none⟩,
                          ⟨some 91, .fieldAddr 1, [.tmp 7 false], none⟩,
                          ⟨none, .storeF 3 1, [.tmp 91 true, .tmp 90 true], none⟩] (some []) [])
                        (.region [
                          ⟨some 92, .move, [.tmp 6 false], none⟩,
                          ⟨some 93, .call 27, [.tmp 92 true, .const (.str [59])], none⟩] none [93]))) []
                    (.seq
                      (.region [
                        ⟨some 95, .move, [.tmp 6 false], none⟩,
                        ⟨some 96, .call 23, [.tmp 95 true, .const (.str [102, 117, 110, 99])], none⟩,
                        ⟨some 94, .move, [.tmp 96 true], none⟩] none [])
                      (.cond (.tmp 94 true) []
                        (.seq
                          (.region [
                            ⟨some 97, .move, [.tmp 6 false], none⟩,
                            ⟨some 98, .nilCheck, [.tmp 97 false], none⟩,
                            ⟨some 99, .fieldAddr 1, [.tmp 98 true], none⟩,
                            ⟨some 100, .load false 1 false, [.tmp 99 true], none⟩,
                            ⟨some 101, .bin .add, [.tmp 100 true, .const (.int .i64 1)], none⟩,
                            ⟨some 102, .nilCheck, [.tmp 97 true], none⟩,
                            ⟨some 103, .fieldAddr 1, [.tmp 102 true], none⟩,
                            ⟨none, .store 1, [.tmp 103 true, .tmp 101 true], none⟩] none [])
                          (.region [
                            ⟨some 104, .fieldAddr 2, [.tmp 7 false], none⟩,
                            ⟨some 105, .loadF 3 false 1 true, [.tmp 104 true], none⟩,
                            ⟨some 106, .move, [.tmp 6 false], none⟩,
                            ⟨some 107, .call 28, [.tmp 106 true], none⟩,
                            ⟨some 108, .lit 7 1 [.str [], .nilSl, .bool false, .str [], .int .i64 0, .nilSl, .int .i64 0] [0], [.tmp 107 true], none⟩,
                            ⟨some 109, .append 7 104, [.tmp 105 true, .tmp 108 true], none⟩,
                            ⟨some 110, .fieldAddr 2, [.tmp 7 false], none⟩,
                            ⟨none, .storeF 3 1, [.tmp 110 true, .tmp 109 true], none⟩] (some []) [])) []
                        (.region [
                          ⟨some 29, .move, [.tmp 6 false], none⟩,
                          ⟨some 30, .call 24, [.tmp 29 true, .const (.int .i64 2)], none⟩] none [30]))))))))))))
def s9 : SFunc := { fid := 9, mode := .pure, nparams := 1, nboxes := 4, clr := [], results := [.box 2 0 3 true, .box 3 1 2 true], body :=
  (.seq
    (.region [
      ⟨some 2, .allocF 0 [.nilSl, .nilSl, .nilSl], [], none⟩,
      ⟨some 3, .allocF 1 [.int .i64 0, .int .i64 0], [], none⟩] none [])
    (.seq
      (.region [
        ⟨some 9, .move, [.tmp 0 true], none⟩,
        ⟨some 10, .call 20, [.tmp 9 true], none⟩,
        ⟨some 8, .move, [.tmp 10 true], none⟩,
        ⟨some 11, .extract 0, [.tmp 8 false], none⟩,
        ⟨some 12, .extract 1, [.tmp 8 true], none⟩,
        ⟨some 5, .allocF 2 [.int .i64 0, .int .i64 0], [], none⟩,
        ⟨some 4, .move, [.tmp 11 true], none⟩,
        ⟨none, .storeF 2 2, [.tmp 5 false, .tmp 12 true], none⟩] none [])
      (.seq
        (.seq
          (.region [
            ⟨some 13, .fieldAddr 0, [.tmp 5 false], none⟩,
            ⟨some 14, .loadF 2 false 1 false, [.tmp 13 true], none⟩,
            ⟨some 15, .bin .neq, [.tmp 14 true, .const (.int .i64 0)], none⟩] none [])
          (.cond (.tmp 15 true) [4]
            (.seq
              (.region [
                ⟨some 16, .build [.nilSl, .nilSl, .nilSl] [], [], none⟩,
                ⟨some 17, .loadF 2 true 2 false, [.tmp 5 true], none⟩,
                ⟨none, .storeF 0 3, [.tmp 2 false, .tmp 16 true], none⟩,
                ⟨none, .storeF 1 2, [.tmp 3 false, .tmp 17 true], none⟩] (some []) [])
              .ret) [5]
            .skip))
        (.seq
          (.region [
            ⟨some 18, .move, [.tmp 4 true], none⟩,
            ⟨some 19, .build [.nilSl, .int .i64 0, .int .i64 0, .int .i64 0, .int .i64 0] [(0, 1)], [.tmp 18 true], none⟩,
            ⟨some 20, .box 5, [.tmp 19 true], none⟩,
            ⟨some 6, .move, [.tmp 20 true], none⟩] none [])
          (.seq
            (.region [
              ⟨some 7, .allocF 3 [.nilSl, .nilSl, .nilSl], [], none⟩] none [])
            (.seq
              (.block 0
                (.loop s9_l0))
              (.seq
                (.seq
                  (.region [
                    ⟨some 111, .move, [.tmp 6 false], none⟩,
                    ⟨some 112, .call 21, [.tmp 111 true], none⟩,
                    ⟨some 113, .un .not, [.tmp 112 true], none⟩] none [])
                  (.cond (.tmp 113 true) [7]
                    (.seq
                      (.region [
                        ⟨some 114, .build [.nilSl, .nilSl, .nilSl] [], [], none⟩,
                        ⟨some 115, .move, [.tmp 6 true], none⟩,
                        ⟨some 116, .nilCheck, [.tmp 115 true], none⟩,
                        ⟨some 117, .fieldAddr 3, [.tmp 116 true], none⟩,
                        ⟨some 118, .load true 2 false, [.tmp 117 true], none⟩,
                        ⟨none, .storeF 0 3, [.tmp 2 false, .tmp 114 true], none⟩,
                        ⟨none, .storeF 1 2, [.tmp 3 false, .tmp 118 true], none⟩] (some []) [])
                      .ret) [6]
                    .skip))
                (.seq
                  (.region [
                    ⟨some 119, .loadF 3 true 3 false, [.tmp 7 true], none⟩,
                    ⟨some 120, .build [.int .i64 0, .int .i64 0] [], [], none⟩,
                    ⟨none, .storeF 0 3, [.tmp 2 false, .tmp 119 true], none⟩,
                    ⟨none, .storeF 1 2, [.tmp 3 false, .tmp 120 true], none⟩] none [])
                  .ret)))))))) }

/-- runrig/heads.Make -/

def s10 : SFunc := { fid := 10, mode := .pure, nparams := 1, nboxes := 4, clr := [], results := [.box 2 1 4 true, .box 3 2 2 true], body :=
  (.seq
    (.region [
      ⟨some 1, .boxF 0 3, [.tmp 0 true], none⟩,
      ⟨some 2, .allocF 1 [.nilSl, .nilSl, .nilSl, .int .i64 0], [], none⟩,
      ⟨some 3, .allocF 2 [.int .i64 0, .int .i64 0], [], none⟩] none [])
    (.seq
      (.region [
        ⟨some 6, .build [.nilSl, .int .i64 0, .int .i64 0] [], [], none⟩,
        ⟨some 7, .box 3, [.tmp 6 true], none⟩,
        ⟨some 4, .move, [.tmp 7 true], none⟩] none [])
      (.seq
        (.region [
          ⟨some 8, .move, [.tmp 4 false], none⟩,
          ⟨some 9, .fieldAddr 0, [.tmp 1 false], none⟩,
          ⟨some 10, .loadF 0 false 1 false, [.tmp 9 true], none⟩,
          ⟨some 11, .call 29, [.tmp 8 true, .tmp 10 true], none⟩,
          ⟨some 12, .move, [.tmp 4 false], none⟩,
          ⟨some 13, .fieldAddr 1, [.tmp 1 false], none⟩,
          ⟨some 14, .loadF 0 false 1 false, [.tmp 13 true], none⟩,
          ⟨some 15, .call 30, [.tmp 12 true, .tmp 14 true], none⟩,
          ⟨some 16, .move, [.tmp 4 false], none⟩,
          ⟨some 17, .fieldAddr 2, [.tmp 1 false], none⟩,
          ⟨some 18, .loadF 0 false 1 false, [.tmp 17 true], none⟩,
          ⟨some 19, .call 31, [.tmp 16 true, .tmp 18 true], none⟩,
          ⟨some 20, .build [.nilSl, .nilSl, .nilSl, .int .i64 0] [(0, 1), (1, 1), (2, 1)], [.tmp 11 true, .tmp 15 true, .tmp 19 true], none⟩,
          ⟨some 5, .allocF 3 [.nilSl, .nilSl, .nilSl, .int .i64 0], [], none⟩,
          ⟨none, .storeF 3 4, [.tmp 5 false, .tmp 20 true], none⟩] (some []) [1])
        (.seq
          (.region [
            ⟨some 21, .fieldAddr 2, [.tmp 5 false], none⟩,
            ⟨some 22, .loadF 3 false 1 false, [.tmp 21 true], none⟩,
            ⟨some 23, .call 32, [.tmp 22 true, .const (.fn 33 [] [])], none⟩,
            ⟨some 24, .fieldAddr 3, [.tmp 5 false], none⟩,
            ⟨none, .storeF 3 1, [.tmp 24 true, .tmp 23 true], none⟩] none [])
          (.seq
            (.seq
              (.region [
                ⟨some 25, .fieldAddr 3, [.tmp 5 false], none⟩,
                ⟨some 26, .loadF 3 false 1 false, [.tmp 25 true], none⟩,
                ⟨some 27, .bin .lss, [.tmp 26 true, .const (.int .i64 0)], none⟩] none [])
              (.cond (.tmp 27 true) []
                (.region [
                  ⟨some 28, .move, [.tmp 4 false], none⟩,
                  ⟨some 29, .call 34, [.tmp 28 true, .const (.int .i64 0)], none⟩] none [29]) []
                .skip))
            (.seq
              (.seq
                (.region [
                  ⟨some 30, .move, [.tmp 4 false], none⟩,
                  ⟨some 31, .nilCheck, [.tmp 30 true], none⟩,
                  ⟨some 32, .fieldAddr 1, [.tmp 31 true], none⟩,
                  ⟨some 33, .fieldAddr 0, [.tmp 32 true], none⟩,
                  ⟨some 34, .load false 1 false, [.tmp 33 true], none⟩,
                  ⟨some 35, .bin .neq, [.tmp 34 true, .const (.int .i64 0)], none⟩] none [])
                (.cond (.tmp 35 true) [5]
                  (.seq
                    (.region [
                      ⟨some 36, .build [.nilSl, .nilSl, .nilSl, .int .i64 0] [], [], none⟩,
                      ⟨some 37, .move, [.tmp 4 true], none⟩,
                      ⟨some 38, .nilCheck, [.tmp 37 true], none⟩,
                      ⟨some 39, .fieldAddr 1, [.tmp 38 true], none⟩,
                      ⟨some 40, .load true 2 false, [.tmp 39 true], none⟩,
                      ⟨none, .storeF 1 4, [.tmp 2 false, .tmp 36 true], none⟩,
                      ⟨none, .storeF 2 2, [.tmp 3 false, .tmp 40 true], none⟩] (some []) [])
                    .ret) [4]
                  .skip))
              (.seq
                (.region [
                  ⟨some 41, .loadF 3 true 4 false, [.tmp 5 true], none⟩,
                  ⟨some 42, .build [.int .i64 0, .int .i64 0] [], [], none⟩,
                  ⟨none, .storeF 1 4, [.tmp 2 false, .tmp 41 true], none⟩,
                  ⟨none, .storeF 2 2, [.tmp 3 false, .tmp 42 true], none⟩] none [])
                .ret))))))) }

/-- runrig/runrigref7.Make -/
def s11_l0 : SCode :=
  (.seq
    (.seq
      (.region [
        ⟨some 29, .move, [.tmp 6 false], none⟩,
        ⟨some 30, .move, [.tmp 5 false], none⟩,
        ⟨some 31, .bin .lss, [.tmp 29 true, .tmp 30 true], none⟩] none [])
      (.cond (.tmp 31 true) []
        .skip [6]
        (.exit 2)))
    (.seq
      (.block 3
        (.seq
          (.region [
            ⟨some 34, .move, [.tmp 4 false], none⟩,
            ⟨some 35, .move, [.tmp 6 false], none⟩,
            ⟨some 36, .indexAddr 1, [.tmp 34 true, .tmp 35 true], none⟩,
            ⟨some 37, .load false 1 false, [.tmp 36 true], none⟩,
            ⟨some 38, .move, [.tmp 4 false], none⟩,
            ⟨some 39, .move, [.tmp 5 false], none⟩,
            ⟨some 40, .indexAddr 1, [.tmp 38 true, .tmp 39 true], none⟩,
            ⟨some 41, .load false 1 false, [.tmp 40 true], none⟩,
            ⟨some 42, .bin .eql, [.tmp 37 true, .tmp 41 true], none⟩] (some []) [])
          (.cond (.tmp 42 true) [4, 6]
            (.seq
              (.region [
                ⟨some 43, .build [.nilSl, .nilSl, .nilSl, .int .i64 0] [], [], none⟩,
                ⟨some 44, .fieldAddr 0, [.tmp 1 true], none⟩,
                ⟨some 45, .loadF 0 false 1 false, [.tmp 44 true], none⟩,
                ⟨some 46, .move, [.tmp 5 true], none⟩,
                ⟨some 47, .indexAddr 3, [.tmp 45 true, .tmp 46 true], none⟩,
                ⟨some 48, .fieldAddr 2, [.tmp 47 true], none⟩,
                ⟨some 49, .load false 1 false, [.tmp 48 true], none⟩,
                ⟨some 50, .call 36, [.tmp 49 true], none⟩,
                ⟨none, .storeF 1 4, [.tmp 2 false, .tmp 43 true], none⟩,
                ⟨none, .storeF 2 2, [.tmp 3 false, .tmp 50 true], none⟩] none [])
              .ret) []
            .skip)))
      (.region [
        ⟨some 32, .move, [.tmp 6 true], none⟩,
        ⟨some 33, .bin .add, [.tmp 32 true, .const (.int .i64 1)], none⟩,
        ⟨some 6, .move, [.tmp 33 true], none⟩] none [])))
def s11_l1 : SCode :=
  (.seq
    (.seq
      (.region [
        ⟨some 23, .move, [.tmp 5 false], none⟩,
        ⟨some 24, .move, [.tmp 4 false], none⟩,
        ⟨some 25, .len .sl, [.tmp 24 true], none⟩,
        ⟨some 26, .bin .lss, [.tmp 23 true, .tmp 25 true], none⟩] none [])
      (.cond (.tmp 26 true) []
        .skip [5]
        (.exit 0)))
    (.seq
      (.block 1
        (.seq
          (.region [
            ⟨some 6, .move, [.const (.int .i64 0)], none⟩] none [])
          (.block 2
            (.loop s11_l0))))
      (.region [
        ⟨some 27, .move, [.tmp 5 true], none⟩,
        ⟨some 28, .bin .add, [.tmp 27 true, .const (.int .i64 1)], none⟩,
        ⟨some 5, .move, [.tmp 28 true], none⟩] none [])))
def s11_l2 : SCode :=
  (.seq
    (.seq
      (.region [
        ⟨some 52, .move, [.tmp 8 false], none⟩,
        ⟨some 53, .fieldAddr 0, [.tmp 1 false], none⟩,
        ⟨some 54, .loadF 0 false 1 false, [.tmp 53 true], none⟩,
        ⟨some 55, .len .sl, [.tmp 54 true], none⟩,
        ⟨some 56, .bin .lss, [.tmp 52 true, .tmp 55 true], none⟩] none [])
      (.cond (.tmp 56 true) []
        .skip [8]
        (.exit 4)))
    (.seq
      (.block 5
        (.seq
          (.region [
            ⟨some 60, .move, [.tmp 4 false], none⟩,
            ⟨some 61, .fieldAddr 0, [.tmp 1 false], none⟩,
            ⟨some 62, .loadF 0 false 1 false, [.tmp 61 true], none⟩,
            ⟨some 63, .move, [.tmp 8 false], none⟩,
            ⟨some 64, .indexAddr 3, [.tmp 62 true, .tmp 63 true], none⟩,
            ⟨some 65, .fieldAddr 1, [.tmp 64 true], none⟩,
            ⟨some 66, .load false 1 false, [.tmp 65 true], none⟩,
            ⟨some 67, .call 37, [.tmp 60 true, .tmp 66 true], none⟩,
            ⟨some 59, .move, [.tmp 67 true], none⟩,
            ⟨some 68, .extract 0, [.tmp 59 false], none⟩,
            ⟨some 69, .extract 1, [.tmp 59 true], none⟩,
            ⟨some 10, .allocF 4 [.int .i64 0, .int .i64 0], [], none⟩,
            ⟨some 9, .move, [.tmp 68 true], none⟩,
            ⟨none, .storeF 4 2, [.tmp 10 false, .tmp 69 true], none⟩] none [])
          (.seq
            (.seq
              (.region [
                ⟨some 70, .fieldAddr 0, [.tmp 10 false], none⟩,
                ⟨some 71, .loadF 4 false 1 false, [.tmp 70 true], none⟩,
                ⟨some 72, .bin .neq, [.tmp 71 true, .const (.int .i64 0)], none⟩] none [])
              (.cond (.tmp 72 true) [1, 4, 7, 8, 9]
                (.seq
                  (.region [
                    ⟨some 73, .build [.nilSl, .nilSl, .nilSl, .int .i64 0] [], [], none⟩,
                    ⟨some 74, .loadF 4 true 2 false, [.tmp 10 true], none⟩,
                    ⟨none, .storeF 1 4, [.tmp 2 false, .tmp 73 true], none⟩,
                    ⟨none, .storeF 2 2, [.tmp 3 false, .tmp 74 true], none⟩] (some []) [])
                  .ret) [10]
                .skip))
            (.region [
              ⟨some 75, .fieldAddr 0, [.tmp 7 false], none⟩,
              ⟨some 76, .loadF 3 false 1 true, [.tmp 75 true], none⟩,
              ⟨some 77, .move, [.tmp 4 false], none⟩,
              ⟨some 78, .move, [.tmp 8 false], none⟩,
              ⟨some 79, .indexAddr 1, [.tmp 77 true, .tmp 78 true], none⟩,
              ⟨some 80, .load false 1 false, [.tmp 79 true], none⟩,
              ⟨some 81, .move, [.tmp 9 true], none⟩,
              ⟨some 82, .build [.str [], .nilSl] [(0, 1), (1, 1)], [.tmp 80 true, .tmp 81 true], none⟩,
              ⟨some 83, .lit 2 1 [.str [], .nilSl] [0], [.tmp 82 true], none⟩,
              ⟨some 84, .append 2 40, [.tmp 76 true, .tmp 83 true], none⟩,
              ⟨some 85, .fieldAddr 0, [.tmp 7 false], none⟩,
              ⟨none, .storeF 3 1, [.tmp 85 true, .tmp 84 true], none⟩] (some []) []))))
      (.region [
        ⟨some 57, .move, [.tmp 8 true], none⟩,
        ⟨some 58, .bin .add, [.tmp 57 true, .const (.int .i64 1)], none⟩,
        ⟨some 8, .move, [.tmp 58 true], none⟩] none [])))
def s11_l3 : SCode :=
  (.seq
    (.seq
      (.region [
        ⟨some 112, .move, [.tmp 15 false], none⟩,
        ⟨some 113, .move, [.tmp 13 false], none⟩,
        ⟨some 114, .bin .lss, [.tmp 112 true, .tmp 113 true], none⟩] none [])
      (.cond (.tmp 114 true) []
        .skip [15]
        (.exit 8)))
    (.seq
      (.block 9
        (.seq
          (.region [
            ⟨some 117, .fieldAddr 2, [.tmp 1 false], none⟩,
            ⟨some 118, .loadF 0 false 1 false, [.tmp 117 true], none⟩,
            ⟨some 119, .move, [.tmp 15 false], none⟩,
            ⟨some 120, .indexAddr 7, [.tmp 118 true, .tmp 119 true], none⟩,
            ⟨some 121, .fieldAddr 0, [.tmp 120 true], none⟩,
            ⟨some 122, .load false 1 false, [.tmp 121 true], none⟩,
            ⟨some 123, .fieldAddr 0, [.tmp 14 false], none⟩,
            ⟨some 124, .loadF 6 false 1 false, [.tmp 123 true], none⟩,
            ⟨some 125, .bin .eql, [.tmp 122 true, .tmp 124 true], none⟩] (some []) [])
          (.cond (.tmp 125 true) [1, 4, 7, 13, 15]
            (.seq
              (.region [
                ⟨some 126, .build [.nilSl, .nilSl, .nilSl, .int .i64 0] [], [], none⟩,
                ⟨some 127, .fieldAddr 6, [.tmp 14 true], none⟩,
                ⟨some 128, .loadF 6 false 1 false, [.tmp 127 true], none⟩,
                ⟨some 129, .call 36, [.tmp 128 true], none⟩,
                ⟨none, .storeF 1 4, [.tmp 2 false, .tmp 126 true], none⟩,
                ⟨none, .storeF 2 2, [.tmp 3 false, .tmp 129 true], none⟩] none [])
              .ret) []
            .skip)))
      (.region [
        ⟨some 115, .move, [.tmp 15 true], none⟩,
        ⟨some 116, .bin .add, [.tmp 115 true, .const (.int .i64 1)], none⟩,
        ⟨some 15, .move, [.tmp 116 true], none⟩] none [])))
def s11_l4 : SCode :=
  (.seq
    (.seq
      (.region [
        ⟨some 100, .move, [.tmp 13 false], none⟩,
        ⟨some 101, .fieldAddr 2, [.tmp 1 false], none⟩,
        ⟨some 102, .loadF 0 false 1 false, [.tmp 101 true], none⟩,
        ⟨some 103, .len .sl, [.tmp 102 true], none⟩,
        ⟨some 104, .bin .lss, [.tmp 100 true, .tmp 103 true], none⟩] none [])
      (.cond (.tmp 104 true) []
        .skip [1, 4, 13]
        (.exit 6)))
    (.seq
      (.block 7
        (.seq
          (.region [
            ⟨some 107, .fieldAddr 2, [.tmp 1 false], none⟩,
            ⟨some 108, .loadF 0 false 1 false, [.tmp 107 true], none⟩,
            ⟨some 109, .move, [.tmp 13 false], none⟩,
            ⟨some 110, .indexAddr 7, [.tmp 108 true, .tmp 109 true], none⟩,
            ⟨some 111, .load true 7 false, [.tmp 110 true], none⟩,
            ⟨some 14, .allocF 6 [.str [], .nilSl, .bool false, .str [], .int .i64 0, .nilSl, .int .i64 0], [], none⟩,
            ⟨none, .storeF 6 7, [.tmp 14 false, .tmp 111 true], none⟩] none [])
          (.seq
            (.seq
              (.region [
                ⟨some 15, .move, [.const (.int .i64 0)], none⟩] none [])
              (.block 8
                (.loop s11_l3)))
            (.seq
              (.region [
                ⟨some 131, .move, [.tmp 4 false], none⟩,
                ⟨some 132, .fieldAddr 1, [.tmp 14 false], none⟩,
                ⟨some 133, .loadF 6 false 1 false, [.tmp 132 true], none⟩,
                ⟨some 134, .call 37, [.tmp 131 true, .tmp 133 true], none⟩,
                ⟨some 130, .move, [.tmp 134 true], none⟩,
                ⟨some 135, .extract 0, [.tmp 130 false], none⟩,
                ⟨some 136, .extract 1, [.tmp 130 true], none⟩,
                ⟨some 17, .allocF 7 [.int .i64 0, .int .i64 0], [], none⟩,
                ⟨some 16, .move, [.tmp 135 true], none⟩,
                ⟨none, .storeF 7 2, [.tmp 17 false, .tmp 136 true], none⟩] none [])
              (.seq
                (.seq
                  (.region [
                    ⟨some 137, .fieldAddr 0, [.tmp 17 false], none⟩,
                    ⟨some 138, .loadF 7 false 1 false, [.tmp 137 true], none⟩,
                    ⟨some 139, .bin .neq, [.tmp 138 true, .const (.int .i64 0)], none⟩] none [])
                  (.cond (.tmp 139 true) [1, 4, 7, 13, 14, 16]
                    (.seq
                      (.region [
                        ⟨some 140, .build [.nilSl, .nilSl, .nilSl, .int .i64 0] [], [], none⟩,
                        ⟨some 141, .loadF 7 true 2 false, [.tmp 17 true], none⟩,
                        ⟨none, .storeF 1 4, [.tmp 2 false, .tmp 140 true], none⟩,
                        ⟨none, .storeF 2 2, [.tmp 3 false, .tmp 141 true], none⟩] (some []) [])
                      .ret) [17]
                    .skip))
                (.seq
                  (.region [
                    ⟨some 142, .fieldAddr 0, [.tmp 14 false], none⟩,
                    ⟨some 143, .loadF 6 false 1 false, [.tmp 142 true], none⟩,
                    ⟨some 144, .move, [.tmp 16 false], none⟩,
                    ⟨some 145, .fieldAddr 2, [.tmp 14 false], none⟩,
                    ⟨some 146, .loadF 6 false 1 false, [.tmp 145 true], none⟩,
                    ⟨some 147, .build [.str [], .nilSl, .bool false, .int .i64 0, .int .i64 0, .int .i64 0] [(0, 1), (1, 1), (2, 1)], [.tmp 143 true, .tmp 144 true, .tmp 146 true], none⟩,
                    ⟨some 18, .allocF 8 [.str [], .nilSl, .bool false, .int .i64 0, .int .i64 0, .int .i64 0], [], none⟩,
                    ⟨none, .storeF 8 6, [.tmp 18 false, .tmp 147 true], none⟩] none [])
                  (.seq
                    (.seq
                      (.region [
                        ⟨some 148, .fieldAddr 2, [.tmp 14 false], none⟩,
                        ⟨some 149, .loadF 6 false 1 false, [.tmp 148 true], none⟩] none [])
                      (.cond (.tmp 149 true) []
                        (.seq
                          (.region [
                            ⟨some 151, .move, [.tmp 4 false], none⟩,
                            ⟨some 152, .fieldAddr 3, [.tmp 14 false], none⟩,
                            ⟨some 153, .loadF 6 true 2 false, [.tmp 152 true], none⟩,
                            ⟨some 154, .call 16, [.tmp 151 true, .tmp 153 true], none⟩,
                            ⟨some 150, .move, [.tmp 154 true], none⟩,
                            ⟨some 155, .extract 0, [.tmp 150 false], none⟩,
                            ⟨some 156, .extract 1, [.tmp 150 true], none⟩,
                            ⟨some 19, .allocF 9 [.int .i64 0, .int .i64 0, .int .i64 0], [], none⟩,
                            ⟨none, .storeF 9 3, [.tmp 19 false, .tmp 155 true], none⟩,
                            ⟨some 20, .move, [.tmp 156 true], none⟩] none [])
                          (.seq
                            (.seq
                              (.region [
                                ⟨some 157, .move, [.tmp 20 true], none⟩,
                                ⟨some 158, .un .not, [.tmp 157 true], none⟩] none [])
                              (.cond (.tmp 158 true) [1, 4, 7, 13, 16, 18, 19]
                                (.seq
                                  (.region [
                                    ⟨some 159, .build [.nilSl, .nilSl, .nilSl, .int .i64 0] [], [], none⟩,
                                    ⟨some 160, .fieldAddr 6, [.tmp 14 true], none⟩,
                                    ⟨some 161, .loadF 6 false 1 false, [.tmp 160 true], none⟩,
                                    ⟨some 162, .call 36, [.tmp 161 true], none⟩,
                                    ⟨none, .storeF 1 4, [.tmp 2 false, .tmp 159 true], none⟩,
                                    ⟨none, .storeF 2 2, [.tmp 3 false, .tmp 162 true], none⟩] none [])
                                  .ret) []
                                .skip))
                            (.region [
                              ⟨some 163, .loadF 9 true 3 false, [.tmp 19 true], none⟩,
                              ⟨some 164, .fieldAddr 3, [.tmp 18 false], none⟩,
                              ⟨none, .storeF 8 3, [.tmp 164 true, .tmp 163 true], none⟩] none []))) []
                        .skip))
                    (.seq
                      (.seq
                        (.region [
                          ⟨some 165, .fieldAddr 0, [.tmp 14 false], none⟩,
                          ⟨some 166, .loadF 6 false 1 false, [.tmp 165 true], none⟩,
                          ⟨some 167, .bin .eql, [.tmp 166 true, .const (.str [109, 97, 105, 110])], none⟩,
                          ⟨some 168, .move, [.tmp 167 true], none⟩,
                          ⟨some 169, .move, [.tmp 16 true], some (168, true)⟩,
                          ⟨some 170, .len .sl, [.tmp 169 true], some (168, true)⟩,
                          ⟨some 171, .bin .eql, [.tmp 170 true, .const (.int .i64 0)], some (168, true)⟩,
                          ⟨some 172, .pick, [.tmp 168 true, .tmp 171 true, .const (.bool false)], none⟩,
                          ⟨some 173, .move, [.tmp 172 true], none⟩,
                          ⟨some 174, .fieldAddr 2, [.tmp 14 true], some (173, true)⟩,
                          ⟨some 175, .loadF 6 false 1 false, [.tmp 174 true], some (173, true)⟩,
                          ⟨some 176, .un .not, [.tmp 175 true], some (173, true)⟩,
                          ⟨some 177, .pick, [.tmp 173 true, .tmp 176 true, .const (.bool false)], none⟩] none [14, 16, 169, 170, 174, 175])
                        (.cond (.tmp 177 true) []
                          (.region [
                            ⟨some 178, .move, [.tmp 13 false], none⟩,
                            ⟨some 179, .fieldAddr 3, [.tmp 7 false], none⟩,
                            ⟨none, .storeF 3 1, [.tmp 179 true, .tmp 178 true], none⟩] none []) []
                          .skip))
                      (.region [
                        ⟨some 180, .fieldAddr 2, [.tmp 7 false], none⟩,
                        ⟨some 181, .loadF 3 false 1 true, [.tmp 180 true], none⟩,
                        ⟨some 182, .loadF 8 true 6 false, [.tmp 18 true], none⟩,
                        ⟨some 183, .lit 6 1 [.str [], .nilSl, .bool false, .int .i64 0, .int .i64 0, .int .i64 0] [0], [.tmp 182 true], none⟩,
                        ⟨some 184, .append 6 72, [.tmp 181 true, .tmp 183 true], none⟩,
                        ⟨some 185, .fieldAddr 2, [.tmp 7 false], none⟩,
                        ⟨none, .storeF 3 1, [.tmp 185 true, .tmp 184 true], none⟩] none [])))))))))
      (.region [
        ⟨some 105, .move, [.tmp 13 true], none⟩,
        ⟨some 106, .bin .add, [.tmp 105 true, .const (.int .i64 1)], none⟩,
        ⟨some 13, .move, [.tmp 106 true], none⟩] none [])))
def s11 : SFunc := { fid := 11, mode := .pure, nparams := 1, nboxes := 10, clr := [], results := [.box 2 1 4 true, .box 3 2 2 true], body :=
  (.seq
    (.region [
      ⟨some 1, .boxF 0 3, [.tmp 0 true], none⟩,
      ⟨some 2, .allocF 1 [.nilSl, .nilSl, .nilSl, .int .i64 0], [], none⟩,
      ⟨some 3, .allocF 2 [.int .i64 0, .int .i64 0], [], none⟩] none [])
    (.seq
      (.region [
        ⟨some 21, .loadF 0 true 3 false, [.tmp 1 false], none⟩,
        ⟨some 22, .call 35, [.tmp 21 true], none⟩,
        ⟨some 4, .move, [.tmp 22 true], none⟩] none [])
      (.seq
        (.seq
          (.region [
            ⟨some 5, .move, [.const (.int .i64 0)], none⟩] none [])
          (.block 0
            (.loop s11_l1)))
        (.seq
          (.region [
            ⟨some 51, .build [.nilSl, .nilSl, .nilSl, .int .i64 0] [(3, 1)], [.const (.int .i64 (-1))], none⟩,
            ⟨some 7, .allocF 3 [.nilSl, .nilSl, .nilSl, .int .i64 0], [], none⟩,
            ⟨none, .storeF 3 4, [.tmp 7 false, .tmp 51 true], none⟩] none [])
          (.seq
            (.seq
              (.region [
                ⟨some 8, .move, [.const (.int .i64 0)], none⟩] none [])
              (.block 4
                (.loop s11_l2)))
            (.seq
              (.region [
                ⟨some 87, .move, [.tmp 4 false], none⟩,
                ⟨some 88, .fieldAddr 1, [.tmp 1 false], none⟩,
                ⟨some 89, .loadF 0 false 1 false, [.tmp 88 true], none⟩,
                ⟨some 90, .call 37, [.tmp 87 true, .tmp 89 true], none⟩,
                ⟨some 86, .move, [.tmp 90 true], none⟩,
                ⟨some 91, .extract 0, [.tmp 86 false], none⟩,
                ⟨some 92, .extract 1, [.tmp 86 true], none⟩,
                ⟨some 12, .allocF 5 [.int .i64 0, .int .i64 0], [], none⟩,
                ⟨some 11, .move, [.tmp 91 true], none⟩,
                ⟨none, .storeF 5 2, [.tmp 12 false, .tmp 92 true], none⟩] none [])
              (.seq
                (.seq
                  (.region [
                    ⟨some 93, .fieldAddr 0, [.tmp 12 false], none⟩,
                    ⟨some 94, .loadF 5 false 1 false, [.tmp 93 true], none⟩,
                    ⟨some 95, .bin .neq, [.tmp 94 true, .const (.int .i64 0)], none⟩] none [])
                  (.cond (.tmp 95 true) [1, 4, 7, 11]
                    (.seq
                      (.region [
                        ⟨some 96, .build [.nilSl, .nilSl, .nilSl, .int .i64 0] [], [], none⟩,
                        ⟨some 97, .loadF 5 true 2 false, [.tmp 12 true], none⟩,
                        ⟨none, .storeF 1 4, [.tmp 2 false, .tmp 96 true], none⟩,
                        ⟨none, .storeF 2 2, [.tmp 3 false, .tmp 97 true], none⟩] (some []) [])
                      .ret) [12]
                    .skip))
                (.seq
                  (.region [
                    ⟨some 98, .move, [.tmp 11 true], none⟩,
                    ⟨some 99, .fieldAddr 1, [.tmp 7 false], none⟩,
                    ⟨none, .storeF 3 1, [.tmp 99 true, .tmp 98 true], none⟩] none [])
                  (.seq
                    (.seq
                      (.region [
                        ⟨some 13, .move, [.const (.int .i64 0)], none⟩] none [])
                      (.block 6
                        (.loop s11_l4)))
                    (.seq
                      (.seq
                        (.region [
                          ⟨some 186, .fieldAddr 3, [.tmp 7 false], none⟩,
                          ⟨some 187, .loadF 3 false 1 false, [.tmp 186 true], none⟩,
                          ⟨some 188, .bin .lss, [.tmp 187 true, .const (.int .i64 0)], none⟩] none [])
                        (.cond (.tmp 188 true) [7]
                          (.seq
                            (.region [
                              ⟨some 189, .build [.nilSl, .nilSl, .nilSl, .int .i64 0] [], [], none⟩,
                              ⟨some 190, .call 36, [.const (.int .i64 0)], none⟩,
                              ⟨none, .storeF 1 4, [.tmp 2 false, .tmp 189 true], none⟩,
                              ⟨none, .storeF 2 2, [.tmp 3 false, .tmp 190 true], none⟩] none [])
                            .ret) []
                          .skip))
                      (.seq
                        (.region [
                          ⟨some 191, .loadF 3 true 4 false, [.tmp 7 true], none⟩,
                          ⟨some 192, .build [.int .i64 0, .int .i64 0] [], [], none⟩,
                          ⟨none, .storeF 1 4, [.tmp 2 false, .tmp 191 true], none⟩,
                          ⟨none, .storeF 2 2, [.tmp 3 false, .tmp 192 true], none⟩] none [])
                        .ret))))))))))) }

/-- runrig/runrigref7.SameHeads -/
def s12_l0 : SCode :=
  (.seq
    (.seq
      (.region [
        ⟨some 38, .move, [.tmp 5 false], none⟩,
        ⟨some 39, .fieldAddr 0, [.tmp 2 false], none⟩,
        ⟨some 40, .loadF 0 false 1 false, [.tmp 39 true], none⟩,
        ⟨some 41, .len .sl, [.tmp 40 true], none⟩,
        ⟨some 42, .bin .lss, [.tmp 38 true, .tmp 41 true], none⟩] none [])
      (.cond (.tmp 42 true) []
        .skip [5]
        (.exit 0)))
    (.seq
      (.block 1
        (.seq
          (.region [
            ⟨some 45, .fieldAddr 0, [.tmp 2 false], none⟩,
            ⟨some 46, .loadF 0 false 1 false, [.tmp 45 true], none⟩,
            ⟨some 47, .move, [.tmp 5 false], none⟩,
            ⟨some 48, .indexAddr 2, [.tmp 46 true, .tmp 47 true], none⟩,
            ⟨some 49, .fieldAddr 0, [.tmp 48 true], none⟩,
            ⟨some 50, .load false 1 false, [.tmp 49 true], none⟩,
            ⟨some 51, .fieldAddr 0, [.tmp 3 false], none⟩,
            ⟨some 52, .loadF 1 false 1 false, [.tmp 51 true], none⟩,
            ⟨some 53, .move, [.tmp 5 false], none⟩,
            ⟨some 54, .indexAddr 2, [.tmp 52 true, .tmp 53 true], none⟩,
            ⟨some 55, .fieldAddr 0, [.tmp 54 true], none⟩,
            ⟨some 56, .load false 1 false, [.tmp 55 true], none⟩,
            ⟨some 57, .bin .neq, [.tmp 50 true, .tmp 56 true], none⟩,
            ⟨some 58, .move, [.tmp 57 true], none⟩,
            ⟨some 59, .fieldAddr 0, [.tmp 2 false], some (58, false)⟩,
            ⟨some 60, .loadF 0 false 1 false, [.tmp 59 true], some (58, false)⟩,
            ⟨some 61, .move, [.tmp 5 false], some (58, false)⟩,
            ⟨some 62, .indexAddr 2, [.tmp 60 true, .tmp 61 true], some (58, false)⟩,
            ⟨some 63, .fieldAddr 1, [.tmp 62 true], some (58, false)⟩,
            ⟨some 64, .load false 1 false, [.tmp 63 true], some (58, false)⟩,
            ⟨some 65, .fieldAddr 0, [.tmp 3 false], some (58, false)⟩,
            ⟨some 66, .loadF 1 false 1 false, [.tmp 65 true], some (58, false)⟩,
            ⟨some 67, .move, [.tmp 5 false], some (58, false)⟩,
            ⟨some 68, .indexAddr 2, [.tmp 66 true, .tmp 67 true], some (58, false)⟩,
            ⟨some 69, .fieldAddr 1, [.tmp 68 true], some (58, false)⟩,
            ⟨some 70, .load false 1 false, [.tmp 69 true], some (58, false)⟩,
            ⟨some 71, .call 38, [.tmp 64 true, .tmp 70 true], some (58, false)⟩,
            ⟨some 72, .un .not, [.tmp 71 true], some (58, false)⟩,
            ⟨some 73, .pick, [.tmp 58 false, .const (.bool true), .tmp 72 true], none⟩] (some []) [58, 59, 60, 61, 62, 63, 64, 65, 66, 67, 68, 69, 70, 71])
          (.cond (.tmp 73 true) [2, 3, 5]
            (.seq
              (.region [
                ⟨some 4, .move, [.const (.bool false)], none⟩] none [])
              .ret) []
            .skip)))
      (.region [
        ⟨some 43, .move, [.tmp 5 true], none⟩,
        ⟨some 44, .bin .add, [.tmp 43 true, .const (.int .i64 1)], none⟩,
        ⟨some 5, .move, [.tmp 44 true], none⟩] none [])))
def s12_l1 : SCode :=
  (.seq
    (.seq
      (.region [
        ⟨some 74, .move, [.tmp 6 false], none⟩,
        ⟨some 75, .fieldAddr 2, [.tmp 2 false], none⟩,
        ⟨some 76, .loadF 0 false 1 false, [.tmp 75 true], none⟩,
        ⟨some 77, .len .sl, [.tmp 76 true], none⟩,
        ⟨some 78, .bin .lss, [.tmp 74 true, .tmp 77 true], none⟩] none [])
      (.cond (.tmp 78 true) []
        .skip [2, 3, 6]
        (.exit 2)))
    (.seq
      (.block 3
        (.seq
          (.region [
            ⟨some 81, .fieldAddr 2, [.tmp 2 false], none⟩,
            ⟨some 82, .loadF 0 false 1 false, [.tmp 81 true], none⟩,
            ⟨some 83, .move, [.tmp 6 false], none⟩,
            ⟨some 84, .indexAddr 6, [.tmp 82 true, .tmp 83 true], none⟩,
            ⟨some 85, .fieldAddr 0, [.tmp 84 true], none⟩,
            ⟨some 86, .load false 1 false, [.tmp 85 true], none⟩,
            ⟨some 87, .fieldAddr 2, [.tmp 3 false], none⟩,
            ⟨some 88, .loadF 1 false 1 false, [.tmp 87 true], none⟩,
            ⟨some 89, .move, [.tmp 6 false], none⟩,
            ⟨some 90, .indexAddr 6, [.tmp 88 true, .tmp 89 true], none⟩,
            ⟨some 91, .fieldAddr 0, [.tmp 90 true], none⟩,
            ⟨some 92, .load false 1 false, [.tmp 91 true], none⟩,
            ⟨some 93, .bin .neq, [.tmp 86 true, .tmp 92 true], none⟩,
            ⟨some 94, .move, [.tmp 93 true], none⟩,
            ⟨some 95, .fieldAddr 2, [.tmp 2 false], some (94, false)⟩,
            ⟨some 96, .loadF 0 false 1 false, [.tmp 95 true], some (94, false)⟩,
            ⟨some 97, .move, [.tmp 6 false], some (94, false)⟩,
            ⟨some 98, .indexAddr 6, [.tmp 96 true, .tmp 97 true], some (94, false)⟩,
            ⟨some 99, .fieldAddr 2, [.tmp 98 true], some (94, false)⟩,
            ⟨some 100, .load false 1 false, [.tmp 99 true], some (94, false)⟩,
            ⟨some 101, .fieldAddr 2, [.tmp 3 false], some (94, false)⟩,
            ⟨some 102, .loadF 1 false 1 false, [.tmp 101 true], some (94, false)⟩,
            ⟨some 103, .move, [.tmp 6 false], some (94, false)⟩,
            ⟨some 104, .indexAddr 6, [.tmp 102 true, .tmp 103 true], some (94, false)⟩,
            ⟨some 105, .fieldAddr 2, [.tmp 104 true], some (94, false)⟩,
            ⟨some 106, .load false 1 false, [.tmp 105 true], some (94, false)⟩,
            ⟨some 107, .eqv (.sc .bool) true, [.tmp 100 true, .tmp 106 true], some (94, false)⟩,
            ⟨some 108, .pick, [.tmp 94 false, .const (.bool true), .tmp 107 true], none⟩,
            ⟨some 109, .move, [.tmp 108 true], none⟩,
            ⟨some 110, .fieldAddr 2, [.tmp 2 false], some (109, false)⟩,
            ⟨some 111, .loadF 0 false 1 false, [.tmp 110 true], some (109, false)⟩,
            ⟨some 112, .move, [.tmp 6 false], some (109, false)⟩,
            ⟨some 113, .indexAddr 6, [.tmp 111 true, .tmp 112 true], some (109, false)⟩,
            ⟨some 114, .fieldAddr 3, [.tmp 113 true], some (109, false)⟩,
            ⟨some 115, .load true 3 false, [.tmp 114 true], some (109, false)⟩,
            ⟨some 116, .fieldAddr 2, [.tmp 3 false], some (109, false)⟩,
            ⟨some 117, .loadF 1 false 1 false, [.tmp 116 true], some (109, false)⟩,
            ⟨some 118, .move, [.tmp 6 false], some (109, false)⟩,
            ⟨some 119, .indexAddr 6, [.tmp 117 true, .tmp 118 true], some (109, false)⟩,
            ⟨some 120, .fieldAddr 3, [.tmp 119 true], some (109, false)⟩,
            ⟨some 121, .load true 3 false, [.tmp 120 true], some (109, false)⟩,
            ⟨some 122, .eqv (.flat [.int, .int, .int]) true, [.tmp 115 true, .tmp 121 true], some (109, false)⟩,
            ⟨some 123, .pick, [.tmp 109 false, .const (.bool true), .tmp 122 true], none⟩,
            ⟨some 124, .move, [.tmp 123 true], none⟩,
            ⟨some 125, .fieldAddr 2, [.tmp 2 false], some (124, false)⟩,
            ⟨some 126, .loadF 0 false 1 false, [.tmp 125 true], some (124, false)⟩,
            ⟨some 127, .move, [.tmp 6 false], some (124, false)⟩,
            ⟨some 128, .indexAddr 6, [.tmp 126 true, .tmp 127 true], some (124, false)⟩,
            ⟨some 129, .fieldAddr 1, [.tmp 128 true], some (124, false)⟩,
            ⟨some 130, .load false 1 false, [.tmp 129 true], some (124, false)⟩,
            ⟨some 131, .fieldAddr 2, [.tmp 3 false], some (124, false)⟩,
            ⟨some 132, .loadF 1 false 1 false, [.tmp 131 true], some (124, false)⟩,
            ⟨some 133, .move, [.tmp 6 false], some (124, false)⟩,
            ⟨some 134, .indexAddr 6, [.tmp 132 true, .tmp 133 true], some (124, false)⟩,
            ⟨some 135, .fieldAddr 1, [.tmp 134 true], some (124, false)⟩,
            ⟨some 136, .load false 1 false, [.tmp 135 true], some (124, false)⟩,
            ⟨some 137, .call 38, [.tmp 130 true, .tmp 136 true], some (124, false)⟩,
            ⟨some 138, .un .not, [.tmp 137 true], some (124, false)⟩,
            ⟨some 139, .pick, [.tmp 124 false, .const (.bool true), .tmp 138 true], none⟩] (some []) [94, 95, 96, 97, 98, 99, 100, 101, 102, 103, 104, 105, 106, 109, 110, 111, 112, 113, 114, 115, 116, 117, 118, 119, 120, 121, 124, 125, 126, 127, 128, 129, 130, 131, 132, 133, 134, 135, 136, 137])
          (.cond (.tmp 139 true) [2, 3, 6]
            (.seq
              (.region [
                ⟨some 4, .move, [.const (.bool false)], none⟩] none [])
              .ret) []
            .skip)))
      (.region [
        ⟨some 79, .move, [.tmp 6 true], none⟩,
        ⟨some 80, .bin .add, [.tmp 79 true, .const (.int .i64 1)], none⟩,
        ⟨some 6, .move, [.tmp 80 true], none⟩] none [])))
def s12 : SFunc := { fid := 12, mode := .pure, nparams := 2, nboxes := 2, clr := [], results := [.tmp 4 false], body :=
  (.seq
    (.region [
      ⟨some 2, .boxF 0 4, [.tmp 0 true], none⟩,
      ⟨some 3, .boxF 1 4, [.tmp 1 true], none⟩,
      ⟨some 4, .move, [.const (.bool false)], none⟩] none [4])
    (.seq
      (.seq
        (.region [
          ⟨some 7, .fieldAddr 3, [.tmp 2 false], none⟩,
          ⟨some 8, .loadF 0 false 1 false, [.tmp 7 true], none⟩,
          ⟨some 9, .fieldAddr 3, [.tmp 3 false], none⟩,
          ⟨some 10, .loadF 1 false 1 false, [.tmp 9 true], none⟩,
          ⟨some 11, .bin .neq, [.tmp 8 true, .tmp 10 true], none⟩,
          ⟨some 12, .move, [.tmp 11 true], none⟩,
          ⟨some 13, .fieldAddr 0, [.tmp 2 false], some (12, false)⟩,
          ⟨some 14, .loadF 0 false 1 false, [.tmp 13 true], some (12, false)⟩,
          ⟨some 15, .len .sl, [.tmp 14 true], some (12, false)⟩,
          ⟨some 16, .fieldAddr 0, [.tmp 3 false], some (12, false)⟩,
          ⟨some 17, .loadF 1 false 1 false, [.tmp 16 true], some (12, false)⟩,
          ⟨some 18, .len .sl, [.tmp 17 true], some (12, false)⟩,
          ⟨some 19, .bin .neq, [.tmp 15 true, .tmp 18 true], some (12, false)⟩,
          ⟨some 20, .pick, [.tmp 12 true, .const (.bool true), .tmp 19 true], none⟩,
          ⟨some 21, .move, [.tmp 20 true], none⟩,
          ⟨some 22, .fieldAddr 2, [.tmp 2 false], some (21, false)⟩,
          ⟨some 23, .loadF 0 false 1 false, [.tmp 22 true], some (21, false)⟩,
          ⟨some 24, .len .sl, [.tmp 23 true], some (21, false)⟩,
          ⟨some 25, .fieldAddr 2, [.tmp 3 false], some (21, false)⟩,
          ⟨some 26, .loadF 1 false 1 false, [.tmp 25 true], some (21, false)⟩,
          ⟨some 27, .len .sl, [.tmp 26 true], some (21, false)⟩,
          ⟨some 28, .bin .neq, [.tmp 24 true, .tmp 27 true], some (21, false)⟩,
          ⟨some 29, .pick, [.tmp 21 true, .const (.bool true), .tmp 28 true], none⟩,
          ⟨some 30, .move, [.tmp 29 true], none⟩,
          ⟨some 31, .fieldAddr 1, [.tmp 2 false], some (30, false)⟩,
          ⟨some 32, .loadF 0 false 1 false, [.tmp 31 true], some (30, false)⟩,
          ⟨some 33, .fieldAddr 1, [.tmp 3 false], some (30, false)⟩,
          ⟨some 34, .loadF 1 false 1 false, [.tmp 33 true], some (30, false)⟩,
          ⟨some 35, .call 38, [.tmp 32 true, .tmp 34 true], some (30, false)⟩,
          ⟨some 36, .un .not, [.tmp 35 true], some (30, false)⟩,
          ⟨some 37, .pick, [.tmp 30 true, .const (.bool true), .tmp 36 true], none⟩] none [13, 14, 15, 16, 17, 18, 22, 23, 24, 25, 26, 27, 31, 32, 33, 34, 35])
        (.cond (.tmp 37 true) [2, 3]
          (.seq
            (.region [
              ⟨some 4, .move, [.const (.bool false)], none⟩] none [])
            .ret) []
          .skip))
      (.seq
        (.seq
          (.region [
            ⟨some 5, .move, [.const (.int .i64 0)], none⟩] none [])
          (.block 0
            (.loop s12_l0)))
        (.seq
          (.seq
            (.region [
              ⟨some 6, .move, [.const (.int .i64 0)], none⟩] none [])
            (.block 2
              (.loop s12_l1)))
          (.seq
            (.region [
              ⟨some 4, .move, [.const (.bool true)], none⟩] none [])
            .ret))))) }

/-- runrig/runriglaw7.known -/

def s13 : SFunc := { fid := 13, mode := .pure, nparams := 0, nboxes := 4, clr := [], results := [.tmp 0 false], body :=
  (.seq
    (.region [
      ⟨some 0, .move, [.const (.bool false)], none⟩] none [0])
    (.seq
      (.region [
        ⟨some 6, .call 9, [.const (.str [114, 101, 99, 111, 114, 100, 32, 65, 32, 123, 32, 97, 58, 32, 65, 59, 32, 98, 58, 32, 105, 110, 116, 59, 32, 125, 32, 103, 108, 111, 98, 97, 108, 32, 103, 58, 32, 91, 98, 111, 111, 108, 93, 59, 32, 102, 117, 110, 99, 32, 109, 97, 105, 110, 40, 41, 32, 123, 32, 125])], none⟩,
        ⟨some 5, .move, [.tmp 6 true], none⟩,
        ⟨some 7, .extract 0, [.tmp 5 false], none⟩,
        ⟨some 8, .extract 1, [.tmp 5 true], none⟩,
        ⟨some 1, .allocF 0 [.nilSl, .nilSl, .nilSl], [], none⟩,
        ⟨some 2, .allocF 1 [.int .i64 0, .int .i64 0], [], none⟩,
        ⟨none, .storeF 0 3, [.tmp 1 false, .tmp 7 true], none⟩,
        ⟨none, .storeF 1 2, [.tmp 2 true, .tmp 8 true], none⟩] none [])
      (.seq
        (.region [
          ⟨some 10, .loadF 0 true 3 false, [.tmp 1 true], none⟩,
          ⟨some 11, .call 10, [.tmp 10 true], none⟩,
          ⟨some 9, .move, [.tmp 11 true], none⟩,
          ⟨some 12, .extract 0, [.tmp 9 false], none⟩,
          ⟨some 13, .extract 1, [.tmp 9 true], none⟩,
          ⟨some 3, .allocF 2 [.nilSl, .nilSl, .nilSl, .int .i64 0], [], none⟩,
          ⟨some 4, .allocF 3 [.int .i64 0, .int .i64 0], [], none⟩,
          ⟨none, .storeF 2 4, [.tmp 3 false, .tmp 12 true], none⟩,
          ⟨none, .storeF 3 2, [.tmp 4 false, .tmp 13 true], none⟩] none [])
        (.seq
          (.region [
            ⟨some 14, .fieldAddr 0, [.tmp 4 true], none⟩,
            ⟨some 15, .loadF 3 false 1 false, [.tmp 14 true], none⟩,
            ⟨some 16, .bin .eql, [.tmp 15 true, .const (.int .i64 0)], none⟩,
            ⟨some 17, .move, [.tmp 16 true], none⟩,
            ⟨some 18, .fieldAddr 0, [.tmp 3 false], some (17, true)⟩,
            ⟨some 19, .loadF 2 false 1 false, [.tmp 18 true], some (17, true)⟩,
            ⟨some 20, .len .sl, [.tmp 19 true], some (17, true)⟩,
            ⟨some 21, .bin .eql, [.tmp 20 true, .const (.int .i64 1)], some (17, true)⟩,
            ⟨some 22, .pick, [.tmp 17 true, .tmp 21 true, .const (.bool false)], none⟩,
            ⟨some 23, .move, [.tmp 22 true], none⟩,
            ⟨some 24, .fieldAddr 0, [.tmp 3 false], some (23, true)⟩,
            ⟨some 25, .loadF 2 false 1 false, [.tmp 24 true], some (23, true)⟩,
            ⟨some 26, .indexAddr 2, [.tmp 25 true, .const (.int .i64 0)], some (23, true)⟩,
            ⟨some 27, .fieldAddr 1, [.tmp 26 true], some (23, true)⟩,
            ⟨some 28, .load false 1 false, [.tmp 27 true], some (23, true)⟩,
            ⟨some 29, .len .sl, [.tmp 28 true], some (23, true)⟩,
            ⟨some 30, .bin .eql, [.tmp 29 true, .const (.int .i64 2)], some (23, true)⟩,
            ⟨some 31, .pick, [.tmp 23 true, .tmp 30 true, .const (.bool false)], none⟩,
            ⟨some 32, .move, [.tmp 31 true], none⟩,
            ⟨some 33, .fieldAddr 1, [.tmp 3 false], some (32, true)⟩,
            ⟨some 34, .loadF 2 false 1 false, [.tmp 33 true], some (32, true)⟩,
            ⟨some 35, .len .sl, [.tmp 34 true], some (32, true)⟩,
            ⟨some 36, .bin .eql, [.tmp 35 true, .const (.int .i64 1)], some (32, true)⟩,
            ⟨some 37, .pick, [.tmp 32 true, .tmp 36 true, .const (.bool false)], none⟩,
            ⟨some 38, .move, [.tmp 37 true], none⟩,
            ⟨some 39, .fieldAddr 0, [.tmp 3 false], some (38, true)⟩,
            ⟨some 40, .loadF 2 false 1 false, [.tmp 39 true], some (38, true)⟩,
            ⟨some 41, .indexAddr 2, [.tmp 40 true, .const (.int .i64 0)], some (38, true)⟩,
            ⟨some 42, .fieldAddr 1, [.tmp 41 true], some (38, true)⟩,
            ⟨some 43, .load false 1 false, [.tmp 42 true], some (38, true)⟩,
            ⟨some 44, .indexAddr 4, [.tmp 43 true, .const (.int .i64 0)], some (38, true)⟩,
            ⟨some 45, .fieldAddr 1, [.tmp 44 true], some (38, true)⟩,
            ⟨some 46, .load true 3 false, [.tmp 45 true], some (38, true)⟩,
            ⟨some 47, .build [.int .i64 0, .int .i64 0, .int .i64 0] [(0, 1)], [.const (.int .i64 3)], some (38, true)⟩,
            ⟨some 48, .eqv (.flat [.int, .int, .int]) false, [.tmp 46 true, .tmp 47 true], some (38, true)⟩,
            ⟨some 49, .pick, [.tmp 38 true, .tmp 48 true, .const (.bool false)], none⟩,
            ⟨some 50, .move, [.tmp 49 true], none⟩,
            ⟨some 51, .fieldAddr 1, [.tmp 3 true], some (50, true)⟩,
            ⟨some 52, .loadF 2 false 1 false, [.tmp 51 true], some (50, true)⟩,
            ⟨some 53, .indexAddr 4, [.tmp 52 true, .const (.int .i64 0)], some (50, true)⟩,
            ⟨some 54, .fieldAddr 1, [.tmp 53 true], some (50, true)⟩,
            ⟨some 55, .load true 3 false, [.tmp 54 true], some (50, true)⟩,
            ⟨some 56, .build [.int .i64 0, .int .i64 0, .int .i64 0] [(0, 1), (2, 1)], [.const (.int .i64 2), .const (.int .i64 1)], some (50, true)⟩,
            ⟨some 57, .eqv (.flat [.int, .int, .int]) false, [.tmp 55 true, .tmp 56 true], some (50, true)⟩,
            ⟨some 58, .pick, [.tmp 50 true, .tmp 57 true, .const (.bool false)], none⟩,
            ⟨some 59, .move, [.tmp 58 true], none⟩,
            ⟨some 60, .build [.int .i64 0, .int .i64 0, .int .i64 0] [(0, 1), (2, 1)], [.const (.int .i64 1), .const (.int .i64 1)], some (59, true)⟩,
            ⟨some 61, .call 17, [.tmp 60 true], some (59, true)⟩,
            ⟨some 62, .pick, [.tmp 59 true, .tmp 61 true, .const (.bool false)], none⟩,
            ⟨some 63, .move, [.tmp 62 true], none⟩,
            ⟨some 64, .build [.int .i64 0, .int .i64 0, .int .i64 0] [(0, 1)], [.const (.int .i64 1)], some (63, true)⟩,
            ⟨some 65, .call 17, [.tmp 64 true], some (63, true)⟩,
            ⟨some 66, .un .not, [.tmp 65 true], some (63, true)⟩,
            ⟨some 67, .pick, [.tmp 63 true, .tmp 66 true, .const (.bool false)], none⟩,
            ⟨some 0, .move, [.tmp 67 true], none⟩] none [3, 18, 19, 20, 24, 25, 26, 27, 28, 29, 33, 34, 35, 39, 40, 41, 42, 43, 44, 45, 46, 47, 51, 52, 53, 54, 55, 56, 60, 64, 65])
          .ret)))) }

/-- runrig/runriglaw7.great -/
def s14_l0 : SCode :=
  (.seq
    (.seq
      (.region [
        ⟨some 21, .move, [.tmp 3 false], none⟩,
        ⟨some 22, .fieldAddr 0, [.tmp 1 false], none⟩,
        ⟨some 23, .loadF 0 false 1 false, [.tmp 22 true], none⟩,
        ⟨some 24, .len .sl, [.tmp 23 true], none⟩,
        ⟨some 25, .bin .lss, [.tmp 21 true, .tmp 24 true], none⟩] none [])
      (.cond (.tmp 25 true) []
        .skip [3]
        (.exit 0)))
    (.seq
      (.block 1
        (.seq
          (.region [
            ⟨some 28, .fieldAddr 0, [.tmp 1 false], none⟩,
            ⟨some 29, .loadF 0 false 1 false, [.tmp 28 true], none⟩,
            ⟨some 30, .move, [.tmp 3 false], none⟩,
            ⟨some 31, .indexAddr 3, [.tmp 29 true, .tmp 30 true], none⟩,
            ⟨some 32, .fieldAddr 1, [.tmp 31 true], none⟩,
            ⟨some 33, .load false 1 false, [.tmp 32 true], none⟩,
            ⟨some 34, .len .sl, [.tmp 33 true], none⟩,
            ⟨some 35, .bin .gtr, [.tmp 34 true, .const (.int .i64 20)], none⟩] none [])
          (.cond (.tmp 35 true) [1, 3]
            (.seq
              (.region [
                ⟨some 2, .move, [.const (.bool true)], none⟩] none [])
              .ret) []
            .skip)))
      (.region [
        ⟨some 26, .move, [.tmp 3 true], none⟩,
        ⟨some 27, .bin .add, [.tmp 26 true, .const (.int .i64 1)], none⟩,
        ⟨some 3, .move, [.tmp 27 true], none⟩] none [])))
def s14_l1 : SCode :=
  (.seq
    (.seq
      (.region [
        ⟨some 36, .move, [.tmp 4 false], none⟩,
        ⟨some 37, .fieldAddr 2, [.tmp 1 false], none⟩,
        ⟨some 38, .loadF 0 false 1 false, [.tmp 37 true], none⟩,
        ⟨some 39, .len .sl, [.tmp 38 true], none⟩,
        ⟨some 40, .bin .lss, [.tmp 36 true, .tmp 39 true], none⟩] none [])
      (.cond (.tmp 40 true) []
        .skip [1, 4]
        (.exit 2)))
    (.seq
      (.block 3
        (.seq
          (.region [
            ⟨some 43, .fieldAddr 2, [.tmp 1 false], none⟩,
            ⟨some 44, .loadF 0 false 1 false, [.tmp 43 true], none⟩,
            ⟨some 45, .move, [.tmp 4 false], none⟩,
            ⟨some 46, .indexAddr 7, [.tmp 44 true, .tmp 45 true], none⟩,
            ⟨some 47, .fieldAddr 1, [.tmp 46 true], none⟩,
            ⟨some 48, .load false 1 false, [.tmp 47 true], none⟩,
            ⟨some 49, .len .sl, [.tmp 48 true], none⟩,
            ⟨some 50, .bin .gtr, [.tmp 49 true, .const (.int .i64 20)], none⟩] none [])
          (.cond (.tmp 50 true) [1, 4]
            (.seq
              (.region [
                ⟨some 2, .move, [.const (.bool true)], none⟩] none [])
              .ret) []
            .skip)))
      (.region [
        ⟨some 41, .move, [.tmp 4 true], none⟩,
        ⟨some 42, .bin .add, [.tmp 41 true, .const (.int .i64 1)], none⟩,
        ⟨some 4, .move, [.tmp 42 true], none⟩] none [])))
def s14 : SFunc := { fid := 14, mode := .pure, nparams := 1, nboxes := 1, clr := [], results := [.tmp 2 false], body :=
  (.seq
    (.region [
      ⟨some 1, .boxF 0 3, [.tmp 0 true], none⟩,
      ⟨some 2, .move, [.const (.bool false)], none⟩] none [2])
    (.seq
      (.seq
        (.region [
          ⟨some 5, .fieldAddr 0, [.tmp 1 false], none⟩,
          ⟨some 6, .loadF 0 false 1 false, [.tmp 5 true], none⟩,
          ⟨some 7, .len .sl, [.tmp 6 true], none⟩,
          ⟨some 8, .bin .gtr, [.tmp 7 true, .const (.int .i64 20)], none⟩,
          ⟨some 9, .move, [.tmp 8 true], none⟩,
          ⟨some 10, .fieldAddr 1, [.tmp 1 false], some (9, false)⟩,
          ⟨some 11, .loadF 0 false 1 false, [.tmp 10 true], some (9, false)⟩,
          ⟨some 12, .len .sl, [.tmp 11 true], some (9, false)⟩,
          ⟨some 13, .bin .gtr, [.tmp 12 true, .const (.int .i64 20)], some (9, false)⟩,
          ⟨some 14, .pick, [.tmp 9 true, .const (.bool true), .tmp 13 true], none⟩,
          ⟨some 15, .move, [.tmp 14 true], none⟩,
          ⟨some 16, .fieldAddr 2, [.tmp 1 false], some (15, false)⟩,
          ⟨some 17, .loadF 0 false 1 false, [.tmp 16 true], some (15, false)⟩,
          ⟨some 18, .len .sl, [.tmp 17 true], some (15, false)⟩,
          ⟨some 19, .bin .gtr, [.tmp 18 true, .const (.int .i64 20)], some (15, false)⟩,
          ⟨some 20, .pick, [.tmp 15 true, .const (.bool true), .tmp 19 true], none⟩] none [10, 11, 12, 16, 17, 18])
        (.cond (.tmp 20 true) [1]
          (.seq
            (.region [
              ⟨some 2, .move, [.const (.bool true)], none⟩] none [])
            .ret) []
          .skip))
      (.seq
        (.seq
          (.region [
            ⟨some 3, .move, [.const (.int .i64 0)], none⟩] none [])
          (.block 0
            (.loop s14_l0)))
        (.seq
          (.seq
            (.region [
              ⟨some 4, .move, [.const (.int .i64 0)], none⟩] none [])
            (.block 2
              (.loop s14_l1)))
          (.seq
            (.region [
              ⟨some 2, .move, [.const (.bool false)], none⟩] none [])
            .ret))))) }

/-- runrig/heads.Type -/

def s15 : SFunc := { fid := 15, mode := .pure, nparams := 2, nboxes := 2, clr := [], results := [.box 4 1 3 true, .tmp 5 false], body :=
  (.seq
    (.region [
      ⟨some 3, .boxF 0 2, [.tmp 1 true], none⟩,
      ⟨some 4, .allocF 1 [.int .i64 0, .int .i64 0, .int .i64 0], [], none⟩,
      ⟨some 5, .move, [.const (.bool false)], none⟩] none [5])
    (.seq
      (.seq
        (.region [
          ⟨some 7, .fieldAddr 1, [.tmp 3 false], none⟩,
          ⟨some 8, .loadF 0 false 1 false, [.tmp 7 true], none⟩,
          ⟨some 9, .bin .lss, [.tmp 8 true, .const (.int .i64 0)], none⟩,
          ⟨some 10, .move, [.tmp 9 true], none⟩,
          ⟨some 11, .fieldAddr 1, [.tmp 3 false], some (10, false)⟩,
          ⟨some 12, .loadF 0 false 1 false, [.tmp 11 true], some (10, false)⟩,
          ⟨some 13, .bin .gtr, [.tmp 12 true, .const (.int .i64 3)], some (10, false)⟩,
          ⟨some 14, .pick, [.tmp 10 true, .const (.bool true), .tmp 13 true], none⟩] none [11, 12])
        (.cond (.tmp 14 true) [0, 3]
          (.seq
            (.region [
              ⟨some 15, .build [.int .i64 0, .int .i64 0, .int .i64 0] [], [], none⟩,
              ⟨none, .storeF 1 3, [.tmp 4 false, .tmp 15 true], none⟩,
              ⟨some 5, .move, [.const (.bool false)], none⟩] none [])
            .ret) []
          .skip))
      (.seq
        (.seq
          (.region [
            ⟨some 16, .fieldAddr 0, [.tmp 3 false], none⟩,
            ⟨some 17, .loadF 0 false 1 false, [.tmp 16 true], none⟩] none [])
          (.block 0
            (.seq
              (.region [
                ⟨some 19, .bin .eql, [.tmp 17 false, .const (.str [105, 110, 116])], none⟩,
                ⟨some 18, .move, [.tmp 19 true], none⟩] none [])
              (.cond (.tmp 18 true) [0, 17]
                (.seq
                  (.region [
                    ⟨some 20, .fieldAddr 1, [.tmp 3 true], none⟩,
                    ⟨some 21, .loadF 0 false 1 false, [.tmp 20 true], none⟩,
                    ⟨some 22, .build [.int .i64 0, .int .i64 0, .int .i64 0] [(0, 1), (2, 1)], [.const (.int .i64 1), .tmp 21 true], none⟩,
                    ⟨none, .storeF 1 3, [.tmp 4 false, .tmp 22 true], none⟩,
                    ⟨some 5, .move, [.const (.bool true)], none⟩] none [])
                  .ret) []
                (.seq
                  (.region [
                    ⟨some 24, .bin .eql, [.tmp 17 true, .const (.str [98, 111, 111, 108])], none⟩,
                    ⟨some 23, .move, [.tmp 24 true], none⟩] none [])
                  (.cond (.tmp 23 true) [0]
                    (.seq
                      (.region [
                        ⟨some 25, .fieldAddr 1, [.tmp 3 true], none⟩,
                        ⟨some 26, .loadF 0 false 1 false, [.tmp 25 true], none⟩,
                        ⟨some 27, .build [.int .i64 0, .int .i64 0, .int .i64 0] [(0, 1), (2, 1)], [.const (.int .i64 2), .tmp 26 true], none⟩,
                        ⟨none, .storeF 1 3, [.tmp 4 false, .tmp 27 true], none⟩,
                        ⟨some 5, .move, [.const (.bool true)], none⟩] none [])
                      .ret) []
                    .skip))))))
        (.seq
          (.region [
            ⟨some 28, .move, [.tmp 0 true], none⟩,
            ⟨some 29, .fieldAddr 0, [.tmp 3 false], none⟩,
            ⟨some 30, .loadF 0 false 1 false, [.tmp 29 true], none⟩,
            ⟨some 31, .call 39, [.tmp 28 true, .tmp 30 true], none⟩,
            ⟨some 6, .move, [.tmp 31 true], none⟩] none [])
          (.seq
            (.seq
              (.region [
                ⟨some 32, .move, [.tmp 6 false], none⟩,
                ⟨some 33, .bin .lss, [.tmp 32 true, .const (.int .i64 0)], none⟩] none [])
              (.cond (.tmp 33 true) [3, 6]
                (.seq
                  (.region [
                    ⟨some 34, .build [.int .i64 0, .int .i64 0, .int .i64 0] [], [], none⟩,
                    ⟨none, .storeF 1 3, [.tmp 4 false, .tmp 34 true], none⟩,
                    ⟨some 5, .move, [.const (.bool false)], none⟩] none [])
                  .ret) []
                .skip))
            (.seq
              (.region [
                ⟨some 35, .move, [.tmp 6 true], none⟩,
                ⟨some 36, .fieldAddr 1, [.tmp 3 true], none⟩,
                ⟨some 37, .loadF 0 false 1 false, [.tmp 36 true], none⟩,
                ⟨some 38, .build [.int .i64 0, .int .i64 0, .int .i64 0] [(0, 1), (1, 1), (2, 1)], [.const (.int .i64 3), .tmp 35 true, .tmp 37 true], none⟩,
                ⟨none, .storeF 1 3, [.tmp 4 false, .tmp 38 true], none⟩,
                ⟨some 5, .move, [.const (.bool true)], none⟩] none [])
              .ret)))))) }

/-- runrig/runrigref7.Type -/
def s16_l0 : SCode :=
  (.seq
    (.seq
      (.region [
        ⟨some 28, .move, [.tmp 6 false], none⟩,
        ⟨some 29, .move, [.tmp 0 false], none⟩,
        ⟨some 30, .len .sl, [.tmp 29 true], none⟩,
        ⟨some 31, .bin .lss, [.tmp 28 true, .tmp 30 true], none⟩] none [])
      (.cond (.tmp 31 true) []
        .skip [0, 3, 6]
        (.exit 1)))
    (.seq
      (.block 2
        (.seq
          (.region [
            ⟨some 34, .move, [.tmp 0 false], none⟩,
            ⟨some 35, .move, [.tmp 6 false], none⟩,
            ⟨some 36, .indexAddr 1, [.tmp 34 true, .tmp 35 true], none⟩,
            ⟨some 37, .load false 1 false, [.tmp 36 true], none⟩,
            ⟨some 38, .fieldAddr 0, [.tmp 3 false], none⟩,
            ⟨some 39, .loadF 0 false 1 false, [.tmp 38 true], none⟩,
            ⟨some 40, .bin .eql, [.tmp 37 true, .tmp 39 true], none⟩] (some []) [])
          (.cond (.tmp 40 true) [0]
            (.seq
              (.region [
                ⟨some 41, .move, [.tmp 6 true], none⟩,
                ⟨some 42, .fieldAddr 1, [.tmp 3 true], none⟩,
                ⟨some 43, .loadF 0 false 1 false, [.tmp 42 true], none⟩,
                ⟨some 44, .build [.int .i64 0, .int .i64 0, .int .i64 0] [(0, 1), (1, 1), (2, 1)], [.const (.int .i64 3), .tmp 41 true, .tmp 43 true], none⟩,
                ⟨none, .storeF 1 3, [.tmp 4 false, .tmp 44 true], none⟩,
                ⟨some 5, .move, [.const (.bool true)], none⟩] none [])
              .ret) []
            .skip)))
      (.region [
        ⟨some 32, .move, [.tmp 6 true], none⟩,
        ⟨some 33, .bin .add, [.tmp 32 true, .const (.int .i64 1)], none⟩,
        ⟨some 6, .move, [.tmp 33 true], none⟩] none [])))
def s16 : SFunc := { fid := 16, mode := .pure, nparams := 2, nboxes := 2, clr := [], results := [.box 4 1 3 true, .tmp 5 false], body :=
  (.seq
    (.region [
      ⟨some 3, .boxF 0 2, [.tmp 1 true], none⟩,
      ⟨some 4, .allocF 1 [.int .i64 0, .int .i64 0, .int .i64 0], [], none⟩,
      ⟨some 5, .move, [.const (.bool false)], none⟩] none [5])
    (.seq
      (.seq
        (.region [
          ⟨some 7, .fieldAddr 1, [.tmp 3 false], none⟩,
          ⟨some 8, .loadF 0 false 1 false, [.tmp 7 true], none⟩,
          ⟨some 9, .bin .lss, [.tmp 8 true, .const (.int .i64 0)], none⟩,
          ⟨some 10, .move, [.tmp 9 true], none⟩,
          ⟨some 11, .fieldAddr 1, [.tmp 3 false], some (10, false)⟩,
          ⟨some 12, .loadF 0 false 1 false, [.tmp 11 true], some (10, false)⟩,
          ⟨some 13, .bin .gtr, [.tmp 12 true, .const (.int .i64 3)], some (10, false)⟩,
          ⟨some 14, .pick, [.tmp 10 true, .const (.bool true), .tmp 13 true], none⟩] none [11, 12])
        (.cond (.tmp 14 true) [0, 3]
          (.seq
            (.region [
              ⟨some 15, .build [.int .i64 0, .int .i64 0, .int .i64 0] [], [], none⟩,
              ⟨none, .storeF 1 3, [.tmp 4 false, .tmp 15 true], none⟩,
              ⟨some 5, .move, [.const (.bool false)], none⟩] none [])
            .ret) []
          .skip))
      (.seq
        (.seq
          (.region [
            ⟨some 16, .fieldAddr 0, [.tmp 3 false], none⟩,
            ⟨some 17, .loadF 0 false 1 false, [.tmp 16 true], none⟩] none [])
          (.block 0
            (.seq
              (.region [
                ⟨some 19, .bin .eql, [.tmp 17 false, .const (.str [105, 110, 116])], none⟩,
                ⟨some 18, .move, [.tmp 19 true], none⟩] none [])
              (.cond (.tmp 18 true) [0, 17]
                (.seq
                  (.region [
                    ⟨some 20, .fieldAddr 1, [.tmp 3 true], none⟩,
                    ⟨some 21, .loadF 0 false 1 false, [.tmp 20 true], none⟩,
                    ⟨some 22, .build [.int .i64 0, .int .i64 0, .int .i64 0] [(0, 1), (2, 1)], [.const (.int .i64 1), .tmp 21 true], none⟩,
                    ⟨none, .storeF 1 3, [.tmp 4 false, .tmp 22 true], none⟩,
                    ⟨some 5, .move, [.const (.bool true)], none⟩] none [])
                  .ret) []
                (.seq
                  (.region [
                    ⟨some 24, .bin .eql, [.tmp 17 true, .const (.str [98, 111, 111, 108])], none⟩,
                    ⟨some 23, .move, [.tmp 24 true], none⟩] none [])
                  (.cond (.tmp 23 true) [0]
                    (.seq
                      (.region [
                        ⟨some 25, .fieldAddr 1, [.tmp 3 true], none⟩,
                        ⟨some 26, .loadF 0 false 1 false, [.tmp 25 true], none⟩,
                        ⟨some 27, .build [.int .i64 0, .int .i64 0, .int .i64 0] [(0, 1), (2, 1)], [.const (.int .i64 2), .tmp 26 true], none⟩,
                        ⟨none, .storeF 1 3, [.tmp 4 false, .tmp 27 true], none⟩,
                        ⟨some 5, .move, [.const (.bool true)], none⟩] none [])
                      .ret) []
                    .skip))))))
        (.seq
          (.seq
            (.region [
              ⟨some 6, .move, [.const (.int .i64 0)], none⟩] none [])
            (.block 1
              (.loop s16_l0)))
          (.seq
            (.region [
              ⟨some 45, .build [.int .i64 0, .int .i64 0, .int .i64 0] [], [], none⟩,
              ⟨none, .storeF 1 3, [.tmp 4 false, .tmp 45 true], none⟩,
              ⟨some 5, .move, [.const (.bool false)], none⟩] none [])
            .ret))))) }

/-- runrig/heads.Ref -/

def s17 : SFunc := { fid := 17, mode := .pure, nparams := 1, nboxes := 1, clr := [], results := [.tmp 2 false], body :=
  (.seq
    (.region [
      ⟨some 1, .boxF 0 3, [.tmp 0 true], none⟩,
      ⟨some 2, .move, [.const (.bool false)], none⟩] none [2])
    (.seq
      (.region [
        ⟨some 3, .fieldAddr 0, [.tmp 1 false], none⟩,
        ⟨some 4, .loadF 0 false 1 false, [.tmp 3 true], none⟩,
        ⟨some 5, .bin .eql, [.tmp 4 true, .const (.int .i64 3)], none⟩,
        ⟨some 6, .move, [.tmp 5 true], none⟩,
        ⟨some 7, .fieldAddr 2, [.tmp 1 true], some (6, false)⟩,
        ⟨some 8, .loadF 0 false 1 false, [.tmp 7 true], some (6, false)⟩,
        ⟨some 9, .bin .gtr, [.tmp 8 true, .const (.int .i64 0)], some (6, false)⟩,
        ⟨some 10, .pick, [.tmp 6 true, .const (.bool true), .tmp 9 true], none⟩,
        ⟨some 2, .move, [.tmp 10 true], none⟩] none [1, 7, 8])
      .ret)) }

/-- runrig/runrigref7.Ref -/

def s18 : SFunc := { fid := 18, mode := .pure, nparams := 1, nboxes := 1, clr := [], results := [.tmp 2 false], body :=
  (.seq
    (.region [
      ⟨some 1, .boxF 0 3, [.tmp 0 true], none⟩,
      ⟨some 2, .move, [.const (.bool false)], none⟩] none [2])
    (.seq
      (.region [
        ⟨some 3, .fieldAddr 0, [.tmp 1 false], none⟩,
        ⟨some 4, .loadF 0 false 1 false, [.tmp 3 true], none⟩,
        ⟨some 5, .bin .eql, [.tmp 4 true, .const (.int .i64 3)], none⟩,
        ⟨some 6, .move, [.tmp 5 true], none⟩,
        ⟨some 7, .fieldAddr 2, [.tmp 1 true], some (6, false)⟩,
        ⟨some 8, .loadF 0 false 1 false, [.tmp 7 true], some (6, false)⟩,
        ⟨some 9, .bin .gtr, [.tmp 8 true, .const (.int .i64 0)], some (6, false)⟩,
        ⟨some 10, .pick, [.tmp 6 true, .const (.bool true), .tmp 9 true], none⟩,
        ⟨some 2, .move, [.tmp 10 true], none⟩] none [1, 7, 8])
      .ret)) }

/-- runrig/runriglaw7.turned -/

def s19 : SFunc := { fid := 19, mode := .pure, nparams := 2, nboxes := 2, clr := [], results := [.box 4 1 3 true], body :=
  (.seq
    (.region [
      ⟨some 2, .boxF 0 3, [.tmp 0 true], none⟩,
      ⟨some 4, .allocF 1 [.int .i64 0, .int .i64 0, .int .i64 0], [], none⟩] none [])
    (.seq
      (.seq
        (.region [
          ⟨some 5, .fieldAddr 0, [.tmp 2 false], none⟩,
          ⟨some 6, .loadF 0 false 1 false, [.tmp 5 true], none⟩,
          ⟨some 7, .bin .eql, [.tmp 6 true, .const (.int .i64 3)], none⟩] none [])
        (.cond (.tmp 7 true) []
          (.region [
            ⟨some 8, .move, [.tmp 1 true], none⟩,
            ⟨some 9, .bin .sub, [.tmp 8 true, .const (.int .i64 1)], none⟩,
            ⟨some 10, .fieldAddr 1, [.tmp 2 false], none⟩,
            ⟨some 11, .loadF 0 false 1 false, [.tmp 10 true], none⟩,
            ⟨some 12, .bin .sub, [.tmp 9 true, .tmp 11 true], none⟩,
            ⟨some 13, .fieldAddr 1, [.tmp 2 false], none⟩,
            ⟨none, .storeF 0 1, [.tmp 13 true, .tmp 12 true], none⟩] none []) [1]
          .skip))
      (.seq
        (.region [
          ⟨some 14, .loadF 0 true 3 false, [.tmp 2 true], none⟩,
          ⟨none, .storeF 1 3, [.tmp 4 false, .tmp 14 true], none⟩] none [])
        .ret))) }

/-- runrig/runrigref2.Tokens -/
def s20_l0 : SCode :=
  (.seq
    (.seq
      (.region [
        ⟨some 14, .move, [.tmp 5 false], none⟩,
        ⟨some 15, .move, [.tmp 0 false], none⟩,
        ⟨some 16, .len .str, [.tmp 15 true], none⟩,
        ⟨some 17, .bin .lss, [.tmp 14 true, .tmp 16 true], none⟩] none [])
      (.cond (.tmp 17 true) []
        .skip [5]
        (.exit 0)))
    (.block 1
      (.seq
        (.region [
          ⟨some 19, .move, [.tmp 0 false], none⟩,
          ⟨some 20, .move, [.tmp 5 false], none⟩,
          ⟨some 21, .call 41, [.tmp 19 true, .tmp 20 true], none⟩,
          ⟨some 18, .move, [.tmp 21 true], none⟩,
          ⟨some 22, .extract 0, [.tmp 18 false], none⟩,
          ⟨some 23, .extract 1, [.tmp 18 true], none⟩,
          ⟨some 6, .allocF 1 [.int .i64 0, .str [], .int .i64 0, .int .i64 0], [], none⟩,
          ⟨none, .storeF 1 4, [.tmp 6 false, .tmp 22 true], none⟩,
          ⟨some 7, .move, [.tmp 23 true], none⟩] none [])
        (.seq
          (.seq
            (.region [
              ⟨some 24, .move, [.tmp 7 false], none⟩,
              ⟨some 25, .bin .eql, [.tmp 24 true, .const (.int .i64 0)], none⟩] none [])
            (.cond (.tmp 25 true) [0, 4, 6, 7]
              (.seq
                (.region [
                  ⟨some 26, .move, [.tmp 5 true], none⟩,
                  ⟨some 27, .build [.int .i64 0, .int .i64 0] [(0, 1), (1, 1)], [.const (.int .i64 1), .tmp 26 true], none⟩,
                  ⟨some 2, .move, [.const (.nilSl)], none⟩,
                  ⟨none, .storeF 0 2, [.tmp 3 false, .tmp 27 true], none⟩] none [])
                .ret) []
              .skip))
          (.seq
            (.region [
              ⟨some 28, .move, [.tmp 4 true], none⟩,
              ⟨some 29, .loadF 1 true 4 false, [.tmp 6 true], none⟩,
              ⟨some 30, .lit 4 1 [.int .i64 0, .str [], .int .i64 0, .int .i64 0] [0], [.tmp 29 true], none⟩,
              ⟨some 31, .append 4 40, [.tmp 28 true, .tmp 30 true], none⟩,
              ⟨some 4, .move, [.tmp 31 true], none⟩] none [])
            (.region [
              ⟨some 32, .move, [.tmp 0 false], none⟩,
              ⟨some 33, .move, [.tmp 5 true], none⟩,
              ⟨some 34, .move, [.tmp 7 true], none⟩,
              ⟨some 35, .bin .add, [.tmp 33 true, .tmp 34 true], none⟩,
              ⟨some 36, .call 40, [.tmp 32 true, .tmp 35 true], none⟩,
              ⟨some 5, .move, [.tmp 36 true], none⟩] none []))))))
def s20 : SFunc := { fid := 20, mode := .pure, nparams := 1, nboxes := 2, clr := [], results := [.tmp 2 true, .box 3 0 2 true], body :=
  (.seq
    (.region [
      ⟨some 2, .move, [.const (.nilSl)], none⟩,
      ⟨some 3, .allocF 0 [.int .i64 0, .int .i64 0], [], none⟩] none [2])
    (.seq
      (.seq
        (.region [
          ⟨some 8, .move, [.tmp 0 false], none⟩,
          ⟨some 9, .len .str, [.tmp 8 true], none⟩,
          ⟨some 10, .bin .gtr, [.tmp 9 true, .const (.int .i64 6000)], none⟩] none [])
        (.cond (.tmp 10 true) [0]
          (.seq
            (.region [
              ⟨some 11, .build [.int .i64 0, .int .i64 0] [(0, 1)], [.const (.int .i64 4)], none⟩,
              ⟨some 2, .move, [.const (.nilSl)], none⟩,
              ⟨none, .storeF 0 2, [.tmp 3 false, .tmp 11 true], none⟩] none [])
            .ret) []
          .skip))
      (.seq
        (.region [
          ⟨some 4, .move, [.const (.nilSl)], none⟩] none [])
        (.seq
          (.region [
            ⟨some 12, .move, [.tmp 0 false], none⟩,
            ⟨some 13, .call 40, [.tmp 12 true, .const (.int .i64 0)], none⟩,
            ⟨some 5, .move, [.tmp 13 true], none⟩] none [])
          (.seq
            (.block 0
              (.loop s20_l0))
            (.seq
              (.region [
                ⟨some 37, .move, [.tmp 4 true], none⟩,
                ⟨some 38, .move, [.tmp 0 true], none⟩,
                ⟨some 39, .len .str, [.tmp 38 true], none⟩,
                ⟨some 40, .build [.int .i64 0, .str [], .int .i64 0, .int .i64 0] [(0, 1), (3, 1)], [.const (.int .i64 0), .tmp 39 true], none⟩,
                ⟨some 41, .lit 4 1 [.int .i64 0, .str [], .int .i64 0, .int .i64 0] [0], [.tmp 40 true], none⟩,
                ⟨some 42, .append 4 40, [.tmp 37 true, .tmp 41 true], none⟩,
                ⟨some 43, .build [.int .i64 0, .int .i64 0] [], [], none⟩,
                ⟨some 2, .move, [.tmp 42 true], none⟩,
                ⟨none, .storeF 0 2, [.tmp 3 false, .tmp 43 true], none⟩] none [])
              .ret)))))) }

/-- (*runrig/runrigref3.reader).ok -/

def s21 : SFunc := { fid := 21, mode := .scp, nparams := 1, nboxes := 0, clr := [], results := [.tmp 2 false], body :=
  (.seq
    (.region [
      ⟨some 2, .move, [.const (.bool false)], none⟩] none [2])
    (.seq
      (.region [
        ⟨some 3, .move, [.tmp 0 true], none⟩,
        ⟨some 4, .nilCheck, [.tmp 3 true], none⟩,
        ⟨some 5, .fieldAddr 3, [.tmp 4 true], none⟩,
        ⟨some 6, .fieldAddr 0, [.tmp 5 true], none⟩,
        ⟨some 7, .load false 1 false, [.tmp 6 true], none⟩,
        ⟨some 8, .bin .eql, [.tmp 7 true, .const (.int .i64 0)], none⟩,
        ⟨some 2, .move, [.tmp 8 true], none⟩] none [])
      .ret)) }

/-- (*runrig/runrigref3.reader).tok -/

def s22 : SFunc := { fid := 22, mode := .scp, nparams := 1, nboxes := 1, clr := [], results := [.box 2 0 4 true], body :=
  (.seq
    (.region [
      ⟨some 2, .allocF 0 [.int .i64 0, .str [], .int .i64 0, .int .i64 0], [], none⟩] none [])
    (.seq
      (.seq
        (.region [
          ⟨some 3, .move, [.tmp 0 false], none⟩,
          ⟨some 4, .nilCheck, [.tmp 3 true], none⟩,
          ⟨some 5, .fieldAddr 1, [.tmp 4 true], none⟩,
          ⟨some 6, .load false 1 false, [.tmp 5 true], none⟩,
          ⟨some 7, .bin .lss, [.tmp 6 true, .const (.int .i64 0)], none⟩,
          ⟨some 8, .move, [.tmp 7 true], none⟩,
          ⟨some 9, .move, [.tmp 0 false], some (8, false)⟩,
          ⟨some 10, .nilCheck, [.tmp 9 true], some (8, false)⟩,
          ⟨some 11, .fieldAddr 1, [.tmp 10 true], some (8, false)⟩,
          ⟨some 12, .load false 1 false, [.tmp 11 true], some (8, false)⟩,
          ⟨some 13, .move, [.tmp 0 false], some (8, false)⟩,
          ⟨some 14, .nilCheck, [.tmp 13 true], some (8, false)⟩,
          ⟨some 15, .fieldAddr 0, [.tmp 14 true], some (8, false)⟩,
          ⟨some 16, .load false 1 false, [.tmp 15 true], some (8, false)⟩,
          ⟨some 17, .len .sl, [.tmp 16 true], some (8, false)⟩,
          ⟨some 18, .bin .geq, [.tmp 12 true, .tmp 17 true], some (8, false)⟩,
          ⟨some 19, .pick, [.tmp 8 false, .const (.bool true), .tmp 18 true], none⟩] (some []) [8, 9, 10, 11, 12, 13, 14, 15, 16, 17])
        (.cond (.tmp 19 true) [0]
          (.seq
            (.region [
              ⟨some 20, .build [.int .i64 0, .str [], .int .i64 0, .int .i64 0] [(0, 1)], [.const (.int .i64 0)], none⟩,
              ⟨none, .storeF 0 4, [.tmp 2 false, .tmp 20 true], none⟩] none [])
            .ret) []
          .skip))
      (.seq
        (.region [
          ⟨some 21, .move, [.tmp 0 false], none⟩,
          ⟨some 22, .nilCheck, [.tmp 21 true], none⟩,
          ⟨some 23, .fieldAddr 0, [.tmp 22 true], none⟩,
          ⟨some 24, .load false 1 false, [.tmp 23 true], none⟩,
          ⟨some 25, .move, [.tmp 0 false], none⟩,
          ⟨some 26, .nilCheck, [.tmp 25 true], none⟩,
          ⟨some 27, .fieldAddr 1, [.tmp 26 true], none⟩,
          ⟨some 28, .load false 1 false, [.tmp 27 true], none⟩,
          ⟨some 29, .indexAddr 4, [.tmp 24 true, .tmp 28 true], none⟩,
          ⟨some 30, .load true 4 false, [.tmp 29 true], none⟩,
          ⟨none, .storeF 0 4, [.tmp 2 false, .tmp 30 true], none⟩] (some []) [0])
        .ret))) }

/-- (*runrig/runrigref3.reader).is -/

def s23 : SFunc := { fid := 23, mode := .scp, nparams := 2, nboxes := 1, clr := [], results := [.tmp 4 false], body :=
  (.seq
    (.region [
      ⟨some 4, .move, [.const (.bool false)], none⟩] none [4])
    (.seq
      (.region [
        ⟨some 7, .move, [.tmp 0 false], none⟩,
        ⟨some 8, .call 22, [.tmp 7 true], none⟩,
        ⟨some 5, .allocF 0 [.int .i64 0, .str [], .int .i64 0, .int .i64 0], [], none⟩,
        ⟨none, .storeF 0 4, [.tmp 5 false, .tmp 8 true], none⟩] none [])
      (.seq
        (.region [
          ⟨some 6, .move, [.const (.int .i64 4)], none⟩] none [])
        (.seq
          (.seq
            (.region [
              ⟨some 9, .move, [.tmp 1 false], none⟩,
              ⟨some 10, .index, [.tmp 9 true, .const (.int .i64 0)], none⟩,
              ⟨some 11, .bin .geq, [.tmp 10 true, .const (.int .u8 97)], none⟩,
              ⟨some 12, .move, [.tmp 11 true], none⟩,
              ⟨some 13, .move, [.tmp 1 false], some (12, true)⟩,
              ⟨some 14, .index, [.tmp 13 true, .const (.int .i64 0)], some (12, true)⟩,
              ⟨some 15, .bin .leq, [.tmp 14 true, .const (.int .u8 122)], some (12, true)⟩,
              ⟨some 16, .pick, [.tmp 12 true, .tmp 15 true, .const (.bool false)], none⟩] none [13, 14])
            (.cond (.tmp 16 true) [6]
              (.region [
                ⟨some 6, .move, [.const (.int .i64 3)], none⟩] none []) []
              .skip))
          (.seq
            (.region [
              ⟨some 17, .move, [.tmp 0 true], none⟩,
              ⟨some 18, .call 21, [.tmp 17 true], none⟩,
              ⟨some 19, .move, [.tmp 18 true], none⟩,
              ⟨some 20, .fieldAddr 0, [.tmp 5 false], some (19, true)⟩,
              ⟨some 21, .loadF 0 false 1 false, [.tmp 20 true], some (19, true)⟩,
              ⟨some 22, .move, [.tmp 6 true], some (19, true)⟩,
              ⟨some 23, .bin .eql, [.tmp 21 true, .tmp 22 true], some (19, true)⟩,
              ⟨some 24, .pick, [.tmp 19 true, .tmp 23 true, .const (.bool false)], none⟩,
              ⟨some 25, .move, [.tmp 24 true], none⟩,
              ⟨some 26, .fieldAddr 1, [.tmp 5 true], some (25, true)⟩,
              ⟨some 27, .loadF 0 false 1 false, [.tmp 26 true], some (25, true)⟩,
              ⟨some 28, .move, [.tmp 1 true], some (25, true)⟩,
              ⟨some 29, .bin .eql, [.tmp 27 true, .tmp 28 true], some (25, true)⟩,
              ⟨some 30, .pick, [.tmp 25 true, .tmp 29 true, .const (.bool false)], none⟩,
              ⟨some 4, .move, [.tmp 30 true], none⟩] none [1, 5, 6, 20, 21, 22, 26, 27, 28])
            .ret))))) }

/-- (*runrig/runrigref3.reader).fail -/

def s24 : SFunc := { fid := 24, mode := .scp, nparams := 2, nboxes := 0, clr := [], results := [], body :=
  (.seq
    (.region [
      ⟨some 4, .move, [.tmp 0 false], none⟩,
      ⟨some 5, .call 21, [.tmp 4 true], none⟩] none [])
    (.cond (.tmp 5 true) []
      (.region [
        ⟨some 6, .move, [.tmp 0 false], none⟩,
        ⟨some 7, .move, [.tmp 1 true], none⟩,
        ⟨some 8, .move, [.tmp 0 true], none⟩,
        ⟨some 9, .call 22, [.tmp 8 true], none⟩,
        ⟨some 10, .field 3 1 false, [.tmp 9 true], none⟩,
        ⟨some 11, .build [.int .i64 0, .int .i64 0] [(0, 1), (1, 1)], [.tmp 7 true, .tmp 10 true], none⟩,
        ⟨some 12, .nilCheck, [.tmp 6 true], none⟩,
        ⟨some 13, .fieldAddr 3, [.tmp 12 true], none⟩,
        ⟨none, .store 2, [.tmp 13 true, .tmp 11 true], none⟩] none []) [0, 1]
      .skip)) }

/-- (*runrig/runrigref3.reader).record -/
def s25_l0 : SCode :=
  (.seq
    (.seq
      (.region [
        ⟨some 13, .move, [.tmp 0 false], none⟩,
        ⟨some 14, .call 21, [.tmp 13 true], none⟩,
        ⟨some 15, .move, [.tmp 14 true], none⟩,
        ⟨some 16, .move, [.tmp 0 false], some (15, true)⟩,
        ⟨some 17, .call 23, [.tmp 16 true, .const (.str [125])], some (15, true)⟩,
        ⟨some 18, .un .not, [.tmp 17 true], some (15, true)⟩,
        ⟨some 19, .pick, [.tmp 15 true, .tmp 18 true, .const (.bool false)], none⟩] none [16, 17])
      (.cond (.tmp 19 true) []
        .skip []
        (.exit 0)))
    (.block 1
      (.seq
        (.seq
          (.region [
            ⟨some 20, .move, [.tmp 0 false], none⟩,
            ⟨some 21, .call 22, [.tmp 20 true], none⟩,
            ⟨some 22, .field 0 1 false, [.tmp 21 true], none⟩,
            ⟨some 23, .bin .eql, [.tmp 22 true, .const (.int .i64 1)], none⟩,
            ⟨some 24, .move, [.tmp 23 true], none⟩,
            ⟨some 25, .fieldAddr 1, [.tmp 3 false], some (24, true)⟩,
            ⟨some 26, .loadF 1 false 1 false, [.tmp 25 true], some (24, true)⟩,
            ⟨some 27, .len .sl, [.tmp 26 true], some (24, true)⟩,
            ⟨some 28, .bin .eql, [.tmp 27 true, .const (.int .i64 8)], some (24, true)⟩,
            ⟨some 29, .pick, [.tmp 24 true, .tmp 28 true, .const (.bool false)], none⟩] none [25, 26, 27])
          (.cond (.tmp 29 true) []
            (.seq
              (.region [
                ⟨some 30, .move, [.tmp 0 false], none⟩,
                ⟨some 31, .call 24, [.tmp 30 true, .const (.int .i64 4)], none⟩] none [31])
              (.exit 0)) []
            .skip))
        (.seq
          (.region [
            ⟨some 32, .fieldAddr 1, [.tmp 3 false], none⟩,
            ⟨some 33, .loadF 1 false 1 true, [.tmp 32 true], none⟩,
            ⟨some 34, .move, [.tmp 0 false], none⟩,
            ⟨some 35, .call 26, [.tmp 34 true], none⟩,
            ⟨some 36, .lit 4 1 [.str [], .str [], .int .i64 0, .int .i64 0] [0], [.tmp 35 true], none⟩,
            ⟨some 37, .append 4 48, [.tmp 33 true, .tmp 36 true], none⟩,
            ⟨some 38, .fieldAddr 1, [.tmp 3 false], none⟩,
            ⟨none, .storeF 1 1, [.tmp 38 true, .tmp 37 true], none⟩] (some []) [])
          (.region [
            ⟨some 39, .move, [.tmp 0 false], none⟩,
            ⟨some 40, .call 27, [.tmp 39 true, .const (.str [59])], none⟩] none [40])))))
def s25 : SFunc := { fid := 25, mode := .scp, nparams := 1, nboxes := 2, clr := [], results := [.box 2 0 3 true], body :=
  (.seq
    (.region [
      ⟨some 2, .allocF 0 [.str [], .nilSl, .int .i64 0], [], none⟩] none [])
    (.seq
      (.region [
        ⟨some 4, .move, [.tmp 0 false], none⟩,
        ⟨some 5, .call 22, [.tmp 4 true], none⟩,
        ⟨some 6, .field 3 1 false, [.tmp 5 true], none⟩,
        ⟨some 7, .build [.str [], .nilSl, .int .i64 0] [(2, 1)], [.tmp 6 true], none⟩,
        ⟨some 3, .allocF 1 [.str [], .nilSl, .int .i64 0], [], none⟩,
        ⟨none, .storeF 1 3, [.tmp 3 false, .tmp 7 true], none⟩] none [])
      (.seq
        (.region [
          ⟨some 8, .move, [.tmp 0 false], none⟩,
          ⟨some 9, .call 42, [.tmp 8 true], none⟩,
          ⟨some 10, .fieldAddr 0, [.tmp 3 false], none⟩,
          ⟨none, .storeF 1 1, [.tmp 10 true, .tmp 9 true], none⟩] none [])
        (.seq
          (.region [
            ⟨some 11, .move, [.tmp 0 false], none⟩,
            ⟨some 12, .call 27, [.tmp 11 true, .const (.str [123])], none⟩] none [12])
          (.seq
            (.block 0
              (.loop s25_l0))
            (.seq
              (.region [
                ⟨some 41, .move, [.tmp 0 true], none⟩,
                ⟨some 42, .call 27, [.tmp 41 true, .const (.str [125])], none⟩] none [42])
              (.seq
                (.region [
                  ⟨some 43, .loadF 1 true 3 false, [.tmp 3 true], none⟩,
                  ⟨none, .storeF 0 3, [.tmp 2 false, .tmp 43 true], none⟩] none [])
                .ret))))))) }

/-- (*runrig/runrigref3.reader).param -/

def s26 : SFunc := { fid := 26, mode := .scp, nparams := 1, nboxes := 2, clr := [], results := [.box 2 0 4 true], body :=
  (.seq
    (.region [
      ⟨some 2, .allocF 0 [.str [], .str [], .int .i64 0, .int .i64 0], [], none⟩] none [])
    (.seq
      (.region [
        ⟨some 4, .move, [.tmp 0 false], none⟩,
        ⟨some 5, .call 22, [.tmp 4 true], none⟩,
        ⟨some 6, .field 3 1 false, [.tmp 5 true], none⟩,
        ⟨some 7, .build [.str [], .str [], .int .i64 0, .int .i64 0] [(3, 1)], [.tmp 6 true], none⟩,
        ⟨some 3, .allocF 1 [.str [], .str [], .int .i64 0, .int .i64 0], [], none⟩,
        ⟨none, .storeF 1 4, [.tmp 3 false, .tmp 7 true], none⟩] none [])
      (.seq
        (.region [
          ⟨some 8, .move, [.tmp 0 false], none⟩,
          ⟨some 9, .call 42, [.tmp 8 true], none⟩,
          ⟨some 10, .fieldAddr 0, [.tmp 3 false], none⟩,
          ⟨none, .storeF 1 1, [.tmp 10 true, .tmp 9 true], none⟩] none [])
        (.seq
          (.region [
            ⟨some 11, .move, [.tmp 0 false], none⟩,
            ⟨some 12, .call 27, [.tmp 11 true, .const (.str [58])], none⟩] none [12])
          (.seq
            (.region [
              ⟨some 13, .move, [.tmp 0 true], none⟩,
              ⟨some 14, .call 43, [.tmp 13 true], none⟩,
              ⟨some 15, .fieldAddr 1, [.tmp 3 false], none⟩,
              ⟨none, .storeF 1 2, [.tmp 15 true, .tmp 14 true], none⟩] none [])
            (.seq
              (.region [
                ⟨some 16, .loadF 1 true 4 false, [.tmp 3 true], none⟩,
                ⟨none, .storeF 0 4, [.tmp 2 false, .tmp 16 true], none⟩] none [])
              .ret)))))) }

/-- (*runrig/runrigref3.reader).take -/

def s27 : SFunc := { fid := 27, mode := .scp, nparams := 2, nboxes := 0, clr := [], results := [], body :=
  (.seq
    (.seq
      (.region [
        ⟨some 4, .move, [.tmp 0 false], none⟩,
        ⟨some 5, .move, [.tmp 1 true], none⟩,
        ⟨some 6, .call 23, [.tmp 4 true, .tmp 5 true], none⟩,
        ⟨some 7, .un .not, [.tmp 6 true], none⟩] none [])
      (.cond (.tmp 7 true) []
        (.seq
          (.region [
            ⟨some 8, .move, [.tmp 0 true], none⟩,
            ⟨some 9, .call 24, [.tmp 8 true, .const (.int .i64 2)], none⟩] none [9])
          .ret) []
        .skip))
    (.region [
      ⟨some 10, .move, [.tmp 0 true], none⟩,
      ⟨some 11, .nilCheck, [.tmp 10 false], none⟩,
      ⟨some 12, .fieldAddr 1, [.tmp 11 true], none⟩,
      ⟨some 13, .load false 1 false, [.tmp 12 true], none⟩,
      ⟨some 14, .bin .add, [.tmp 13 true, .const (.int .i64 1)], none⟩,
      ⟨some 15, .nilCheck, [.tmp 10 true], none⟩,
      ⟨some 16, .fieldAddr 1, [.tmp 15 true], none⟩,
      ⟨none, .store 1, [.tmp 16 true, .tmp 14 true], none⟩] none [])) }

/-- (*runrig/runrigref3.reader).function -/
def s28_l0 : SCode :=
  (.seq
    (.seq
      (.region [
        ⟨some 13, .move, [.tmp 0 false], none⟩,
        ⟨some 14, .call 21, [.tmp 13 true], none⟩,
        ⟨some 15, .move, [.tmp 14 true], none⟩,
        ⟨some 16, .move, [.tmp 0 false], some (15, true)⟩,
        ⟨some 17, .call 23, [.tmp 16 true, .const (.str [41])], some (15, true)⟩,
        ⟨some 18, .un .not, [.tmp 17 true], some (15, true)⟩,
        ⟨some 19, .pick, [.tmp 15 true, .tmp 18 true, .const (.bool false)], none⟩] none [16, 17])
      (.cond (.tmp 19 true) []
        .skip []
        (.exit 0)))
    (.block 1
      (.seq
        (.seq
          (.region [
            ⟨some 20, .move, [.tmp 0 false], none⟩,
            ⟨some 21, .call 22, [.tmp 20 true], none⟩,
            ⟨some 22, .field 0 1 false, [.tmp 21 true], none⟩,
            ⟨some 23, .bin .eql, [.tmp 22 true, .const (.int .i64 1)], none⟩,
            ⟨some 24, .move, [.tmp 23 true], none⟩,
            ⟨some 25, .fieldAddr 1, [.tmp 3 false], some (24, true)⟩,
            ⟨some 26, .loadF 1 false 1 false, [.tmp 25 true], some (24, true)⟩,
            ⟨some 27, .len .sl, [.tmp 26 true], some (24, true)⟩,
            ⟨some 28, .bin .eql, [.tmp 27 true, .const (.int .i64 6)], some (24, true)⟩,
            ⟨some 29, .pick, [.tmp 24 true, .tmp 28 true, .const (.bool false)], none⟩] none [25, 26, 27])
          (.cond (.tmp 29 true) []
            (.seq
              (.region [
                ⟨some 30, .move, [.tmp 0 false], none⟩,
                ⟨some 31, .call 24, [.tmp 30 true, .const (.int .i64 4)], none⟩] none [31])
              (.exit 0)) []
            .skip))
        (.seq
          (.region [
            ⟨some 32, .fieldAddr 1, [.tmp 3 false], none⟩,
            ⟨some 33, .loadF 1 false 1 true, [.tmp 32 true], none⟩,
            ⟨some 34, .move, [.tmp 0 false], none⟩,
            ⟨some 35, .call 26, [.tmp 34 true], none⟩,
            ⟨some 36, .lit 4 1 [.str [], .str [], .int .i64 0, .int .i64 0] [0], [.tmp 35 true], none⟩,
            ⟨some 37, .append 4 48, [.tmp 33 true, .tmp 36 true], none⟩,
            ⟨some 38, .fieldAddr 1, [.tmp 3 false], none⟩,
            ⟨none, .storeF 1 1, [.tmp 38 true, .tmp 37 true], none⟩] (some []) [])
          (.seq
            (.region [
              ⟨some 39, .move, [.tmp 0 false], none⟩,
              ⟨some 40, .call 23, [.tmp 39 true, .const (.str [41])], none⟩,
              ⟨some 41, .un .not, [.tmp 40 true], none⟩] none [])
            (.cond (.tmp 41 true) []
              (.seq
                (.region [
                  ⟨some 42, .move, [.tmp 0 false], none⟩,
                  ⟨some 43, .call 27, [.tmp 42 true, .const (.str [44])], none⟩] none [43])
                (.seq
                  (.region [
                    ⟨some 44, .move, [.tmp 0 false], none⟩,
                    ⟨some 45, .call 23, [.tmp 44 true, .const (.str [41])], none⟩] none [])
                  (.cond (.tmp 45 true) []
                    (.region [
                      ⟨some 46, .move, [.tmp 0 false], none⟩,
                      ⟨some 47, .call 24, [.tmp 46 true, .const (.int .i64 2)], none⟩] none [47]) []
                    .skip))) []
              .skip))))))
def s28 : SFunc := { fid := 28, mode := .scp, nparams := 1, nboxes := 2, clr := [], results := [.box 2 0 7 true], body :=
  (.seq
    (.region [
      ⟨some 2, .allocF 0 [.str [], .nilSl, .bool false, .str [], .int .i64 0, .nilSl, .int .i64 0], [], none⟩] none [])
    (.seq
      (.region [
        ⟨some 4, .move, [.tmp 0 false], none⟩,
        ⟨some 5, .call 22, [.tmp 4 true], none⟩,
        ⟨some 6, .field 3 1 false, [.tmp 5 true], none⟩,
        ⟨some 7, .build [.str [], .nilSl, .bool false, .str [], .int .i64 0, .nilSl, .int .i64 0] [(6, 1)], [.tmp 6 true], none⟩,
        ⟨some 3, .allocF 1 [.str [], .nilSl, .bool false, .str [], .int .i64 0, .nilSl, .int .i64 0], [], none⟩,
        ⟨none, .storeF 1 7, [.tmp 3 false, .tmp 7 true], none⟩] none [])
      (.seq
        (.region [
          ⟨some 8, .move, [.tmp 0 false], none⟩,
          ⟨some 9, .call 42, [.tmp 8 true], none⟩,
          ⟨some 10, .fieldAddr 0, [.tmp 3 false], none⟩,
          ⟨none, .storeF 1 1, [.tmp 10 true, .tmp 9 true], none⟩] none [])
        (.seq
          (.region [
            ⟨some 11, .move, [.tmp 0 false], none⟩,
            ⟨some 12, .call 27, [.tmp 11 true, .const (.str [40])], none⟩] none [12])
          (.seq
            (.block 0
              (.loop s28_l0))
            (.seq
              (.region [
                ⟨some 48, .move, [.tmp 0 false], none⟩,
                ⟨some 49, .call 27, [.tmp 48 true, .const (.str [41])], none⟩] none [49])
              (.seq
                (.seq
                  (.region [
                    ⟨some 50, .move, [.tmp 0 false], none⟩,
                    ⟨some 51, .call 23, [.tmp 50 true, .const (.str [58])], none⟩] none [])
                  (.cond (.tmp 51 true) []
                    (.seq
                      (.region [
                        ⟨some 52, .move, [.tmp 0 false], none⟩,
                        ⟨some 53, .nilCheck, [.tmp 52 false], none⟩,
                        ⟨some 54, .fieldAddr 1, [.tmp 53 true], none⟩,
                        ⟨some 55, .load false 1 false, [.tmp 54 true], none⟩,
                        ⟨some 56, .bin .add, [.tmp 55 true, .const (.int .i64 1)], none⟩,
                        ⟨some 57, .nilCheck, [.tmp 52 true], none⟩,
                        ⟨some 58, .fieldAddr 1, [.tmp 57 true], none⟩,
                        ⟨none, .store 1, [.tmp 58 true, .tmp 56 true], none⟩] none [])
                      (.seq
                        (.region [
                          ⟨some 59, .fieldAddr 2, [.tmp 3 false], none⟩,
                          ⟨none, .storeF 1 1, [.tmp 59 true, .const (.bool true)], none⟩] none [])
                        (.region [
                          ⟨some 60, .move, [.tmp 0 false], none⟩,
                          ⟨some 61, .call 43, [.tmp 60 true], none⟩,
                          ⟨some 62, .fieldAddr 3, [.tmp 3 false], none⟩,
                          ⟨none, .storeF 1 2, [.tmp 62 true, .tmp 61 true], none⟩] none []))) []
                    .skip))
                (.seq
                  (.region [
                    ⟨some 63, .move, [.tmp 0 true], none⟩,
                    ⟨some 64, .call 44, [.tmp 63 true], none⟩,
                    ⟨some 65, .fieldAddr 5, [.tmp 3 false], none⟩,
                    ⟨none, .storeF 1 1, [.tmp 65 true, .tmp 64 true], none⟩] none [])
                  (.seq
                    (.region [
                      ⟨some 66, .loadF 1 true 7 false, [.tmp 3 true], none⟩,
                      ⟨none, .storeF 0 7, [.tmp 2 false, .tmp 66 true], none⟩] none [])
                    .ret))))))))) }

/-- (*runrig/heads.maker).records -/
def s29_l0 : SCode :=
  (.seq
    (.region [
      ⟨some 13, .bin .lss, [.tmp 12 false, .tmp 11 false], none⟩] none [])
    (.seq
      (.cond (.tmp 13 true) []
        .skip [10, 11, 12]
        (.exit 0))
      (.seq
        (.block 1
          (.seq
            (.region [
              ⟨some 14, .indexAddr 3, [.tmp 10 false, .tmp 12 false], none⟩,
              ⟨some 15, .load true 3 false, [.tmp 14 true], none⟩,
              ⟨some 6, .allocF 0 [.str [], .nilSl, .int .i64 0], [], none⟩,
              ⟨none, .storeF 0 3, [.tmp 6 false, .tmp 15 true], none⟩] none [])
            (.seq
              (.seq
                (.region [
                  ⟨some 16, .move, [.tmp 0 false], none⟩,
                  ⟨some 17, .nilCheck, [.tmp 16 true], none⟩,
                  ⟨some 18, .fieldAddr 0, [.tmp 17 true], none⟩,
                  ⟨some 19, .load false 1 false, [.tmp 18 true], none⟩,
                  ⟨some 20, .fieldAddr 0, [.tmp 6 false], none⟩,
                  ⟨some 21, .loadF 0 false 1 false, [.tmp 20 true], none⟩,
                  ⟨some 22, .call 45, [.tmp 19 true, .tmp 21 true], none⟩] (some []) [])
                (.cond (.tmp 22 true) []
                  (.region [
                    ⟨some 23, .move, [.tmp 0 false], none⟩,
                    ⟨some 24, .fieldAddr 2, [.tmp 6 false], none⟩,
                    ⟨some 25, .loadF 0 false 1 false, [.tmp 24 true], none⟩,
                    ⟨some 26, .call 34, [.tmp 23 true, .tmp 25 true], none⟩] none [26]) []
                  .skip))
              (.region [
                ⟨some 27, .move, [.tmp 0 false], none⟩,
                ⟨some 28, .move, [.tmp 0 false], none⟩,
                ⟨some 29, .nilCheck, [.tmp 28 true], none⟩,
                ⟨some 30, .fieldAddr 0, [.tmp 29 true], none⟩,
                ⟨some 31, .load false 1 true, [.tmp 30 true], none⟩,
                ⟨some 32, .fieldAddr 0, [.tmp 6 true], none⟩,
                ⟨some 33, .loadF 0 false 1 false, [.tmp 32 true], none⟩,
                ⟨some 34, .lit 1 1 [.str []] [0], [.tmp 33 true], none⟩,
                ⟨some 35, .append 1 16, [.tmp 31 true, .tmp 34 true], none⟩,
                ⟨some 36, .nilCheck, [.tmp 27 true], none⟩,
                ⟨some 37, .fieldAddr 0, [.tmp 36 true], none⟩,
                ⟨none, .store 1, [.tmp 37 true, .tmp 35 true], none⟩] (some []) []))))
        (.region [
          ⟨some 38, .bin .add, [.tmp 12 true, .const (.int .i64 1)], none⟩,
          ⟨some 12, .move, [.tmp 38 true], none⟩] none []))))
def s29_l1 : SCode :=
  (.seq
    (.region [
      ⟨some 42, .bin .lss, [.tmp 41 false, .tmp 40 false], none⟩] none [])
    (.seq
      (.cond (.tmp 42 true) []
        .skip [0, 39, 40, 41]
        (.exit 2))
      (.seq
        (.block 3
          (.seq
            (.region [
              ⟨some 43, .indexAddr 3, [.tmp 39 false, .tmp 41 false], none⟩,
              ⟨some 44, .load true 3 false, [.tmp 43 true], none⟩,
              ⟨some 9, .allocF 1 [.str [], .nilSl, .int .i64 0], [], none⟩,
              ⟨none, .storeF 1 3, [.tmp 9 false, .tmp 44 true], none⟩] none [])
            (.region [
              ⟨some 45, .move, [.tmp 7 true], none⟩,
              ⟨some 46, .fieldAddr 0, [.tmp 9 false], none⟩,
              ⟨some 47, .loadF 1 false 1 false, [.tmp 46 true], none⟩,
              ⟨some 48, .move, [.tmp 0 false], none⟩,
              ⟨some 49, .fieldAddr 1, [.tmp 9 false], none⟩,
              ⟨some 50, .loadF 1 false 1 false, [.tmp 49 true], none⟩,
              ⟨some 51, .call 30, [.tmp 48 true, .tmp 50 true], none⟩,
              ⟨some 52, .build [.str [], .nilSl] [(0, 1), (1, 1)], [.tmp 47 true, .tmp 51 true], none⟩,
              ⟨some 53, .lit 2 1 [.str [], .nilSl] [0], [.tmp 52 true], none⟩,
              ⟨some 54, .append 2 40, [.tmp 45 true, .tmp 53 true], none⟩,
              ⟨some 7, .move, [.tmp 54 true], none⟩] (some []) [9])))
        (.region [
          ⟨some 55, .bin .add, [.tmp 41 true, .const (.int .i64 1)], none⟩,
          ⟨some 41, .move, [.tmp 55 true], none⟩] none []))))
def s29 : SFunc := { fid := 29, mode := .scp, nparams := 2, nboxes := 2, clr := [], results := [.tmp 4 true], body :=
  (.seq
    (.region [
      ⟨some 4, .move, [.const (.nilSl)], none⟩] none [4])
    (.seq
      (.seq
        (.region [
          ⟨some 10, .move, [.tmp 1 false], none⟩,
          ⟨some 11, .len .sl, [.tmp 10 false], none⟩,
          ⟨some 12, .move, [.const (.int .i64 0)], none⟩] none [])
        (.block 0
          (.loop s29_l0)))
      (.seq
        (.region [
          ⟨some 7, .move, [.const (.nilSl)], none⟩] none [])
        (.seq
          (.seq
            (.region [
              ⟨some 39, .move, [.tmp 1 true], none⟩,
              ⟨some 40, .len .sl, [.tmp 39 false], none⟩,
              ⟨some 41, .move, [.const (.int .i64 0)], none⟩] none [])
            (.block 2
              (.loop s29_l1)))
          (.seq
            (.region [
              ⟨some 56, .move, [.tmp 7 true], none⟩,
              ⟨some 4, .move, [.tmp 56 true], none⟩] none [])
            .ret))))) }

/-- (*runrig/heads.maker).fields -/
def s30_l0 : SCode :=
  (.seq
    (.region [
      ⟨some 15, .bin .lss, [.tmp 14 false, .tmp 13 false], none⟩] none [])
    (.seq
      (.cond (.tmp 15 true) []
        .skip [0, 6, 12, 13, 14]
        (.exit 0))
      (.seq
        (.block 1
          (.seq
            (.region [
              ⟨some 16, .indexAddr 4, [.tmp 12 false, .tmp 14 false], none⟩,
              ⟨some 17, .load true 4 false, [.tmp 16 true], none⟩,
              ⟨some 8, .allocF 0 [.str [], .str [], .int .i64 0, .int .i64 0], [], none⟩,
              ⟨none, .storeF 0 4, [.tmp 8 false, .tmp 17 true], none⟩] none [])
            (.seq
              (.seq
                (.region [
                  ⟨some 19, .move, [.tmp 6 false], none⟩,
                  ⟨some 20, .fieldAddr 0, [.tmp 8 false], none⟩,
                  ⟨some 21, .loadF 0 false 1 false, [.tmp 20 true], none⟩,
                  ⟨some 22, .lookup .str (.agg []) true, [.tmp 19 true, .tmp 21 true], none⟩,
                  ⟨some 18, .move, [.tmp 22 true], none⟩,
                  ⟨some 23, .extract 0, [.tmp 18 false], none⟩,
                  ⟨some 24, .extract 1, [.tmp 18 true], none⟩,
                  ⟨some 9, .allocF 1 [], [], none⟩,
                  ⟨none, .storeF 1 0, [.tmp 9 true, .tmp 23 true], none⟩,
                  ⟨some 10, .move, [.tmp 24 true], none⟩] none [])
                (.seq
                  (.region [
                    ⟨some 25, .move, [.tmp 10 true], none⟩] none [])
                  (.cond (.tmp 25 true) []
                    (.region [
                      ⟨some 26, .move, [.tmp 0 false], none⟩,
                      ⟨some 27, .fieldAddr 3, [.tmp 8 false], none⟩,
                      ⟨some 28, .loadF 0 false 1 false, [.tmp 27 true], none⟩,
                      ⟨some 29, .call 34, [.tmp 26 true, .tmp 28 true], none⟩] none [29]) []
                    .skip)))
              (.seq
                (.region [
                  ⟨some 30, .move, [.tmp 6 false], none⟩,
                  ⟨some 31, .fieldAddr 0, [.tmp 8 false], none⟩,
                  ⟨some 32, .loadF 0 false 1 false, [.tmp 31 true], none⟩,
                  ⟨some 33, .build [] [], [], none⟩,
                  ⟨none, .mapUpdate .str, [.tmp 30 true, .tmp 32 true, .tmp 33 true], none⟩] none [])
                (.region [
                  ⟨some 34, .move, [.tmp 5 true], none⟩,
                  ⟨some 35, .fieldAddr 0, [.tmp 8 false], none⟩,
                  ⟨some 36, .loadF 0 false 1 false, [.tmp 35 true], none⟩,
                  ⟨some 37, .move, [.tmp 0 false], none⟩,
                  ⟨some 38, .fieldAddr 1, [.tmp 8 false], none⟩,
                  ⟨some 39, .loadF 0 true 2 false, [.tmp 38 true], none⟩,
                  ⟨some 40, .fieldAddr 3, [.tmp 8 false], none⟩,
                  ⟨some 41, .loadF 0 false 1 false, [.tmp 40 true], none⟩,
                  ⟨some 42, .call 46, [.tmp 37 true, .tmp 39 true, .tmp 41 true], none⟩,
                  ⟨some 43, .build [.str [], .int .i64 0, .int .i64 0, .int .i64 0] [(0, 1), (1, 3)], [.tmp 36 true, .tmp 42 true], none⟩,
                  ⟨some 44, .lit 4 1 [.str [], .int .i64 0, .int .i64 0, .int .i64 0] [0], [.tmp 43 true], none⟩,
                  ⟨some 45, .append 4 40, [.tmp 34 true, .tmp 44 true], none⟩,
                  ⟨some 5, .move, [.tmp 45 true], none⟩] (some []) [8])))))
        (.region [
          ⟨some 46, .bin .add, [.tmp 14 true, .const (.int .i64 1)], none⟩,
          ⟨some 14, .move, [.tmp 46 true], none⟩] none []))))
def s30 : SFunc := { fid := 30, mode := .scp, nparams := 2, nboxes := 2, clr := [], results := [.tmp 4 true], body :=
  (.seq
    (.region [
      ⟨some 4, .move, [.const (.nilSl)], none⟩] none [4])
    (.seq
      (.region [
        ⟨some 5, .move, [.const (.nilSl)], none⟩] none [])
      (.seq
        (.region [
          ⟨some 11, .makeMap, [], none⟩,
          ⟨some 6, .move, [.tmp 11 true], none⟩] none [])
        (.seq
          (.seq
            (.region [
              ⟨some 12, .move, [.tmp 1 true], none⟩,
              ⟨some 13, .len .sl, [.tmp 12 false], none⟩,
              ⟨some 14, .move, [.const (.int .i64 0)], none⟩] none [])
            (.block 0
              (.loop s30_l0)))
          (.seq
            (.region [
              ⟨some 47, .move, [.tmp 5 true], none⟩,
              ⟨some 4, .move, [.tmp 47 true], none⟩] none [])
            .ret))))) }

/-- (*runrig/heads.maker).sigs -/
def s31_l0 : SCode :=
  (.seq
    (.region [
      ⟨some 16, .bin .lss, [.tmp 15 false, .tmp 14 false], none⟩] none [])
    (.seq
      (.cond (.tmp 16 true) []
        .skip [0, 6, 13, 14, 15]
        (.exit 0))
      (.seq
        (.block 1
          (.seq
            (.region [
              ⟨some 17, .indexAddr 7, [.tmp 13 false, .tmp 15 false], none⟩,
              ⟨some 18, .load true 7 false, [.tmp 17 true], none⟩,
              ⟨some 8, .allocF 0 [.str [], .nilSl, .bool false, .str [], .int .i64 0, .nilSl, .int .i64 0], [], none⟩,
              ⟨none, .storeF 0 7, [.tmp 8 false, .tmp 18 true], none⟩] none [])
            (.seq
              (.seq
                (.region [
                  ⟨some 20, .move, [.tmp 6 false], none⟩,
                  ⟨some 21, .fieldAddr 0, [.tmp 8 false], none⟩,
                  ⟨some 22, .loadF 0 false 1 false, [.tmp 21 true], none⟩,
                  ⟨some 23, .lookup .str (.agg []) true, [.tmp 20 true, .tmp 22 true], none⟩,
                  ⟨some 19, .move, [.tmp 23 true], none⟩,
                  ⟨some 24, .extract 0, [.tmp 19 false], none⟩,
                  ⟨some 25, .extract 1, [.tmp 19 true], none⟩,
                  ⟨some 9, .allocF 1 [], [], none⟩,
                  ⟨none, .storeF 1 0, [.tmp 9 true, .tmp 24 true], none⟩,
                  ⟨some 10, .move, [.tmp 25 true], none⟩] none [])
                (.seq
                  (.region [
                    ⟨some 26, .move, [.tmp 10 true], none⟩] none [])
                  (.cond (.tmp 26 true) []
                    (.region [
                      ⟨some 27, .move, [.tmp 0 false], none⟩,
                      ⟨some 28, .fieldAddr 6, [.tmp 8 false], none⟩,
                      ⟨some 29, .loadF 0 false 1 false, [.tmp 28 true], none⟩,
                      ⟨some 30, .call 34, [.tmp 27 true, .tmp 29 true], none⟩] none [30]) []
                    .skip)))
              (.seq
                (.region [
                  ⟨some 31, .move, [.tmp 6 false], none⟩,
                  ⟨some 32, .fieldAddr 0, [.tmp 8 false], none⟩,
                  ⟨some 33, .loadF 0 false 1 false, [.tmp 32 true], none⟩,
                  ⟨some 34, .build [] [], [], none⟩,
                  ⟨none, .mapUpdate .str, [.tmp 31 true, .tmp 33 true, .tmp 34 true], none⟩] none [])
                (.seq
                  (.region [
                    ⟨some 35, .fieldAddr 0, [.tmp 8 false], none⟩,
                    ⟨some 36, .loadF 0 false 1 false, [.tmp 35 true], none⟩,
                    ⟨some 37, .move, [.tmp 0 false], none⟩,
                    ⟨some 38, .fieldAddr 1, [.tmp 8 false], none⟩,
                    ⟨some 39, .loadF 0 false 1 false, [.tmp 38 true], none⟩,
                    ⟨some 40, .call 30, [.tmp 37 true, .tmp 39 true], none⟩,
                    ⟨some 41, .fieldAddr 2, [.tmp 8 false], none⟩,
                    ⟨some 42, .loadF 0 false 1 false, [.tmp 41 true], none⟩,
                    ⟨some 43, .build [.str [], .nilSl, .bool false, .int .i64 0, .int .i64 0, .int .i64 0] [(0, 1), (1, 1), (2, 1)], [.tmp 36 true, .tmp 40 true, .tmp 42 true], none⟩,
                    ⟨some 11, .allocF 2 [.str [], .nilSl, .bool false, .int .i64 0, .int .i64 0, .int .i64 0], [], none⟩,
                    ⟨none, .storeF 2 6, [.tmp 11 false, .tmp 43 true], none⟩] (some []) [])
                  (.seq
                    (.seq
                      (.region [
                        ⟨some 44, .fieldAddr 2, [.tmp 8 false], none⟩,
                        ⟨some 45, .loadF 0 false 1 false, [.tmp 44 true], none⟩] none [])
                      (.cond (.tmp 45 true) []
                        (.region [
                          ⟨some 46, .move, [.tmp 0 false], none⟩,
                          ⟨some 47, .fieldAddr 3, [.tmp 8 false], none⟩,
                          ⟨some 48, .loadF 0 true 2 false, [.tmp 47 true], none⟩,
                          ⟨some 49, .fieldAddr 6, [.tmp 8 true], none⟩,
                          ⟨some 50, .loadF 0 false 1 false, [.tmp 49 true], none⟩,
                          ⟨some 51, .call 46, [.tmp 46 true, .tmp 48 true, .tmp 50 true], none⟩,
                          ⟨some 52, .fieldAddr 3, [.tmp 11 false], none⟩,
                          ⟨none, .storeF 2 3, [.tmp 52 true, .tmp 51 true], none⟩] none []) [8]
                        .skip))
                    (.region [
                      ⟨some 53, .move, [.tmp 5 true], none⟩,
                      ⟨some 54, .loadF 2 true 6 false, [.tmp 11 true], none⟩,
                      ⟨some 55, .lit 6 1 [.str [], .nilSl, .bool false, .int .i64 0, .int .i64 0, .int .i64 0] [0], [.tmp 54 true], none⟩,
                      ⟨some 56, .append 6 72, [.tmp 53 true, .tmp 55 true], none⟩,
                      ⟨some 5, .move, [.tmp 56 true], none⟩] none [])))))))
        (.region [
          ⟨some 57, .bin .add, [.tmp 15 true, .const (.int .i64 1)], none⟩,
          ⟨some 15, .move, [.tmp 57 true], none⟩] none []))))
def s31 : SFunc := { fid := 31, mode := .scp, nparams := 2, nboxes := 3, clr := [], results := [.tmp 4 true], body :=
  (.seq
    (.region [
      ⟨some 4, .move, [.const (.nilSl)], none⟩] none [4])
    (.seq
      (.region [
        ⟨some 5, .move, [.const (.nilSl)], none⟩] none [])
      (.seq
        (.region [
          ⟨some 12, .makeMap, [], none⟩,
          ⟨some 6, .move, [.tmp 12 true], none⟩] none [])
        (.seq
          (.seq
            (.region [
              ⟨some 13, .move, [.tmp 1 true], none⟩,
              ⟨some 14, .len .sl, [.tmp 13 false], none⟩,
              ⟨some 15, .move, [.const (.int .i64 0)], none⟩] none [])
            (.block 0
              (.loop s31_l0)))
          (.seq
            (.region [
              ⟨some 58, .move, [.tmp 5 true], none⟩,
              ⟨some 4, .move, [.tmp 58 true], none⟩] none [])
            .ret))))) }

/-- slices.IndexFunc[[]runrig/api.Sig,runrig/api.Sig] -/
def s32_l0 : SCode :=
  (.seq
    (.region [
      ⟨some 9, .bin .lss, [.tmp 8 false, .tmp 7 false], none⟩] none [])
    (.seq
      (.cond (.tmp 9 true) []
        .skip [0, 1, 7, 8]
        (.exit 0))
      (.seq
        (.block 1
          (.seq
            (.region [
              ⟨some 10, .move, [.tmp 8 false], none⟩,
              ⟨some 5, .move, [.tmp 10 true], none⟩] none [])
            (.seq
              (.region [
                ⟨some 11, .move, [.tmp 1 false], none⟩,
                ⟨some 12, .move, [.tmp 0 false], none⟩,
                ⟨some 13, .move, [.tmp 5 false], none⟩,
                ⟨some 14, .indexAddr 6, [.tmp 12 true, .tmp 13 true], none⟩,
                ⟨some 15, .load true 6 false, [.tmp 14 true], none⟩,
                ⟨some 16, .callV, [.tmp 11 true, .tmp 15 true], none⟩] none [])
              (.cond (.tmp 16 true) [0, 1, 7, 8]
                (.seq
                  (.region [
                    ⟨some 17, .move, [.tmp 5 true], none⟩,
                    ⟨some 4, .move, [.tmp 17 true], none⟩] none [])
                  .ret) [5]
                .skip))))
        (.region [
          ⟨some 18, .bin .add, [.tmp 8 true, .const (.int .i64 1)], none⟩,
          ⟨some 8, .move, [.tmp 18 true], none⟩] none []))))
def s32 : SFunc := { fid := 32, mode := .scp, nparams := 2, nboxes := 0, clr := [], results := [.tmp 4 false], body :=
  (.seq
    (.region [
      ⟨some 4, .move, [.const (.int .i64 0)], none⟩] none [4])
    (.seq
      (.seq
        (.region [
          ⟨some 6, .move, [.tmp 0 false], none⟩,
          ⟨some 7, .len .sl, [.tmp 6 true], none⟩,
          ⟨some 8, .move, [.const (.int .i64 0)], none⟩] none [])
        (.block 0
          (.loop s32_l0)))
      (.seq
        (.region [
          ⟨some 4, .move, [.const (.int .i64 (-1))], none⟩] none [])
        .ret))) }

/-- runrig/heads.isMain -/

def s33 : SFunc := { fid := 33, mode := .pure, nparams := 1, nboxes := 1, clr := [], results := [.tmp 2 false], body :=
  (.seq
    (.region [
      ⟨some 1, .boxF 0 6, [.tmp 0 true], none⟩,
      ⟨some 2, .move, [.const (.bool false)], none⟩] none [2])
    (.seq
      (.region [
        ⟨some 3, .fieldAddr 0, [.tmp 1 false], none⟩,
        ⟨some 4, .loadF 0 false 1 false, [.tmp 3 true], none⟩,
        ⟨some 5, .bin .eql, [.tmp 4 true, .const (.str [109, 97, 105, 110])], none⟩,
        ⟨some 6, .move, [.tmp 5 true], none⟩,
        ⟨some 7, .fieldAddr 1, [.tmp 1 false], some (6, true)⟩,
        ⟨some 8, .loadF 0 false 1 false, [.tmp 7 true], some (6, true)⟩,
        ⟨some 9, .len .sl, [.tmp 8 true], some (6, true)⟩,
        ⟨some 10, .bin .eql, [.tmp 9 true, .const (.int .i64 0)], some (6, true)⟩,
        ⟨some 11, .pick, [.tmp 6 true, .tmp 10 true, .const (.bool false)], none⟩,
        ⟨some 12, .move, [.tmp 11 true], none⟩,
        ⟨some 13, .fieldAddr 2, [.tmp 1 true], some (12, true)⟩,
        ⟨some 14, .loadF 0 false 1 false, [.tmp 13 true], some (12, true)⟩,
        ⟨some 15, .un .not, [.tmp 14 true], some (12, true)⟩,
        ⟨some 16, .pick, [.tmp 12 true, .tmp 15 true, .const (.bool false)], none⟩,
        ⟨some 2, .move, [.tmp 16 true], none⟩] none [1, 7, 8, 9, 13, 14])
      .ret)) }

/-- (*runrig/heads.maker).fail -/

def s34 : SFunc := { fid := 34, mode := .scp, nparams := 2, nboxes := 0, clr := [], results := [], body :=
  (.seq
    (.region [
      ⟨some 4, .move, [.tmp 0 false], none⟩,
      ⟨some 5, .nilCheck, [.tmp 4 true], none⟩,
      ⟨some 6, .fieldAddr 1, [.tmp 5 true], none⟩,
      ⟨some 7, .fieldAddr 0, [.tmp 6 true], none⟩,
      ⟨some 8, .load false 1 false, [.tmp 7 true], none⟩,
      ⟨some 9, .bin .eql, [.tmp 8 true, .const (.int .i64 0)], none⟩] none [])
    (.cond (.tmp 9 true) []
      (.region [
        ⟨some 10, .move, [.tmp 0 true], none⟩,
        ⟨some 11, .move, [.tmp 1 true], none⟩,
        ⟨some 12, .build [.int .i64 0, .int .i64 0] [(0, 1), (1, 1)], [.const (.int .i64 3), .tmp 11 true], none⟩,
        ⟨some 13, .nilCheck, [.tmp 10 true], none⟩,
        ⟨some 14, .fieldAddr 1, [.tmp 13 true], none⟩,
        ⟨none, .store 2, [.tmp 14 true, .tmp 12 true], none⟩] none []) [0, 1]
      .skip)) }

/-- runrig/runrigref7.names -/
def s35_l0 : SCode :=
  (.seq
    (.seq
      (.region [
        ⟨some 5, .move, [.tmp 4 false], none⟩,
        ⟨some 6, .fieldAddr 0, [.tmp 1 false], none⟩,
        ⟨some 7, .loadF 0 false 1 false, [.tmp 6 true], none⟩,
        ⟨some 8, .len .sl, [.tmp 7 true], none⟩,
        ⟨some 9, .bin .lss, [.tmp 5 true, .tmp 8 true], none⟩] none [])
      (.cond (.tmp 9 true) []
        .skip [1, 4]
        (.exit 0)))
    (.seq
      (.block 1
        (.region [
          ⟨some 12, .move, [.tmp 3 true], none⟩,
          ⟨some 13, .fieldAddr 0, [.tmp 1 false], none⟩,
          ⟨some 14, .loadF 0 false 1 false, [.tmp 13 true], none⟩,
          ⟨some 15, .move, [.tmp 4 false], none⟩,
          ⟨some 16, .indexAddr 3, [.tmp 14 true, .tmp 15 true], none⟩,
          ⟨some 17, .fieldAddr 0, [.tmp 16 true], none⟩,
          ⟨some 18, .load false 1 false, [.tmp 17 true], none⟩,
          ⟨some 19, .lit 1 1 [.str []] [0], [.tmp 18 true], none⟩,
          ⟨some 20, .append 1 16, [.tmp 12 true, .tmp 19 true], none⟩,
          ⟨some 3, .move, [.tmp 20 true], none⟩] none []))
      (.region [
        ⟨some 10, .move, [.tmp 4 true], none⟩,
        ⟨some 11, .bin .add, [.tmp 10 true, .const (.int .i64 1)], none⟩,
        ⟨some 4, .move, [.tmp 11 true], none⟩] none [])))
def s35 : SFunc := { fid := 35, mode := .pure, nparams := 1, nboxes := 1, clr := [], results := [.tmp 2 true], body :=
  (.seq
    (.region [
      ⟨some 1, .boxF 0 3, [.tmp 0 true], none⟩,
      ⟨some 2, .move, [.const (.nilSl)], none⟩] none [2])
    (.seq
      (.region [
        ⟨some 3, .move, [.const (.nilSl)], none⟩] none [])
      (.seq
        (.seq
          (.region [
            ⟨some 4, .move, [.const (.int .i64 0)], none⟩] none [])
          (.block 0
            (.loop s35_l0)))
        (.seq
          (.region [
            ⟨some 21, .move, [.tmp 3 true], none⟩,
            ⟨some 2, .move, [.tmp 21 true], none⟩] none [])
          .ret)))) }

/-- runrig/runrigref7.wrong -/

def s36 : SFunc := { fid := 36, mode := .pure, nparams := 1, nboxes := 1, clr := [], results := [.box 2 0 2 true], body :=
  (.seq
    (.region [
      ⟨some 2, .allocF 0 [.int .i64 0, .int .i64 0], [], none⟩] none [])
    (.seq
      (.region [
        ⟨some 3, .move, [.tmp 0 true], none⟩,
        ⟨some 4, .build [.int .i64 0, .int .i64 0] [(0, 1), (1, 1)], [.const (.int .i64 3), .tmp 3 true], none⟩,
        ⟨none, .storeF 0 2, [.tmp 2 false, .tmp 4 true], none⟩] none [])
      .ret)) }

/-- runrig/runrigref7.fields -/
def s37_l0 : SCode :=
  (.seq
    (.seq
      (.region [
        ⟨some 27, .move, [.tmp 10 false], none⟩,
        ⟨some 28, .move, [.tmp 7 false], none⟩,
        ⟨some 29, .bin .lss, [.tmp 27 true, .tmp 28 true], none⟩] none [])
      (.cond (.tmp 29 true) []
        .skip [10]
        (.exit 2)))
    (.seq
      (.block 3
        (.region [
          ⟨some 32, .move, [.tmp 9 true], none⟩,
          ⟨some 33, .move, [.tmp 32 true], none⟩,
          ⟨some 34, .move, [.tmp 1 false], some (33, true)⟩,
          ⟨some 35, .move, [.tmp 10 false], some (33, true)⟩,
          ⟨some 36, .indexAddr 4, [.tmp 34 true, .tmp 35 true], some (33, true)⟩,
          ⟨some 37, .fieldAddr 0, [.tmp 36 true], some (33, true)⟩,
          ⟨some 38, .load false 1 false, [.tmp 37 true], some (33, true)⟩,
          ⟨some 39, .move, [.tmp 1 false], some (33, true)⟩,
          ⟨some 40, .move, [.tmp 7 false], some (33, true)⟩,
          ⟨some 41, .indexAddr 4, [.tmp 39 true, .tmp 40 true], some (33, true)⟩,
          ⟨some 42, .fieldAddr 0, [.tmp 41 true], some (33, true)⟩,
          ⟨some 43, .load false 1 false, [.tmp 42 true], some (33, true)⟩,
          ⟨some 44, .bin .neq, [.tmp 38 true, .tmp 43 true], some (33, true)⟩,
          ⟨some 45, .pick, [.tmp 33 false, .tmp 44 true, .const (.bool false)], none⟩,
          ⟨some 9, .move, [.tmp 45 true], none⟩] (some []) [33, 34, 35, 36, 37, 38, 39, 40, 41, 42, 43]))
      (.region [
        ⟨some 30, .move, [.tmp 10 true], none⟩,
        ⟨some 31, .bin .add, [.tmp 30 true, .const (.int .i64 1)], none⟩,
        ⟨some 10, .move, [.tmp 31 true], none⟩] none [])))
def s37_l1 : SCode :=
  (.seq
    (.seq
      (.region [
        ⟨some 11, .move, [.tmp 7 false], none⟩,
        ⟨some 12, .move, [.tmp 1 false], none⟩,
        ⟨some 13, .len .sl, [.tmp 12 true], none⟩,
        ⟨some 14, .bin .lss, [.tmp 11 true, .tmp 13 true], none⟩] none [])
      (.cond (.tmp 14 true) []
        .skip [0, 1, 7]
        (.exit 0)))
    (.seq
      (.block 1
        (.seq
          (.region [
            ⟨some 18, .move, [.tmp 0 false], none⟩,
            ⟨some 19, .move, [.tmp 1 false], none⟩,
            ⟨some 20, .move, [.tmp 7 false], none⟩,
            ⟨some 21, .indexAddr 4, [.tmp 19 true, .tmp 20 true], none⟩,
            ⟨some 22, .fieldAddr 1, [.tmp 21 true], none⟩,
            ⟨some 23, .load true 2 false, [.tmp 22 true], none⟩,
            ⟨some 24, .call 16, [.tmp 18 true, .tmp 23 true], none⟩,
            ⟨some 17, .move, [.tmp 24 true], none⟩,
            ⟨some 25, .extract 0, [.tmp 17 false], none⟩,
            ⟨some 26, .extract 1, [.tmp 17 true], none⟩,
            ⟨some 8, .allocF 1 [.int .i64 0, .int .i64 0, .int .i64 0], [], none⟩,
            ⟨none, .storeF 1 3, [.tmp 8 false, .tmp 25 true], none⟩,
            ⟨some 9, .move, [.tmp 26 true], none⟩] none [])
          (.seq
            (.seq
              (.region [
                ⟨some 10, .move, [.const (.int .i64 0)], none⟩] none [])
              (.block 2
                (.loop s37_l0)))
            (.seq
              (.seq
                (.region [
                  ⟨some 46, .move, [.tmp 9 true], none⟩,
                  ⟨some 47, .un .not, [.tmp 46 true], none⟩] none [])
                (.cond (.tmp 47 true) [0, 6, 8]
                  (.seq
                    (.region [
                      ⟨some 48, .move, [.tmp 1 true], none⟩,
                      ⟨some 49, .move, [.tmp 7 true], none⟩,
                      ⟨some 50, .indexAddr 4, [.tmp 48 true, .tmp 49 true], none⟩,
                      ⟨some 51, .fieldAddr 3, [.tmp 50 true], none⟩,
                      ⟨some 52, .load false 1 false, [.tmp 51 true], none⟩,
                      ⟨some 53, .call 36, [.tmp 52 true], none⟩,
                      ⟨some 4, .move, [.const (.nilSl)], none⟩,
                      ⟨none, .storeF 0 2, [.tmp 5 false, .tmp 53 true], none⟩] none [])
                    .ret) []
                  .skip))
              (.region [
                ⟨some 54, .move, [.tmp 6 true], none⟩,
                ⟨some 55, .move, [.tmp 1 false], none⟩,
                ⟨some 56, .move, [.tmp 7 false], none⟩,
                ⟨some 57, .indexAddr 4, [.tmp 55 true, .tmp 56 true], none⟩,
                ⟨some 58, .fieldAddr 0, [.tmp 57 true], none⟩,
                ⟨some 59, .load false 1 false, [.tmp 58 true], none⟩,
                ⟨some 60, .loadF 1 true 3 false, [.tmp 8 true], none⟩,
                ⟨some 61, .build [.str [], .int .i64 0, .int .i64 0, .int .i64 0] [(0, 1), (1, 3)], [.tmp 59 true, .tmp 60 true], none⟩,
                ⟨some 62, .lit 4 1 [.str [], .int .i64 0, .int .i64 0, .int .i64 0] [0], [.tmp 61 true], none⟩,
                ⟨some 63, .append 4 40, [.tmp 54 true, .tmp 62 true], none⟩,
                ⟨some 6, .move, [.tmp 63 true], none⟩] (some []) [])))))
      (.region [
        ⟨some 15, .move, [.tmp 7 true], none⟩,
        ⟨some 16, .bin .add, [.tmp 15 true, .const (.int .i64 1)], none⟩,
        ⟨some 7, .move, [.tmp 16 true], none⟩] none [])))
def s37 : SFunc := { fid := 37, mode := .pure, nparams := 2, nboxes := 2, clr := [], results := [.tmp 4 true, .box 5 0 2 true], body :=
  (.seq
    (.region [
      ⟨some 4, .move, [.const (.nilSl)], none⟩,
      ⟨some 5, .allocF 0 [.int .i64 0, .int .i64 0], [], none⟩] none [4])
    (.seq
      (.region [
        ⟨some 6, .move, [.const (.nilSl)], none⟩] none [])
      (.seq
        (.seq
          (.region [
            ⟨some 7, .move, [.const (.int .i64 0)], none⟩] none [])
          (.block 0
            (.loop s37_l1)))
        (.seq
          (.region [
            ⟨some 64, .move, [.tmp 6 true], none⟩,
            ⟨some 65, .build [.int .i64 0, .int .i64 0] [], [], none⟩,
            ⟨some 4, .move, [.tmp 64 true], none⟩,
            ⟨none, .storeF 0 2, [.tmp 5 false, .tmp 65 true], none⟩] none [])
          .ret)))) }

/-- runrig/runrigref7.SameFields -/
def s38_l0 : SCode :=
  (.seq
    (.seq
      (.region [
        ⟨some 11, .move, [.tmp 5 false], none⟩,
        ⟨some 12, .move, [.tmp 0 false], none⟩,
        ⟨some 13, .len .sl, [.tmp 12 true], none⟩,
        ⟨some 14, .bin .lss, [.tmp 11 true, .tmp 13 true], none⟩] none [])
      (.cond (.tmp 14 true) []
        .skip [0, 1, 5]
        (.exit 0)))
    (.seq
      (.block 1
        (.seq
          (.region [
            ⟨some 17, .move, [.tmp 0 false], none⟩,
            ⟨some 18, .move, [.tmp 5 false], none⟩,
            ⟨some 19, .indexAddr 4, [.tmp 17 true, .tmp 18 true], none⟩,
            ⟨some 20, .load true 4 false, [.tmp 19 true], none⟩,
            ⟨some 21, .move, [.tmp 1 false], none⟩,
            ⟨some 22, .move, [.tmp 5 false], none⟩,
            ⟨some 23, .indexAddr 4, [.tmp 21 true, .tmp 22 true], none⟩,
            ⟨some 24, .load true 4 false, [.tmp 23 true], none⟩,
            ⟨some 25, .eqv (.flat [.str, .int, .int, .int]) true, [.tmp 20 true, .tmp 24 true], none⟩] (some []) [])
          (.cond (.tmp 25 true) [0, 1, 5]
            (.seq
              (.region [
                ⟨some 4, .move, [.const (.bool false)], none⟩] none [])
              .ret) []
            .skip)))
      (.region [
        ⟨some 15, .move, [.tmp 5 true], none⟩,
        ⟨some 16, .bin .add, [.tmp 15 true, .const (.int .i64 1)], none⟩,
        ⟨some 5, .move, [.tmp 16 true], none⟩] none [])))
def s38 : SFunc := { fid := 38, mode := .pure, nparams := 2, nboxes := 0, clr := [], results := [.tmp 4 false], body :=
  (.seq
    (.region [
      ⟨some 4, .move, [.const (.bool false)], none⟩] none [4])
    (.seq
      (.seq
        (.region [
          ⟨some 6, .move, [.tmp 0 false], none⟩,
          ⟨some 7, .len .sl, [.tmp 6 true], none⟩,
          ⟨some 8, .move, [.tmp 1 false], none⟩,
          ⟨some 9, .len .sl, [.tmp 8 true], none⟩,
          ⟨some 10, .bin .neq, [.tmp 7 true, .tmp 9 true], none⟩] none [])
        (.cond (.tmp 10 true) [0, 1]
          (.seq
            (.region [
              ⟨some 4, .move, [.const (.bool false)], none⟩] none [])
            .ret) []
          .skip))
      (.seq
        (.seq
          (.region [
            ⟨some 5, .move, [.const (.int .i64 0)], none⟩] none [])
          (.block 0
            (.loop s38_l0)))
        (.seq
          (.region [
            ⟨some 4, .move, [.const (.bool true)], none⟩] none [])
          .ret)))) }

/-- slices.Index[[]string,string] -/
def s39_l0 : SCode :=
  (.seq
    (.region [
      ⟨some 9, .bin .lss, [.tmp 8 false, .tmp 7 false], none⟩] none [])
    (.seq
      (.cond (.tmp 9 true) []
        .skip [0, 1, 7, 8]
        (.exit 0))
      (.seq
        (.block 1
          (.seq
            (.region [
              ⟨some 10, .move, [.tmp 8 false], none⟩,
              ⟨some 5, .move, [.tmp 10 true], none⟩] none [])
            (.seq
              (.region [
                ⟨some 11, .move, [.tmp 1 false], none⟩,
                ⟨some 12, .move, [.tmp 0 false], none⟩,
                ⟨some 13, .move, [.tmp 5 false], none⟩,
                ⟨some 14, .indexAddr 1, [.tmp 12 true, .tmp 13 true], none⟩,
                ⟨some 15, .load false 1 false, [.tmp 14 true], none⟩,
                ⟨some 16, .bin .eql, [.tmp 11 true, .tmp 15 true], none⟩] none [])
              (.cond (.tmp 16 true) [0, 1, 7, 8]
                (.seq
                  (.region [
                    ⟨some 17, .move, [.tmp 5 true], none⟩,
                    ⟨some 4, .move, [.tmp 17 true], none⟩] none [])
                  .ret) [5]
                .skip))))
        (.region [
          ⟨some 18, .bin .add, [.tmp 8 true, .const (.int .i64 1)], none⟩,
          ⟨some 8, .move, [.tmp 18 true], none⟩] none []))))
def s39 : SFunc := { fid := 39, mode := .pure, nparams := 2, nboxes := 0, clr := [], results := [.tmp 4 false], body :=
  (.seq
    (.region [
      ⟨some 4, .move, [.const (.int .i64 0)], none⟩] none [4])
    (.seq
      (.seq
        (.region [
          ⟨some 6, .move, [.tmp 0 false], none⟩,
          ⟨some 7, .len .sl, [.tmp 6 true], none⟩,
          ⟨some 8, .move, [.const (.int .i64 0)], none⟩] none [])
        (.block 0
          (.loop s39_l0)))
      (.seq
        (.region [
          ⟨some 4, .move, [.const (.int .i64 (-1))], none⟩] none [])
        .ret))) }

/-- runrig/runrigref2.blank -/
def s40_l0 : SCode :=
  (.seq
    (.seq
      (.region [
        ⟨some 49, .move, [.tmp 1 false], none⟩,
        ⟨some 50, .move, [.tmp 0 false], none⟩,
        ⟨some 51, .len .str, [.tmp 50 true], none⟩,
        ⟨some 52, .bin .lss, [.tmp 49 true, .tmp 51 true], none⟩,
        ⟨some 53, .move, [.tmp 52 true], none⟩,
        ⟨some 54, .move, [.tmp 0 false], some (53, true)⟩,
        ⟨some 55, .move, [.tmp 1 false], some (53, true)⟩,
        ⟨some 56, .index, [.tmp 54 true, .tmp 55 true], some (53, true)⟩,
        ⟨some 57, .bin .neq, [.tmp 56 true, .const (.int .u8 10)], some (53, true)⟩,
        ⟨some 58, .pick, [.tmp 53 true, .tmp 57 true, .const (.bool false)], none⟩] none [54, 55, 56])
      (.cond (.tmp 58 true) []
        .skip []
        (.exit 3)))
    (.block 4
      (.region [
        ⟨some 59, .move, [.tmp 1 true], none⟩,
        ⟨some 60, .bin .add, [.tmp 59 true, .const (.int .i64 1)], none⟩,
        ⟨some 1, .move, [.tmp 60 true], none⟩] none [])))
def s40_l1 : SCode :=
  (.seq
    (.seq
      (.region [
        ⟨some 5, .move, [.tmp 1 false], none⟩,
        ⟨some 6, .move, [.tmp 0 false], none⟩,
        ⟨some 7, .len .str, [.tmp 6 true], none⟩,
        ⟨some 8, .bin .lss, [.tmp 5 true, .tmp 7 true], none⟩] none [])
      (.cond (.tmp 8 true) []
        .skip [0]
        (.exit 0)))
    (.block 1
      (.block 2
        (.seq
          (.region [
            ⟨some 11, .move, [.tmp 0 false], none⟩,
            ⟨some 12, .move, [.tmp 1 false], none⟩,
            ⟨some 13, .index, [.tmp 11 true, .tmp 12 true], none⟩,
            ⟨some 14, .bin .eql, [.tmp 13 true, .const (.int .u8 32)], none⟩,
            ⟨some 15, .move, [.tmp 14 true], none⟩,
            ⟨some 16, .move, [.tmp 0 false], some (15, false)⟩,
            ⟨some 17, .move, [.tmp 1 false], some (15, false)⟩,
            ⟨some 18, .index, [.tmp 16 true, .tmp 17 true], some (15, false)⟩,
            ⟨some 19, .bin .eql, [.tmp 18 true, .const (.int .u8 9)], some (15, false)⟩,
            ⟨some 20, .pick, [.tmp 15 true, .const (.bool true), .tmp 19 true], none⟩,
            ⟨some 21, .move, [.tmp 20 true], none⟩,
            ⟨some 22, .move, [.tmp 0 false], some (21, false)⟩,
            ⟨some 23, .move, [.tmp 1 false], some (21, false)⟩,
            ⟨some 24, .index, [.tmp 22 true, .tmp 23 true], some (21, false)⟩,
            ⟨some 25, .bin .eql, [.tmp 24 true, .const (.int .u8 10)], some (21, false)⟩,
            ⟨some 26, .pick, [.tmp 21 true, .const (.bool true), .tmp 25 true], none⟩,
            ⟨some 27, .move, [.tmp 26 true], none⟩,
            ⟨some 28, .move, [.tmp 0 false], some (27, false)⟩,
            ⟨some 29, .move, [.tmp 1 false], some (27, false)⟩,
            ⟨some 30, .index, [.tmp 28 true, .tmp 29 true], some (27, false)⟩,
            ⟨some 31, .bin .eql, [.tmp 30 true, .const (.int .u8 13)], some (27, false)⟩,
            ⟨some 32, .pick, [.tmp 27 true, .const (.bool true), .tmp 31 true], none⟩,
            ⟨some 10, .move, [.tmp 32 true], none⟩] none [16, 17, 18, 22, 23, 24, 28, 29, 30])
          (.cond (.tmp 10 true) []
            (.region [
              ⟨some 33, .move, [.tmp 1 true], none⟩,
              ⟨some 34, .bin .add, [.tmp 33 true, .const (.int .i64 1)], none⟩,
              ⟨some 1, .move, [.tmp 34 true], none⟩] none []) []
            (.seq
              (.region [
                ⟨some 36, .move, [.tmp 0 false], none⟩,
                ⟨some 37, .len .str, [.tmp 36 true], none⟩,
                ⟨some 38, .move, [.tmp 1 false], none⟩,
                ⟨some 39, .bin .sub, [.tmp 37 true, .tmp 38 true], none⟩,
                ⟨some 40, .bin .geq, [.tmp 39 true, .const (.int .i64 2)], none⟩,
                ⟨some 41, .move, [.tmp 40 true], none⟩,
                ⟨some 42, .move, [.tmp 0 false], some (41, true)⟩,
                ⟨some 43, .move, [.tmp 1 false], some (41, true)⟩,
                ⟨some 44, .move, [.tmp 1 false], some (41, true)⟩,
                ⟨some 45, .bin .add, [.tmp 44 true, .const (.int .i64 2)], some (41, true)⟩,
                ⟨some 46, .slice true true true false 0, [.tmp 42 true, .tmp 43 true, .tmp 45 true], some (41, true)⟩,
                ⟨some 47, .bin .eql, [.tmp 46 true, .const (.str [47, 47])], some (41, true)⟩,
                ⟨some 48, .pick, [.tmp 41 true, .tmp 47 true, .const (.bool false)], none⟩,
                ⟨some 35, .move, [.tmp 48 true], none⟩] none [42, 43, 44, 45, 46])
              (.cond (.tmp 35 true) []
                (.block 3
                  (.loop s40_l0)) [0]
                (.seq
                  (.region [
                    ⟨some 9, .move, [.tmp 1 true], none⟩,
                    ⟨some 4, .move, [.tmp 9 true], none⟩] none [])
                  .ret))))))))
def s40 : SFunc := { fid := 40, mode := .pure, nparams := 2, nboxes := 0, clr := [], results := [.tmp 4 false], body :=
  (.seq
    (.region [
      ⟨some 4, .move, [.const (.int .i64 0)], none⟩] none [4])
    (.seq
      (.block 0
        (.loop s40_l1))
      (.seq
        (.region [
          ⟨some 61, .move, [.tmp 1 true], none⟩,
          ⟨some 4, .move, [.tmp 61 true], none⟩] none [])
        .ret))) }

end Code7
