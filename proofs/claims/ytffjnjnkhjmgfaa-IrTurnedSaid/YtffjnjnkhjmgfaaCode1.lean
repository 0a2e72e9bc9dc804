/- The annotated code of the loaded program, printed by wip/tools/gen.py. -/
import Derived.Test.YtffjnjnkhjmgfaaA1

set_option maxRecDepth 100000
namespace Code12
open Ax Go

/-- runrig/runriglaw12.IrRight -/

def s3 : SFunc := { fid := 3, mode := .pure, nparams := 1, nboxes := 1, clr := [], results := [.tmp 2 false], body :=
  (.seq
    (.region [
      ⟨some 1, .boxF 0 5, [.tmp 0 true], none⟩,
      ⟨some 2, .move, [.const (.bool false)], none⟩] none [2])
    (.seq
      (.seq
        (.region [
          ⟨some 3, .loadF 0 true 5 false, [.tmp 1 false], none⟩,
          ⟨some 4, .call 8, [.tmp 3 true], none⟩] none [])
        (.cond (.tmp 4 true) [1]
          (.seq
            (.region [
              ⟨some 2, .move, [.const (.bool true)], none⟩] none [])
            .ret) []
          .skip))
      (.seq
        (.region [
          ⟨some 5, .loadF 0 true 5 false, [.tmp 1 false], none⟩,
          ⟨some 6, .call 9, [.tmp 5 true], none⟩,
          ⟨some 7, .loadF 0 true 5 false, [.tmp 1 false], none⟩,
          ⟨some 8, .call 10, [.tmp 7 true], none⟩,
          ⟨some 9, .eqv (.sc .bool) false, [.tmp 6 true, .tmp 8 true], none⟩,
          ⟨some 10, .move, [.tmp 9 true], none⟩,
          ⟨some 11, .call 11, [], some (10, true)⟩,
          ⟨some 12, .pick, [.tmp 10 false, .tmp 11 true, .const (.bool false)], none⟩,
          ⟨some 2, .move, [.tmp 12 true], none⟩] (some []) [1, 10])
        .ret))) }

/-- runrig/runriglaw12.IrSteps -/

def s4 : SFunc := { fid := 4, mode := .pure, nparams := 3, nboxes := 2, clr := [], results := [.tmp 6 false], body :=
  (.seq
    (.region [
      ⟨some 3, .boxF 0 5, [.tmp 0 true], none⟩,
      ⟨some 5, .boxF 1 6, [.tmp 2 true], none⟩,
      ⟨some 6, .move, [.const (.bool false)], none⟩] none [6])
    (.seq
      (.seq
        (.region [
          ⟨some 7, .loadF 0 true 5 false, [.tmp 3 false], none⟩,
          ⟨some 8, .call 8, [.tmp 7 true], none⟩,
          ⟨some 9, .move, [.tmp 8 true], none⟩,
          ⟨some 10, .fieldAddr 5, [.tmp 5 false], some (9, false)⟩,
          ⟨some 11, .loadF 1 false 1 false, [.tmp 10 true], some (9, false)⟩,
          ⟨some 12, .len .sl, [.tmp 11 true], some (9, false)⟩,
          ⟨some 13, .bin .gtr, [.tmp 12 true, .const (.int .i64 20)], some (9, false)⟩,
          ⟨some 14, .pick, [.tmp 9 true, .const (.bool true), .tmp 13 true], none⟩] none [10, 11, 12])
        (.cond (.tmp 14 true) [1, 3, 5]
          (.seq
            (.region [
              ⟨some 6, .move, [.const (.bool true)], none⟩] none [])
            .ret) []
          .skip))
      (.seq
        (.region [
          ⟨some 15, .loadF 0 true 5 false, [.tmp 3 false], none⟩,
          ⟨some 16, .move, [.tmp 1 false], none⟩,
          ⟨some 17, .loadF 1 true 6 false, [.tmp 5 false], none⟩,
          ⟨some 18, .call 12, [.tmp 15 true, .tmp 16 true, .tmp 17 true], none⟩,
          ⟨some 19, .loadF 0 true 5 false, [.tmp 3 false], none⟩,
          ⟨some 20, .move, [.tmp 1 false], none⟩,
          ⟨some 21, .loadF 1 true 6 false, [.tmp 5 false], none⟩,
          ⟨some 22, .call 13, [.tmp 19 true, .tmp 20 true, .tmp 21 true], none⟩,
          ⟨some 23, .eqv (.sc .bool) false, [.tmp 18 true, .tmp 22 true], none⟩,
          ⟨some 24, .move, [.tmp 23 true], none⟩,
          ⟨some 25, .call 11, [], some (24, true)⟩,
          ⟨some 26, .pick, [.tmp 24 false, .tmp 25 true, .const (.bool false)], none⟩,
          ⟨some 6, .move, [.tmp 26 true], none⟩] (some []) [1, 3, 5, 24])
        .ret))) }

/-- runrig/runriglaw12.IrTurned -/

def s5 : SFunc := { fid := 5, mode := .pure, nparams := 4, nboxes := 3, clr := [], results := [.tmp 8 false], body :=
  (.seq
    (.region [
      ⟨some 4, .boxF 0 5, [.tmp 0 true], none⟩,
      ⟨some 7, .boxF 1 6, [.tmp 3 true], none⟩,
      ⟨some 8, .move, [.const (.bool false)], none⟩] none [8])
    (.seq
      (.seq
        (.region [
          ⟨some 12, .loadF 0 true 5 false, [.tmp 4 false], none⟩,
          ⟨some 13, .call 8, [.tmp 12 true], none⟩,
          ⟨some 14, .move, [.tmp 13 true], none⟩,
          ⟨some 15, .loadF 0 true 5 false, [.tmp 4 false], some (14, false)⟩,
          ⟨some 16, .call 10, [.tmp 15 true], some (14, false)⟩,
          ⟨some 17, .un .not, [.tmp 16 true], some (14, false)⟩,
          ⟨some 18, .pick, [.tmp 14 true, .const (.bool true), .tmp 17 true], none⟩,
          ⟨some 19, .move, [.tmp 18 true], none⟩,
          ⟨some 20, .move, [.tmp 1 false], some (19, false)⟩,
          ⟨some 21, .bin .lss, [.tmp 20 true, .const (.int .i64 0)], some (19, false)⟩,
          ⟨some 22, .pick, [.tmp 19 true, .const (.bool true), .tmp 21 true], none⟩,
          ⟨some 23, .move, [.tmp 22 true], none⟩,
          ⟨some 24, .move, [.tmp 1 false], some (23, false)⟩,
          ⟨some 25, .fieldAddr 2, [.tmp 4 false], some (23, false)⟩,
          ⟨some 26, .loadF 0 false 1 false, [.tmp 25 true], some (23, false)⟩,
          ⟨some 27, .len .sl, [.tmp 26 true], some (23, false)⟩,
          ⟨some 28, .bin .geq, [.tmp 24 true, .tmp 27 true], some (23, false)⟩,
          ⟨some 29, .pick, [.tmp 23 true, .const (.bool true), .tmp 28 true], none⟩,
          ⟨some 30, .move, [.tmp 29 true], none⟩,
          ⟨some 31, .fieldAddr 5, [.tmp 7 false], some (30, false)⟩,
          ⟨some 32, .loadF 1 false 1 false, [.tmp 31 true], some (30, false)⟩,
          ⟨some 33, .len .sl, [.tmp 32 true], some (30, false)⟩,
          ⟨some 34, .bin .gtr, [.tmp 33 true, .const (.int .i64 20)], some (30, false)⟩,
          ⟨some 35, .pick, [.tmp 30 true, .const (.bool true), .tmp 34 true], none⟩] none [15, 16, 20, 24, 25, 26, 27, 31, 32, 33])
        (.cond (.tmp 35 true) [1, 2, 4, 7]
          (.seq
            (.region [
              ⟨some 8, .move, [.const (.bool true)], none⟩] none [])
            .ret) []
          .skip))
      (.seq
        (.region [
          ⟨some 36, .fieldAddr 2, [.tmp 4 false], none⟩,
          ⟨some 37, .loadF 0 false 1 false, [.tmp 36 true], none⟩,
          ⟨some 38, .move, [.tmp 1 false], none⟩,
          ⟨some 39, .indexAddr 7, [.tmp 37 true, .tmp 38 true], none⟩,
          ⟨some 40, .fieldAddr 6, [.tmp 39 true], none⟩,
          ⟨some 41, .load false 1 false, [.tmp 40 true], none⟩,
          ⟨some 42, .len .sl, [.tmp 41 true], none⟩,
          ⟨some 9, .move, [.tmp 42 true], none⟩] none [])
        (.seq
          (.region [
            ⟨some 43, .move, [.tmp 2 true], none⟩,
            ⟨some 44, .bin .and, [.tmp 43 true, .const (.int .i64 1023)], none⟩,
            ⟨some 45, .move, [.tmp 9 false], none⟩,
            ⟨some 46, .bin .rem, [.tmp 44 true, .tmp 45 true], none⟩,
            ⟨some 2, .move, [.tmp 46 true], none⟩] none [])
          (.seq
            (.region [
              ⟨some 47, .loadF 0 true 5 false, [.tmp 4 false], none⟩,
              ⟨some 10, .allocF 2 [.nilSl, .nilSl, .nilSl, .nilSl, .int .i64 0], [], none⟩,
              ⟨none, .storeF 2 5, [.tmp 10 false, .tmp 47 true], none⟩] none [])
            (.seq
              (.region [
                ⟨some 48, .fieldAddr 2, [.tmp 4 false], none⟩,
                ⟨some 49, .loadF 0 false 1 false, [.tmp 48 true], none⟩,
                ⟨some 50, .appendM 7 88, [.const (.nilSl), .tmp 49 true], none⟩,
                ⟨some 51, .fieldAddr 2, [.tmp 10 false], none⟩,
                ⟨none, .storeF 2 1, [.tmp 51 true, .tmp 50 true], none⟩] none [])
              (.seq
                (.region [
                  ⟨some 52, .fieldAddr 2, [.tmp 10 false], none⟩,
                  ⟨some 53, .loadF 2 false 1 false, [.tmp 52 true], none⟩,
                  ⟨some 54, .move, [.tmp 1 false], none⟩,
                  ⟨some 55, .fieldAddr 2, [.tmp 4 false], none⟩,
                  ⟨some 56, .loadF 0 false 1 false, [.tmp 55 true], none⟩,
                  ⟨some 57, .move, [.tmp 1 false], none⟩,
                  ⟨some 58, .indexAddr 7, [.tmp 56 true, .tmp 57 true], none⟩,
                  ⟨some 59, .fieldAddr 6, [.tmp 58 true], none⟩,
                  ⟨some 60, .load false 1 false, [.tmp 59 true], none⟩,
                  ⟨some 61, .appendM 6 64, [.const (.nilSl), .tmp 60 true], none⟩,
                  ⟨some 62, .indexAddr 7, [.tmp 53 true, .tmp 54 true], none⟩,
                  ⟨some 63, .fieldAddr 6, [.tmp 62 true], none⟩,
                  ⟨none, .store 1, [.tmp 63 true, .tmp 61 true], none⟩] (some []) [])
                (.seq
                  (.region [
                    ⟨some 64, .fieldAddr 2, [.tmp 10 false], none⟩,
                    ⟨some 65, .loadF 2 false 1 false, [.tmp 64 true], none⟩,
                    ⟨some 66, .move, [.tmp 1 false], none⟩,
                    ⟨some 67, .indexAddr 7, [.tmp 65 true, .tmp 66 true], none⟩,
                    ⟨some 68, .fieldAddr 6, [.tmp 67 true], none⟩,
                    ⟨some 69, .load false 1 false, [.tmp 68 true], none⟩,
                    ⟨some 70, .move, [.tmp 2 false], none⟩,
                    ⟨some 71, .loadF 1 true 6 false, [.tmp 7 false], none⟩,
                    ⟨some 72, .indexAddr 6, [.tmp 69 true, .tmp 70 true], none⟩,
                    ⟨none, .store 6, [.tmp 72 true, .tmp 71 true], none⟩] (some []) [])
                  (.seq
                    (.region [
                      ⟨some 73, .fieldAddr 0, [.tmp 7 false], none⟩,
                      ⟨some 74, .loadF 1 false 1 false, [.tmp 73 true], none⟩,
                      ⟨some 75, .bin .eql, [.tmp 74 true, .const (.int .i64 16)], none⟩,
                      ⟨some 76, .move, [.tmp 75 true], none⟩,
                      ⟨some 77, .fieldAddr 0, [.tmp 7 false], some (76, false)⟩,
                      ⟨some 78, .loadF 1 false 1 false, [.tmp 77 true], some (76, false)⟩,
                      ⟨some 79, .bin .eql, [.tmp 78 true, .const (.int .i64 17)], some (76, false)⟩,
                      ⟨some 80, .pick, [.tmp 76 true, .const (.bool true), .tmp 79 true], none⟩,
                      ⟨some 81, .move, [.tmp 80 true], none⟩,
                      ⟨some 82, .fieldAddr 0, [.tmp 7 false], some (81, false)⟩,
                      ⟨some 83, .loadF 1 false 1 false, [.tmp 82 true], some (81, false)⟩,
                      ⟨some 84, .bin .eql, [.tmp 83 true, .const (.int .i64 18)], some (81, false)⟩,
                      ⟨some 85, .pick, [.tmp 81 true, .const (.bool true), .tmp 84 true], none⟩,
                      ⟨some 11, .move, [.tmp 85 true], none⟩] none [77, 78, 82, 83])
                    (.seq
                      (.seq (.frzB 2 2)
                        (.region [
                          ⟨some 86, .loadF 2 true 5 false, [.tmp 10 true], none⟩,
                          ⟨some 87, .call 9, [.tmp 86 true], none⟩,
                          ⟨some 88, .loadF 0 true 5 false, [.tmp 4 true], none⟩,
                          ⟨some 89, .move, [.tmp 1 true], none⟩,
                          ⟨some 90, .loadF 1 true 6 false, [.tmp 7 true], none⟩,
                          ⟨some 91, .call 12, [.tmp 88 true, .tmp 89 true, .tmp 90 true], none⟩,
                          ⟨some 92, .move, [.tmp 91 true], none⟩,
                          ⟨some 93, .move, [.tmp 2 true], some (92, true)⟩,
                          ⟨some 94, .move, [.tmp 9 true], some (92, true)⟩,
                          ⟨some 95, .bin .sub, [.tmp 94 true, .const (.int .i64 1)], some (92, true)⟩,
                          ⟨some 96, .bin .lss, [.tmp 93 true, .tmp 95 true], some (92, true)⟩,
                          ⟨some 97, .move, [.tmp 96 true], some (92, true)⟩,
                          ⟨some 98, .move, [.tmp 11 true], some (97, false)⟩,
                          ⟨some 99, .pick, [.tmp 97 false, .const (.bool true), .tmp 98 true], some (92, true)⟩,
                          ⟨some 100, .pick, [.tmp 92 false, .tmp 99 true, .const (.bool false)], none⟩,
                          ⟨some 101, .eqv (.sc .bool) false, [.tmp 87 true, .tmp 100 true], none⟩,
                          ⟨some 102, .move, [.tmp 101 true], none⟩,
                          ⟨some 103, .call 11, [], some (102, true)⟩,
                          ⟨some 104, .pick, [.tmp 102 false, .tmp 103 true, .const (.bool false)], none⟩,
                          ⟨some 8, .move, [.tmp 104 true], none⟩] (some []) [2, 9, 11, 92, 93, 94, 95, 96, 97, 98, 102]))
                      .ret)))))))))) }

/-- runrig/runriglaw12.IrOps -/

def s6 : SFunc := { fid := 6, mode := .pure, nparams := 5, nboxes := 2, clr := [], results := [.tmp 10 false], body :=
  (.seq
    (.region [
      ⟨some 10, .move, [.const (.bool false)], none⟩] none [10])
    (.seq
      (.seq
        (.region [
          ⟨some 17, .move, [.tmp 0 false], none⟩,
          ⟨some 18, .bin .lss, [.tmp 17 true, .const (.int .i64 1)], none⟩,
          ⟨some 19, .move, [.tmp 18 true], none⟩,
          ⟨some 20, .move, [.tmp 0 false], some (19, false)⟩,
          ⟨some 21, .bin .gtr, [.tmp 20 true, .const (.int .i64 12)], some (19, false)⟩,
          ⟨some 22, .pick, [.tmp 19 true, .const (.bool true), .tmp 21 true], none⟩,
          ⟨some 23, .move, [.tmp 22 true], none⟩,
          ⟨some 24, .move, [.tmp 1 false], some (23, false)⟩,
          ⟨some 25, .bin .lss, [.tmp 24 true, .const (.int .i64 0)], some (23, false)⟩,
          ⟨some 26, .pick, [.tmp 23 true, .const (.bool true), .tmp 25 true], none⟩,
          ⟨some 27, .move, [.tmp 26 true], none⟩,
          ⟨some 28, .move, [.tmp 1 false], some (27, false)⟩,
          ⟨some 29, .bin .gtr, [.tmp 28 true, .const (.int .i64 4)], some (27, false)⟩,
          ⟨some 30, .pick, [.tmp 27 true, .const (.bool true), .tmp 29 true], none⟩,
          ⟨some 31, .move, [.tmp 30 true], none⟩,
          ⟨some 32, .move, [.tmp 2 false], some (31, false)⟩,
          ⟨some 33, .bin .lss, [.tmp 32 true, .const (.int .i64 0)], some (31, false)⟩,
          ⟨some 34, .pick, [.tmp 31 true, .const (.bool true), .tmp 33 true], none⟩,
          ⟨some 35, .move, [.tmp 34 true], none⟩,
          ⟨some 36, .move, [.tmp 2 false], some (35, false)⟩,
          ⟨some 37, .bin .gtr, [.tmp 36 true, .const (.int .i64 4)], some (35, false)⟩,
          ⟨some 38, .pick, [.tmp 35 true, .const (.bool true), .tmp 37 true], none⟩,
          ⟨some 39, .move, [.tmp 38 true], none⟩,
          ⟨some 40, .move, [.tmp 3 false], some (39, false)⟩,
          ⟨some 41, .bin .lss, [.tmp 40 true, .const (.int .i64 0)], some (39, false)⟩,
          ⟨some 42, .pick, [.tmp 39 true, .const (.bool true), .tmp 41 true], none⟩,
          ⟨some 43, .move, [.tmp 42 true], none⟩,
          ⟨some 44, .move, [.tmp 3 false], some (43, false)⟩,
          ⟨some 45, .bin .gtr, [.tmp 44 true, .const (.int .i64 4)], some (43, false)⟩,
          ⟨some 46, .pick, [.tmp 43 true, .const (.bool true), .tmp 45 true], none⟩,
          ⟨some 47, .move, [.tmp 46 true], none⟩,
          ⟨some 48, .move, [.tmp 4 false], some (47, false)⟩,
          ⟨some 49, .bin .lss, [.tmp 48 true, .const (.int .i64 0)], some (47, false)⟩,
          ⟨some 50, .pick, [.tmp 47 true, .const (.bool true), .tmp 49 true], none⟩,
          ⟨some 51, .move, [.tmp 50 true], none⟩,
          ⟨some 52, .move, [.tmp 4 false], some (51, false)⟩,
          ⟨some 53, .bin .gtr, [.tmp 52 true, .const (.int .i64 30)], some (51, false)⟩,
          ⟨some 54, .pick, [.tmp 51 true, .const (.bool true), .tmp 53 true], none⟩] none [20, 24, 28, 32, 36, 40, 44, 48, 52])
        (.cond (.tmp 54 true) [0, 1, 2, 3, 4]
          (.seq
            (.region [
              ⟨some 10, .move, [.const (.bool true)], none⟩] none [])
            .ret) []
          .skip))
      (.seq
        (.region [
          ⟨some 55, .build [.int .i64 0, .int .i64 0, .int .i64 0] [(0, 1)], [.const (.int .i64 1)], none⟩,
          ⟨some 56, .build [.int .i64 0, .int .i64 0, .int .i64 0] [(0, 1)], [.const (.int .i64 2)], none⟩,
          ⟨some 57, .build [.int .i64 0, .int .i64 0, .int .i64 0] [(0, 1)], [.const (.int .i64 3)], none⟩,
          ⟨some 58, .build [.int .i64 0, .int .i64 0, .int .i64 0] [(0, 1), (2, 1)], [.const (.int .i64 1), .const (.int .i64 1)], none⟩,
          ⟨some 59, .build [.int .i64 0, .int .i64 0, .int .i64 0] [(0, 1), (2, 1)], [.const (.int .i64 3), .const (.int .i64 1)], none⟩,
          ⟨some 60, .lit 3 5 [.int .i64 0, .int .i64 0, .int .i64 0] [0, 1, 2, 3, 4], [.tmp 55 true, .tmp 56 true, .tmp 57 true, .tmp 58 true, .tmp 59 true], none⟩,
          ⟨some 11, .move, [.tmp 60 true], none⟩] none [])
        (.seq
          (.region [
            ⟨some 61, .move, [.tmp 11 false], none⟩,
            ⟨some 62, .indexAddr 3, [.tmp 61 true, .const (.int .i64 0)], none⟩,
            ⟨some 63, .load true 3 false, [.tmp 62 true], none⟩,
            ⟨some 64, .build [.str [], .int .i64 0, .int .i64 0, .int .i64 0] [(0, 1), (1, 3)], [.const (.str [97]), .tmp 63 true], none⟩,
            ⟨some 65, .move, [.tmp 11 false], none⟩,
            ⟨some 66, .indexAddr 3, [.tmp 65 true, .const (.int .i64 2)], none⟩,
            ⟨some 67, .load true 3 false, [.tmp 66 true], none⟩,
            ⟨some 68, .build [.str [], .int .i64 0, .int .i64 0, .int .i64 0] [(0, 1), (1, 3)], [.const (.str [98]), .tmp 67 true], none⟩,
            ⟨some 69, .lit 4 2 [.str [], .int .i64 0, .int .i64 0, .int .i64 0] [0, 1], [.tmp 64 true, .tmp 68 true], none⟩,
            ⟨some 70, .build [.str [], .nilSl] [(0, 1), (1, 1)], [.const (.str [82]), .tmp 69 true], none⟩,
            ⟨some 71, .lit 2 1 [.str [], .nilSl] [0], [.tmp 70 true], none⟩,
            ⟨some 72, .move, [.tmp 11 false], none⟩,
            ⟨some 73, .indexAddr 3, [.tmp 72 true, .const (.int .i64 2)], none⟩,
            ⟨some 74, .load true 3 false, [.tmp 73 true], none⟩,
            ⟨some 75, .build [.int .i64 0, .int .i64 0, .int .i64 0, .int .i64 0] [(1, 3)], [.tmp 74 true], none⟩,
            ⟨some 76, .move, [.tmp 11 false], none⟩,
            ⟨some 77, .indexAddr 3, [.tmp 76 true, .const (.int .i64 3)], none⟩,
            ⟨some 78, .load true 3 false, [.tmp 77 true], none⟩,
            ⟨some 79, .build [.int .i64 0, .int .i64 0, .int .i64 0, .int .i64 0] [(1, 3)], [.tmp 78 true], none⟩,
            ⟨some 80, .move, [.tmp 11 false], none⟩,
            ⟨some 81, .indexAddr 3, [.tmp 80 true, .const (.int .i64 4)], none⟩,
            ⟨some 82, .load true 3 false, [.tmp 81 true], none⟩,
            ⟨some 83, .build [.int .i64 0, .int .i64 0, .int .i64 0, .int .i64 0] [(1, 3)], [.tmp 82 true], none⟩,
            ⟨some 84, .lit 4 3 [.int .i64 0, .int .i64 0, .int .i64 0, .int .i64 0] [0, 1, 2], [.tmp 75 true, .tmp 79 true, .tmp 83 true], none⟩,
            ⟨some 85, .build [.nilSl, .nilSl, .nilSl, .nilSl, .int .i64 0] [(0, 1), (3, 1)], [.tmp 71 true, .tmp 84 true], none⟩,
            ⟨some 12, .allocF 0 [.nilSl, .nilSl, .nilSl, .nilSl, .int .i64 0], [], none⟩,
            ⟨none, .storeF 0 5, [.tmp 12 false, .tmp 85 true], none⟩] (some []) [])
          (.seq
            (.region [
              ⟨some 86, .move, [.tmp 11 false], none⟩,
              ⟨some 87, .build [.int .i64 0, .int .i64 0, .int .i64 0, .int .i64 0, .int .i64 0, .nilSl] [(0, 1), (1, 1)], [.const (.int .i64 18), .const (.int .i64 (-1))], none⟩,
              ⟨some 88, .lit 6 1 [.int .i64 0, .int .i64 0, .int .i64 0, .int .i64 0, .int .i64 0, .nilSl] [0], [.tmp 87 true], none⟩,
              ⟨some 89, .build [.int .i64 0, .nilSl, .bool false, .int .i64 0, .int .i64 0, .int .i64 0, .nilSl] [(1, 1), (6, 1)], [.tmp 86 true, .tmp 88 true], none⟩,
              ⟨some 90, .lit 7 1 [.int .i64 0, .nilSl, .bool false, .int .i64 0, .int .i64 0, .int .i64 0, .nilSl] [0], [.tmp 89 true], none⟩,
              ⟨some 91, .fieldAddr 2, [.tmp 12 false], none⟩,
              ⟨none, .storeF 0 1, [.tmp 91 true, .tmp 90 true], none⟩] none [])
            (.seq
              (.region [
                ⟨some 92, .lit 1 5 [.int .i64 0] [0, 1, 2, 3, 4], [.const (.int .i64 (-1)), .const (.int .i64 (-1)), .const (.int .i64 (-1)), .const (.int .i64 0), .const (.int .i64 2)], none⟩,
                ⟨some 13, .move, [.tmp 92 true], none⟩] none [])
              (.seq
                (.region [
                  ⟨some 14, .move, [.const (.int .i64 (-1))], none⟩] none [])
                (.seq
                  (.seq
                    (.region [
                      ⟨some 93, .move, [.tmp 3 false], none⟩,
                      ⟨some 94, .bin .eql, [.tmp 93 true, .const (.int .i64 0)], none⟩] none [])
                    (.cond (.tmp 94 true) [14]
                      (.region [
                        ⟨some 14, .move, [.const (.int .i64 0)], none⟩] none []) []
                      .skip))
                  (.seq
                    (.seq
                      (.region [
                        ⟨some 95, .move, [.tmp 3 false], none⟩,
                        ⟨some 96, .bin .eql, [.tmp 95 true, .const (.int .i64 1)], none⟩] none [])
                      (.cond (.tmp 96 true) [14]
                        (.region [
                          ⟨some 14, .move, [.const (.int .i64 2)], none⟩] none []) []
                        .skip))
                    (.seq
                      (.region [
                        ⟨some 97, .move, [.tmp 0 false], none⟩,
                        ⟨some 98, .move, [.tmp 1 false], none⟩,
                        ⟨some 99, .build [.int .i64 0, .int .i64 0, .int .i64 0, .int .i64 0, .int .i64 0, .nilSl] [(0, 1), (1, 1)], [.tmp 97 true, .tmp 98 true], none⟩,
                        ⟨some 15, .allocF 1 [.int .i64 0, .int .i64 0, .int .i64 0, .int .i64 0, .int .i64 0, .nilSl], [], none⟩,
                        ⟨none, .storeF 1 6, [.tmp 15 false, .tmp 99 true], none⟩] none [])
                      (.seq
                        (.region [
                          ⟨some 16, .move, [.const (.bool false)], none⟩] none [])
                        (.seq
                          (.seq
                            (.region [
                              ⟨some 100, .move, [.tmp 0 true], none⟩] none [])
                            (.block 0
                              (.seq
                                (.region [
                                  ⟨some 102, .bin .eql, [.tmp 100 false, .const (.int .i64 1)], none⟩,
                                  ⟨some 101, .move, [.tmp 102 true], none⟩] none [])
                                (.cond (.tmp 101 true) [2, 3, 13, 14, 16, 100]
                                  (.seq
                                    (.region [
                                      ⟨some 103, .move, [.tmp 4 false], none⟩,
                                      ⟨some 104, .fieldAddr 4, [.tmp 15 false], none⟩,
                                      ⟨none, .storeF 1 1, [.tmp 104 true, .tmp 103 true], none⟩] none [])
                                    (.region [
                                      ⟨some 105, .move, [.tmp 1 false], none⟩,
                                      ⟨some 106, .bin .eql, [.tmp 105 true, .const (.int .i64 0)], none⟩,
                                      ⟨some 107, .move, [.tmp 106 true], none⟩,
                                      ⟨some 108, .move, [.tmp 1 true], some (107, false)⟩,
                                      ⟨some 109, .bin .eql, [.tmp 108 true, .const (.int .i64 1)], some (107, false)⟩,
                                      ⟨some 110, .move, [.tmp 109 true], some (107, false)⟩,
                                      ⟨some 111, .move, [.tmp 4 true], some (110, true)⟩,
                                      ⟨some 112, .bin .lss, [.tmp 111 true, .const (.int .i64 2)], some (110, true)⟩,
                                      ⟨some 113, .pick, [.tmp 110 true, .tmp 112 true, .const (.bool false)], some (107, false)⟩,
                                      ⟨some 114, .pick, [.tmp 107 true, .const (.bool true), .tmp 113 true], none⟩,
                                      ⟨some 16, .move, [.tmp 114 true], none⟩] none [1, 4, 108, 109, 110, 111, 112])) []
                                  (.seq
                                    (.region [
                                      ⟨some 116, .bin .eql, [.tmp 100 false, .const (.int .i64 2)], none⟩,
                                      ⟨some 115, .move, [.tmp 116 true], none⟩] none [])
                                    (.cond (.tmp 115 true) [2, 3, 4, 13, 14, 16, 100]
                                      (.region [
                                        ⟨some 117, .move, [.tmp 1 true], none⟩,
                                        ⟨some 118, .bin .gtr, [.tmp 117 true, .const (.int .i64 1)], none⟩,
                                        ⟨some 16, .move, [.tmp 118 true], none⟩] none []) []
                                      (.seq
                                        (.region [
                                          ⟨some 120, .bin .eql, [.tmp 100 false, .const (.int .i64 3)], none⟩,
                                          ⟨some 119, .move, [.tmp 120 true], none⟩] none [])
                                        (.cond (.tmp 119 true) [3, 4, 13, 14, 16, 100]
                                          (.seq
                                            (.region [
                                              ⟨some 121, .move, [.tmp 2 false], none⟩,
                                              ⟨some 122, .fieldAddr 2, [.tmp 15 false], none⟩,
                                              ⟨none, .storeF 1 1, [.tmp 122 true, .tmp 121 true], none⟩] none [])
                                            (.region [
                                              ⟨some 123, .move, [.tmp 1 true], none⟩,
                                              ⟨some 124, .move, [.tmp 2 true], none⟩,
                                              ⟨some 125, .bin .eql, [.tmp 123 true, .tmp 124 true], none⟩,
                                              ⟨some 16, .move, [.tmp 125 true], none⟩] none [])) []
                                          (.seq
                                            (.region [
                                              ⟨some 127, .bin .eql, [.tmp 100 false, .const (.int .i64 4)], none⟩,
                                              ⟨some 126, .move, [.tmp 127 true], none⟩] none [])
                                            (.cond (.tmp 126 true) [13, 14, 100]
                                              (.seq
                                                (.region [
                                                  ⟨some 128, .move, [.tmp 2 false], none⟩,
                                                  ⟨some 129, .move, [.tmp 3 false], none⟩,
                                                  ⟨some 130, .move, [.tmp 4 false], none⟩,
                                                  ⟨some 131, .fieldAddr 2, [.tmp 15 false], none⟩,
                                                  ⟨none, .storeF 1 1, [.tmp 131 true, .tmp 128 true], none⟩,
                                                  ⟨some 132, .fieldAddr 3, [.tmp 15 false], none⟩,
                                                  ⟨none, .storeF 1 1, [.tmp 132 true, .tmp 129 true], none⟩,
                                                  ⟨some 133, .fieldAddr 4, [.tmp 15 false], none⟩,
                                                  ⟨none, .storeF 1 1, [.tmp 133 true, .tmp 130 true], none⟩] none [])
                                                (.block 1
                                                  (.seq
                                                    (.region [
                                                      ⟨some 135, .move, [.tmp 4 false], none⟩,
                                                      ⟨some 136, .bin .geq, [.tmp 135 true, .const (.int .i64 14)], none⟩,
                                                      ⟨some 137, .move, [.tmp 136 true], none⟩,
                                                      ⟨some 138, .move, [.tmp 4 false], some (137, true)⟩,
                                                      ⟨some 139, .bin .leq, [.tmp 138 true, .const (.int .i64 18)], some (137, true)⟩,
                                                      ⟨some 140, .pick, [.tmp 137 true, .tmp 139 true, .const (.bool false)], none⟩,
                                                      ⟨some 134, .move, [.tmp 140 true], none⟩] none [138])
                                                    (.cond (.tmp 134 true) [4, 16]
                                                      (.region [
                                                        ⟨some 141, .move, [.tmp 1 true], none⟩,
                                                        ⟨some 142, .move, [.tmp 2 true], none⟩,
                                                        ⟨some 143, .bin .add, [.tmp 141 true, .tmp 142 true], none⟩,
                                                        ⟨some 144, .move, [.tmp 3 true], none⟩,
                                                        ⟨some 145, .bin .add, [.tmp 143 true, .tmp 144 true], none⟩,
                                                        ⟨some 146, .bin .eql, [.tmp 145 true, .const (.int .i64 0)], none⟩,
                                                        ⟨some 16, .move, [.tmp 146 true], none⟩] none []) []
                                                      (.seq
                                                        (.region [
                                                          ⟨some 148, .move, [.tmp 4 false], none⟩,
                                                          ⟨some 149, .bin .eql, [.tmp 148 true, .const (.int .i64 19)], none⟩,
                                                          ⟨some 150, .move, [.tmp 149 true], none⟩,
                                                          ⟨some 151, .move, [.tmp 4 false], some (150, false)⟩,
                                                          ⟨some 152, .bin .eql, [.tmp 151 true, .const (.int .i64 20)], some (150, false)⟩,
                                                          ⟨some 153, .pick, [.tmp 150 true, .const (.bool true), .tmp 152 true], none⟩,
                                                          ⟨some 147, .move, [.tmp 153 true], none⟩] none [151])
                                                        (.cond (.tmp 147 true) [4, 16]
                                                          (.region [
                                                            ⟨some 154, .move, [.tmp 1 true], none⟩,
                                                            ⟨some 155, .bin .eql, [.tmp 154 true, .const (.int .i64 1)], none⟩,
                                                            ⟨some 156, .move, [.tmp 155 true], none⟩,
                                                            ⟨some 157, .move, [.tmp 2 true], some (156, true)⟩,
                                                            ⟨some 158, .move, [.tmp 3 true], some (156, true)⟩,
                                                            ⟨some 159, .bin .add, [.tmp 157 true, .tmp 158 true], some (156, true)⟩,
                                                            ⟨some 160, .bin .eql, [.tmp 159 true, .const (.int .i64 0)], some (156, true)⟩,
                                                            ⟨some 161, .pick, [.tmp 156 true, .tmp 160 true, .const (.bool false)], none⟩,
                                                            ⟨some 16, .move, [.tmp 161 true], none⟩] none [2, 3, 157, 158, 159]) []
                                                          (.seq
                                                            (.region [
                                                              ⟨some 163, .move, [.tmp 4 false], none⟩,
                                                              ⟨some 164, .bin .eql, [.tmp 163 true, .const (.int .i64 21)], none⟩,
                                                              ⟨some 165, .move, [.tmp 164 true], none⟩,
                                                              ⟨some 166, .move, [.tmp 4 false], some (165, false)⟩,
                                                              ⟨some 167, .bin .eql, [.tmp 166 true, .const (.int .i64 22)], some (165, false)⟩,
                                                              ⟨some 168, .pick, [.tmp 165 true, .const (.bool true), .tmp 167 true], none⟩,
                                                              ⟨some 162, .move, [.tmp 168 true], none⟩] none [166])
                                                            (.cond (.tmp 162 true) [4, 16]
                                                              (.region [
                                                                ⟨some 169, .move, [.tmp 1 true], none⟩,
                                                                ⟨some 170, .bin .eql, [.tmp 169 true, .const (.int .i64 1)], none⟩,
                                                                ⟨some 171, .move, [.tmp 170 true], none⟩,
                                                                ⟨some 172, .move, [.tmp 2 true], some (171, true)⟩,
                                                                ⟨some 173, .move, [.tmp 3 true], some (171, true)⟩,
                                                                ⟨some 174, .bin .eql, [.tmp 172 true, .tmp 173 true], some (171, true)⟩,
                                                                ⟨some 175, .pick, [.tmp 171 true, .tmp 174 true, .const (.bool false)], none⟩,
                                                                ⟨some 16, .move, [.tmp 175 true], none⟩] none [2, 3, 172, 173]) []
                                                              (.seq
                                                                (.region [
                                                                  ⟨some 177, .move, [.tmp 4 false], none⟩,
                                                                  ⟨some 178, .bin .eql, [.tmp 177 true, .const (.int .i64 23)], none⟩,
                                                                  ⟨some 179, .move, [.tmp 178 true], none⟩,
                                                                  ⟨some 180, .move, [.tmp 4 true], some (179, false)⟩,
                                                                  ⟨some 181, .bin .eql, [.tmp 180 true, .const (.int .i64 24)], some (179, false)⟩,
                                                                  ⟨some 182, .pick, [.tmp 179 true, .const (.bool true), .tmp 181 true], none⟩,
                                                                  ⟨some 176, .move, [.tmp 182 true], none⟩] none [4, 180])
                                                                (.cond (.tmp 176 true) [16]
                                                                  (.region [
                                                                    ⟨some 183, .move, [.tmp 1 true], none⟩,
                                                                    ⟨some 184, .bin .eql, [.tmp 183 true, .const (.int .i64 1)], none⟩,
                                                                    ⟨some 185, .move, [.tmp 184 true], none⟩,
                                                                    ⟨some 186, .move, [.tmp 2 true], some (185, true)⟩,
                                                                    ⟨some 187, .bin .eql, [.tmp 186 true, .const (.int .i64 1)], some (185, true)⟩,
                                                                    ⟨some 188, .pick, [.tmp 185 true, .tmp 187 true, .const (.bool false)], none⟩,
                                                                    ⟨some 189, .move, [.tmp 188 true], none⟩,
                                                                    ⟨some 190, .move, [.tmp 3 true], some (189, true)⟩,
                                                                    ⟨some 191, .bin .eql, [.tmp 190 true, .const (.int .i64 1)], some (189, true)⟩,
                                                                    ⟨some 192, .pick, [.tmp 189 true, .tmp 191 true, .const (.bool false)], none⟩,
                                                                    ⟨some 16, .move, [.tmp 192 true], none⟩] none [2, 3, 186, 190]) [1, 2, 3]
                                                                  .skip)))))))))) []
                                              (.seq
                                                (.region [
                                                  ⟨some 194, .bin .eql, [.tmp 100 false, .const (.int .i64 5)], none⟩,
                                                  ⟨some 193, .move, [.tmp 194 true], none⟩] none [])
                                                (.cond (.tmp 193 true) [3, 13, 14, 16, 100]
                                                  (.seq
                                                    (.region [
                                                      ⟨some 195, .move, [.tmp 2 false], none⟩,
                                                      ⟨some 196, .move, [.tmp 4 false], none⟩,
                                                      ⟨some 197, .fieldAddr 2, [.tmp 15 false], none⟩,
                                                      ⟨none, .storeF 1 1, [.tmp 197 true, .tmp 195 true], none⟩,
                                                      ⟨some 198, .fieldAddr 4, [.tmp 15 false], none⟩,
                                                      ⟨none, .storeF 1 1, [.tmp 198 true, .tmp 196 true], none⟩] none [])
                                                    (.region [
                                                      ⟨some 199, .move, [.tmp 4 false], none⟩,
                                                      ⟨some 200, .bin .eql, [.tmp 199 true, .const (.int .i64 12)], none⟩,
                                                      ⟨some 201, .move, [.tmp 200 true], none⟩,
                                                      ⟨some 202, .move, [.tmp 1 false], some (201, true)⟩,
                                                      ⟨some 203, .move, [.tmp 2 false], some (201, true)⟩,
                                                      ⟨some 204, .bin .add, [.tmp 202 true, .tmp 203 true], some (201, true)⟩,
                                                      ⟨some 205, .bin .eql, [.tmp 204 true, .const (.int .i64 0)], some (201, true)⟩,
                                                      ⟨some 206, .pick, [.tmp 201 true, .tmp 205 true, .const (.bool false)], none⟩,
                                                      ⟨some 207, .move, [.tmp 206 true], none⟩,
                                                      ⟨some 208, .move, [.tmp 4 true], some (207, false)⟩,
                                                      ⟨some 209, .bin .eql, [.tmp 208 true, .const (.int .i64 13)], some (207, false)⟩,
                                                      ⟨some 210, .move, [.tmp 209 true], some (207, false)⟩,
                                                      ⟨some 211, .move, [.tmp 1 true], some (210, true)⟩,
                                                      ⟨some 212, .bin .eql, [.tmp 211 true, .const (.int .i64 1)], some (210, true)⟩,
                                                      ⟨some 213, .pick, [.tmp 210 true, .tmp 212 true, .const (.bool false)], some (207, false)⟩,
                                                      ⟨some 214, .move, [.tmp 213 true], some (207, false)⟩,
                                                      ⟨some 215, .move, [.tmp 2 true], some (214, true)⟩,
                                                      ⟨some 216, .bin .eql, [.tmp 215 true, .const (.int .i64 1)], some (214, true)⟩,
                                                      ⟨some 217, .pick, [.tmp 214 true, .tmp 216 true, .const (.bool false)], some (207, false)⟩,
                                                      ⟨some 218, .pick, [.tmp 207 true, .const (.bool true), .tmp 217 true], none⟩,
                                                      ⟨some 16, .move, [.tmp 218 true], none⟩] none [1, 2, 4, 202, 203, 204, 208, 209, 210, 211, 212, 213, 214, 215, 216])) []
                                                  (.seq
                                                    (.region [
                                                      ⟨some 220, .bin .eql, [.tmp 100 false, .const (.int .i64 6)], none⟩,
                                                      ⟨some 219, .move, [.tmp 220 true], none⟩] none [])
                                                    (.cond (.tmp 219 true) [4, 13, 16, 100]
                                                      (.seq
                                                        (.region [
                                                          ⟨some 221, .move, [.tmp 2 false], none⟩,
                                                          ⟨some 222, .move, [.tmp 3 true], none⟩,
                                                          ⟨some 223, .fieldAddr 2, [.tmp 15 false], none⟩,
                                                          ⟨none, .storeF 1 1, [.tmp 223 true, .tmp 221 true], none⟩,
                                                          ⟨some 224, .fieldAddr 3, [.tmp 15 false], none⟩,
                                                          ⟨none, .storeF 1 1, [.tmp 224 true, .tmp 222 true], none⟩] none [])
                                                        (.region [
                                                          ⟨some 225, .move, [.tmp 2 true], none⟩,
                                                          ⟨some 226, .bin .eql, [.tmp 225 true, .const (.int .i64 2)], none⟩,
                                                          ⟨some 227, .move, [.tmp 226 true], none⟩,
                                                          ⟨some 228, .move, [.tmp 14 true], some (227, true)⟩,
                                                          ⟨some 229, .move, [.tmp 1 true], some (227, true)⟩,
                                                          ⟨some 230, .bin .eql, [.tmp 228 true, .tmp 229 true], some (227, true)⟩,
                                                          ⟨some 231, .pick, [.tmp 227 true, .tmp 230 true, .const (.bool false)], none⟩,
                                                          ⟨some 16, .move, [.tmp 231 true], none⟩] none [1, 14, 228, 229])) []
                                                      (.seq
                                                        (.region [
                                                          ⟨some 233, .bin .eql, [.tmp 100 false, .const (.int .i64 7)], none⟩,
                                                          ⟨some 232, .move, [.tmp 233 true], none⟩] none [])
                                                        (.cond (.tmp 232 true) [4, 13, 16, 100]
                                                          (.seq
                                                            (.region [
                                                              ⟨some 234, .move, [.tmp 2 false], none⟩,
                                                              ⟨some 235, .move, [.tmp 3 true], none⟩,
                                                              ⟨some 236, .fieldAddr 2, [.tmp 15 false], none⟩,
                                                              ⟨none, .storeF 1 1, [.tmp 236 true, .tmp 234 true], none⟩,
                                                              ⟨some 237, .fieldAddr 3, [.tmp 15 false], none⟩,
                                                              ⟨none, .storeF 1 1, [.tmp 237 true, .tmp 235 true], none⟩] none [])
                                                            (.region [
                                                              ⟨some 238, .move, [.tmp 1 true], none⟩,
                                                              ⟨some 239, .bin .eql, [.tmp 238 true, .const (.int .i64 2)], none⟩,
                                                              ⟨some 240, .move, [.tmp 239 true], none⟩,
                                                              ⟨some 241, .move, [.tmp 14 true], some (240, true)⟩,
                                                              ⟨some 242, .move, [.tmp 2 true], some (240, true)⟩,
                                                              ⟨some 243, .bin .eql, [.tmp 241 true, .tmp 242 true], some (240, true)⟩,
                                                              ⟨some 244, .pick, [.tmp 240 true, .tmp 243 true, .const (.bool false)], none⟩,
                                                              ⟨some 16, .move, [.tmp 244 true], none⟩] none [2, 14, 241, 242])) [14]
                                                          (.seq
                                                            (.region [
                                                              ⟨some 246, .bin .eql, [.tmp 100 false, .const (.int .i64 8)], none⟩,
                                                              ⟨some 245, .move, [.tmp 246 true], none⟩] none [])
                                                            (.cond (.tmp 245 true) [4, 16, 100]
                                                              (.seq
                                                                (.region [
                                                                  ⟨some 247, .move, [.tmp 2 false], none⟩,
                                                                  ⟨some 248, .move, [.tmp 3 false], none⟩,
                                                                  ⟨some 249, .fieldAddr 2, [.tmp 15 false], none⟩,
                                                                  ⟨none, .storeF 1 1, [.tmp 249 true, .tmp 247 true], none⟩,
                                                                  ⟨some 250, .fieldAddr 3, [.tmp 15 false], none⟩,
                                                                  ⟨none, .storeF 1 1, [.tmp 250 true, .tmp 248 true], none⟩] none [])
                                                                (.region [
                                                                  ⟨some 251, .move, [.tmp 3 true], none⟩,
                                                                  ⟨some 252, .bin .eql, [.tmp 251 true, .const (.int .i64 0)], none⟩,
                                                                  ⟨some 253, .move, [.tmp 252 true], none⟩,
                                                                  ⟨some 254, .move, [.tmp 13 true], some (253, true)⟩,
                                                                  ⟨some 255, .move, [.tmp 2 true], some (253, true)⟩,
                                                                  ⟨some 256, .indexAddr 1, [.tmp 254 true, .tmp 255 true], some (253, true)⟩,
                                                                  ⟨some 257, .load false 1 false, [.tmp 256 true], some (253, true)⟩,
                                                                  ⟨some 258, .move, [.tmp 1 true], some (253, true)⟩,
                                                                  ⟨some 259, .bin .eql, [.tmp 257 true, .tmp 258 true], some (253, true)⟩,
                                                                  ⟨some 260, .pick, [.tmp 253 true, .tmp 259 true, .const (.bool false)], none⟩,
                                                                  ⟨some 16, .move, [.tmp 260 true], none⟩] none [1, 2, 13, 254, 255, 256, 257, 258])) []
                                                              (.seq
                                                                (.region [
                                                                  ⟨some 262, .bin .eql, [.tmp 100 false, .const (.int .i64 9)], none⟩,
                                                                  ⟨some 261, .move, [.tmp 262 true], none⟩] none [])
                                                                (.cond (.tmp 261 true) [4, 16, 100]
                                                                  (.seq
                                                                    (.region [
                                                                      ⟨some 263, .move, [.tmp 2 false], none⟩,
                                                                      ⟨some 264, .move, [.tmp 3 false], none⟩,
                                                                      ⟨some 265, .fieldAddr 2, [.tmp 15 false], none⟩,
                                                                      ⟨none, .storeF 1 1, [.tmp 265 true, .tmp 263 true], none⟩,
                                                                      ⟨some 266, .fieldAddr 3, [.tmp 15 false], none⟩,
                                                                      ⟨none, .storeF 1 1, [.tmp 266 true, .tmp 264 true], none⟩] none [])
                                                                    (.region [
                                                                      ⟨some 267, .move, [.tmp 2 true], none⟩,
                                                                      ⟨some 268, .bin .eql, [.tmp 267 true, .const (.int .i64 0)], none⟩,
                                                                      ⟨some 269, .move, [.tmp 268 true], none⟩,
                                                                      ⟨some 270, .move, [.tmp 13 true], some (269, true)⟩,
                                                                      ⟨some 271, .move, [.tmp 1 true], some (269, true)⟩,
                                                                      ⟨some 272, .indexAddr 1, [.tmp 270 true, .tmp 271 true], some (269, true)⟩,
                                                                      ⟨some 273, .load false 1 false, [.tmp 272 true], some (269, true)⟩,
                                                                      ⟨some 274, .move, [.tmp 3 true], some (269, true)⟩,
                                                                      ⟨some 275, .bin .eql, [.tmp 273 true, .tmp 274 true], some (269, true)⟩,
                                                                      ⟨some 276, .pick, [.tmp 269 true, .tmp 275 true, .const (.bool false)], none⟩,
                                                                      ⟨some 16, .move, [.tmp 276 true], none⟩] none [1, 3, 13, 270, 271, 272, 273, 274])) [3, 13]
                                                                  (.seq
                                                                    (.region [
                                                                      ⟨some 278, .bin .eql, [.tmp 100 false, .const (.int .i64 10)], none⟩,
                                                                      ⟨some 277, .move, [.tmp 278 true], none⟩] none [])
                                                                    (.cond (.tmp 277 true) [4, 16, 100]
                                                                      (.seq
                                                                        (.region [
                                                                          ⟨some 279, .move, [.tmp 2 false], none⟩,
                                                                          ⟨some 280, .fieldAddr 2, [.tmp 15 false], none⟩,
                                                                          ⟨none, .storeF 1 1, [.tmp 280 true, .tmp 279 true], none⟩] none [])
                                                                        (.region [
                                                                          ⟨some 281, .move, [.tmp 1 true], none⟩,
                                                                          ⟨some 282, .bin .eql, [.tmp 281 true, .const (.int .i64 0)], none⟩,
                                                                          ⟨some 283, .move, [.tmp 282 true], none⟩,
                                                                          ⟨some 284, .move, [.tmp 2 true], some (283, true)⟩,
                                                                          ⟨some 285, .bin .gtr, [.tmp 284 true, .const (.int .i64 2)], some (283, true)⟩,
                                                                          ⟨some 286, .pick, [.tmp 283 true, .tmp 285 true, .const (.bool false)], none⟩,
                                                                          ⟨some 16, .move, [.tmp 286 true], none⟩] none [2, 284])) []
                                                                      (.seq
                                                                        (.region [
                                                                          ⟨some 288, .bin .eql, [.tmp 100 false, .const (.int .i64 11)], none⟩,
                                                                          ⟨some 287, .move, [.tmp 288 true], none⟩] none [])
                                                                        (.cond (.tmp 287 true) [2, 16, 100]
                                                                          (.seq
                                                                            (.region [
                                                                              ⟨some 289, .move, [.tmp 4 false], none⟩,
                                                                              ⟨some 290, .fieldAddr 4, [.tmp 15 false], none⟩,
                                                                              ⟨none, .storeF 1 1, [.tmp 290 true, .tmp 289 true], none⟩] none [])
                                                                            (.region [
                                                                              ⟨some 291, .move, [.tmp 1 true], none⟩,
                                                                              ⟨some 292, .bin .eql, [.tmp 291 true, .const (.int .i64 2)], none⟩,
                                                                              ⟨some 293, .move, [.tmp 292 true], none⟩,
                                                                              ⟨some 294, .move, [.tmp 4 true], some (293, true)⟩,
                                                                              ⟨some 295, .bin .eql, [.tmp 294 true, .const (.int .i64 0)], some (293, true)⟩,
                                                                              ⟨some 296, .pick, [.tmp 293 true, .tmp 295 true, .const (.bool false)], none⟩,
                                                                              ⟨some 16, .move, [.tmp 296 true], none⟩] none [4, 294])) []
                                                                          (.seq
                                                                            (.region [
                                                                              ⟨some 298, .bin .eql, [.tmp 100 true, .const (.int .i64 12)], none⟩,
                                                                              ⟨some 297, .move, [.tmp 298 true], none⟩] none [])
                                                                            (.cond (.tmp 297 true) [16]
                                                                              (.seq
                                                                                (.region [
                                                                                  ⟨some 299, .move, [.tmp 2 false], none⟩,
                                                                                  ⟨some 300, .move, [.tmp 4 false], none⟩,
                                                                                  ⟨some 301, .fieldAddr 2, [.tmp 15 false], none⟩,
                                                                                  ⟨none, .storeF 1 1, [.tmp 301 true, .tmp 299 true], none⟩,
                                                                                  ⟨some 302, .fieldAddr 4, [.tmp 15 false], none⟩,
                                                                                  ⟨none, .storeF 1 1, [.tmp 302 true, .tmp 300 true], none⟩] none [])
                                                                                (.region [
                                                                                  ⟨some 303, .move, [.tmp 2 true], none⟩,
                                                                                  ⟨some 304, .bin .eql, [.tmp 303 true, .const (.int .i64 0)], none⟩,
                                                                                  ⟨some 305, .move, [.tmp 304 true], none⟩,
                                                                                  ⟨some 306, .move, [.tmp 1 false], some (305, true)⟩,
                                                                                  ⟨some 307, .bin .eql, [.tmp 306 true, .const (.int .i64 3)], some (305, true)⟩,
                                                                                  ⟨some 308, .move, [.tmp 307 true], some (305, true)⟩,
                                                                                  ⟨some 309, .move, [.tmp 4 false], some (308, true)⟩,
                                                                                  ⟨some 310, .bin .eql, [.tmp 309 true, .const (.int .i64 1)], some (308, true)⟩,
                                                                                  ⟨some 311, .pick, [.tmp 308 true, .tmp 310 true, .const (.bool false)], some (305, true)⟩,
                                                                                  ⟨some 312, .move, [.tmp 311 true], some (305, true)⟩,
                                                                                  ⟨some 313, .move, [.tmp 1 true], some (312, false)⟩,
                                                                                  ⟨some 314, .bin .eql, [.tmp 313 true, .const (.int .i64 4)], some (312, false)⟩,
                                                                                  ⟨some 315, .move, [.tmp 314 true], some (312, false)⟩,
                                                                                  ⟨some 316, .move, [.tmp 4 true], some (315, true)⟩,
                                                                                  ⟨some 317, .bin .eql, [.tmp 316 true, .const (.int .i64 2)], some (315, true)⟩,
                                                                                  ⟨some 318, .pick, [.tmp 315 true, .tmp 317 true, .const (.bool false)], some (312, false)⟩,
                                                                                  ⟨some 319, .pick, [.tmp 312 true, .const (.bool true), .tmp 318 true], some (305, true)⟩,
                                                                                  ⟨some 320, .pick, [.tmp 305 true, .tmp 319 true, .const (.bool false)], none⟩,
                                                                                  ⟨some 16, .move, [.tmp 320 true], none⟩] none [1, 4, 306, 307, 308, 309, 310, 311, 312, 313, 314, 315, 316, 317, 318])) [1, 2, 4]
                                                                              .skip))))))))))))))))))))))))))
                          (.seq
                            (.region [
                              ⟨some 321, .loadF 0 true 5 false, [.tmp 12 false], none⟩,
                              ⟨some 322, .call 9, [.tmp 321 true], none⟩,
                              ⟨some 323, .move, [.tmp 322 true], none⟩,
                              ⟨some 324, .loadF 0 true 5 false, [.tmp 12 true], some (323, true)⟩,
                              ⟨some 325, .loadF 1 true 6 false, [.tmp 15 true], some (323, true)⟩,
                              ⟨some 326, .call 12, [.tmp 324 true, .const (.int .i64 0), .tmp 325 true], some (323, true)⟩,
                              ⟨some 327, .move, [.tmp 16 true], some (323, true)⟩,
                              ⟨some 328, .eqv (.sc .bool) false, [.tmp 326 true, .tmp 327 true], some (323, true)⟩,
                              ⟨some 329, .pick, [.tmp 323 true, .tmp 328 true, .const (.bool false)], none⟩,
                              ⟨some 330, .move, [.tmp 329 true], none⟩,
                              ⟨some 331, .move, [.tmp 11 true], some (330, true)⟩,
                              ⟨some 332, .indexAddr 3, [.tmp 331 true, .const (.int .i64 3)], some (330, true)⟩,
                              ⟨some 333, .load true 3 false, [.tmp 332 true], some (330, true)⟩,
                              ⟨some 334, .call 14, [.tmp 333 true], some (330, true)⟩,
                              ⟨some 335, .pick, [.tmp 330 true, .tmp 334 true, .const (.bool false)], none⟩,
                              ⟨some 336, .move, [.tmp 335 true], none⟩,
                              ⟨some 337, .call 11, [], some (336, true)⟩,
                              ⟨some 338, .pick, [.tmp 336 true, .tmp 337 true, .const (.bool false)], none⟩,
                              ⟨some 10, .move, [.tmp 338 true], none⟩] none [11, 12, 15, 16, 324, 325, 326, 327, 331, 332, 333])
                            .ret))))))))))))) }

/-- runrig/runriglaw12.IrCells -/
def s7_l0 : SCode :=
  (.seq
    (.seq
      (.region [
        ⟨some 21, .move, [.tmp 7 false], none⟩,
        ⟨some 22, .move, [.tmp 5 false], none⟩,
        ⟨some 23, .len .sl, [.tmp 22 true], none⟩,
        ⟨some 24, .bin .lss, [.tmp 21 true, .tmp 23 true], none⟩] none [])
      (.cond (.tmp 24 true) []
        .skip [5, 6, 7]
        (.exit 0)))
    (.seq
      (.block 1
        (.seq
          (.region [
            ⟨some 27, .move, [.tmp 5 false], none⟩,
            ⟨some 28, .move, [.tmp 7 false], none⟩,
            ⟨some 29, .indexAddr 3, [.tmp 27 true, .tmp 28 true], none⟩,
            ⟨some 30, .load true 3 false, [.tmp 29 true], none⟩,
            ⟨some 31, .move, [.tmp 6 false], none⟩,
            ⟨some 32, .move, [.tmp 7 false], none⟩,
            ⟨some 33, .indexAddr 3, [.tmp 31 true, .tmp 32 true], none⟩,
            ⟨some 34, .load true 3 false, [.tmp 33 true], none⟩,
            ⟨some 35, .eqv (.flat [.int, .int, .int]) true, [.tmp 30 true, .tmp 34 true], none⟩] (some []) [])
          (.cond (.tmp 35 true) [5, 6, 7]
            (.seq
              (.region [
                ⟨some 4, .move, [.const (.bool false)], none⟩] none [])
              .ret) []
            .skip)))
      (.region [
        ⟨some 25, .move, [.tmp 7 true], none⟩,
        ⟨some 26, .bin .add, [.tmp 25 true, .const (.int .i64 1)], none⟩,
        ⟨some 7, .move, [.tmp 26 true], none⟩] none [])))
def s7 : SFunc := { fid := 7, mode := .pure, nparams := 2, nboxes := 1, clr := [], results := [.tmp 4 false], body :=
  (.seq
    (.region [
      ⟨some 2, .boxF 0 5, [.tmp 0 true], none⟩,
      ⟨some 4, .move, [.const (.bool false)], none⟩] none [4])
    (.seq
      (.seq
        (.region [
          ⟨some 8, .loadF 0 true 5 false, [.tmp 2 false], none⟩,
          ⟨some 9, .call 8, [.tmp 8 true], none⟩] none [])
        (.cond (.tmp 9 true) [1, 2]
          (.seq
            (.region [
              ⟨some 4, .move, [.const (.bool true)], none⟩] none [])
            .ret) []
          .skip))
      (.seq
        (.region [
          ⟨some 10, .loadF 0 true 5 false, [.tmp 2 false], none⟩,
          ⟨some 11, .move, [.tmp 1 false], none⟩,
          ⟨some 12, .call 15, [.tmp 10 true, .tmp 11 true], none⟩,
          ⟨some 13, .loadF 0 true 5 false, [.tmp 2 false], none⟩,
          ⟨some 14, .move, [.tmp 1 false], none⟩,
          ⟨some 15, .call 16, [.tmp 13 true, .tmp 14 true], none⟩,
          ⟨some 5, .move, [.tmp 12 true], none⟩,
          ⟨some 6, .move, [.tmp 15 true], none⟩] (some []) [1, 2])
        (.seq
          (.seq
            (.region [
              ⟨some 16, .move, [.tmp 5 false], none⟩,
              ⟨some 17, .len .sl, [.tmp 16 true], none⟩,
              ⟨some 18, .move, [.tmp 6 false], none⟩,
              ⟨some 19, .len .sl, [.tmp 18 true], none⟩,
              ⟨some 20, .bin .neq, [.tmp 17 true, .tmp 19 true], none⟩] none [])
            (.cond (.tmp 20 true) [5, 6]
              (.seq
                (.region [
                  ⟨some 4, .move, [.const (.bool false)], none⟩] none [])
                .ret) []
              .skip))
          (.seq
            (.seq
              (.region [
                ⟨some 7, .move, [.const (.int .i64 0)], none⟩] none [])
              (.block 0
                (.loop s7_l0)))
            (.seq
              (.region [
                ⟨some 36, .call 11, [], none⟩,
                ⟨some 4, .move, [.tmp 36 true], none⟩] none [])
              .ret)))))) }

/-- runrig/runriglaw12.great -/
def s8_l0 : SCode :=
  (.seq
    (.seq
      (.region [
        ⟨some 27, .move, [.tmp 3 false], none⟩,
        ⟨some 28, .fieldAddr 0, [.tmp 1 false], none⟩,
        ⟨some 29, .loadF 0 false 1 false, [.tmp 28 true], none⟩,
        ⟨some 30, .len .sl, [.tmp 29 true], none⟩,
        ⟨some 31, .bin .lss, [.tmp 27 true, .tmp 30 true], none⟩] none [])
      (.cond (.tmp 31 true) []
        .skip [3]
        (.exit 0)))
    (.seq
      (.block 1
        (.seq
          (.region [
            ⟨some 34, .fieldAddr 0, [.tmp 1 false], none⟩,
            ⟨some 35, .loadF 0 false 1 false, [.tmp 34 true], none⟩,
            ⟨some 36, .move, [.tmp 3 false], none⟩,
            ⟨some 37, .indexAddr 2, [.tmp 35 true, .tmp 36 true], none⟩,
            ⟨some 38, .fieldAddr 1, [.tmp 37 true], none⟩,
            ⟨some 39, .load false 1 false, [.tmp 38 true], none⟩,
            ⟨some 40, .len .sl, [.tmp 39 true], none⟩,
            ⟨some 41, .bin .gtr, [.tmp 40 true, .const (.int .i64 20)], none⟩] none [])
          (.cond (.tmp 41 true) [1, 3]
            (.seq
              (.region [
                ⟨some 2, .move, [.const (.bool true)], none⟩] none [])
              .ret) []
            .skip)))
      (.region [
        ⟨some 32, .move, [.tmp 3 true], none⟩,
        ⟨some 33, .bin .add, [.tmp 32 true, .const (.int .i64 1)], none⟩,
        ⟨some 3, .move, [.tmp 33 true], none⟩] none [])))
def s8_l1 : SCode :=
  (.seq
    (.seq
      (.region [
        ⟨some 42, .move, [.tmp 4 false], none⟩,
        ⟨some 43, .fieldAddr 2, [.tmp 1 false], none⟩,
        ⟨some 44, .loadF 0 false 1 false, [.tmp 43 true], none⟩,
        ⟨some 45, .len .sl, [.tmp 44 true], none⟩,
        ⟨some 46, .bin .lss, [.tmp 42 true, .tmp 45 true], none⟩] none [])
      (.cond (.tmp 46 true) []
        .skip [1, 4]
        (.exit 2)))
    (.seq
      (.block 3
        (.seq
          (.region [
            ⟨some 49, .fieldAddr 2, [.tmp 1 false], none⟩,
            ⟨some 50, .loadF 0 false 1 false, [.tmp 49 true], none⟩,
            ⟨some 51, .move, [.tmp 4 false], none⟩,
            ⟨some 52, .indexAddr 7, [.tmp 50 true, .tmp 51 true], none⟩,
            ⟨some 53, .fieldAddr 1, [.tmp 52 true], none⟩,
            ⟨some 54, .load false 1 false, [.tmp 53 true], none⟩,
            ⟨some 55, .len .sl, [.tmp 54 true], none⟩,
            ⟨some 56, .bin .gtr, [.tmp 55 true, .const (.int .i64 500)], none⟩,
            ⟨some 57, .move, [.tmp 56 true], none⟩,
            ⟨some 58, .fieldAddr 2, [.tmp 1 false], some (57, false)⟩,
            ⟨some 59, .loadF 0 false 1 false, [.tmp 58 true], some (57, false)⟩,
            ⟨some 60, .move, [.tmp 4 false], some (57, false)⟩,
            ⟨some 61, .indexAddr 7, [.tmp 59 true, .tmp 60 true], some (57, false)⟩,
            ⟨some 62, .fieldAddr 6, [.tmp 61 true], some (57, false)⟩,
            ⟨some 63, .load false 1 false, [.tmp 62 true], some (57, false)⟩,
            ⟨some 64, .len .sl, [.tmp 63 true], some (57, false)⟩,
            ⟨some 65, .bin .gtr, [.tmp 64 true, .const (.int .i64 500)], some (57, false)⟩,
            ⟨some 66, .pick, [.tmp 57 true, .const (.bool true), .tmp 65 true], none⟩] none [58, 59, 60, 61, 62, 63, 64])
          (.cond (.tmp 66 true) [1, 4]
            (.seq
              (.region [
                ⟨some 2, .move, [.const (.bool true)], none⟩] none [])
              .ret) []
            .skip)))
      (.region [
        ⟨some 47, .move, [.tmp 4 true], none⟩,
        ⟨some 48, .bin .add, [.tmp 47 true, .const (.int .i64 1)], none⟩,
        ⟨some 4, .move, [.tmp 48 true], none⟩] none [])))
def s8 : SFunc := { fid := 8, mode := .pure, nparams := 1, nboxes := 1, clr := [], results := [.tmp 2 false], body :=
  (.seq
    (.region [
      ⟨some 1, .boxF 0 5, [.tmp 0 true], none⟩,
      ⟨some 2, .move, [.const (.bool false)], none⟩] none [2])
    (.seq
      (.seq
        (.region [
          ⟨some 5, .fieldAddr 0, [.tmp 1 false], none⟩,
          ⟨some 6, .loadF 0 false 1 false, [.tmp 5 true], none⟩,
          ⟨some 7, .len .sl, [.tmp 6 true], none⟩,
          ⟨some 8, .bin .gtr, [.tmp 7 true, .const (.int .i64 20)], none⟩,
          ⟨some 9, .move, [.tmp 8 true], none⟩,
          ⟨some 10, .fieldAddr 1, [.tmp 1 false], some (9, false)⟩,
          ⟨some 11, .loadF 0 false 1 false, [.tmp 10 true], some (9, false)⟩,
          ⟨some 12, .len .sl, [.tmp 11 true], some (9, false)⟩,
          ⟨some 13, .bin .gtr, [.tmp 12 true, .const (.int .i64 20)], some (9, false)⟩,
          ⟨some 14, .pick, [.tmp 9 true, .const (.bool true), .tmp 13 true], none⟩,
          ⟨some 15, .move, [.tmp 14 true], none⟩,
          ⟨some 16, .fieldAddr 2, [.tmp 1 false], some (15, false)⟩,
          ⟨some 17, .loadF 0 false 1 false, [.tmp 16 true], some (15, false)⟩,
          ⟨some 18, .len .sl, [.tmp 17 true], some (15, false)⟩,
          ⟨some 19, .bin .gtr, [.tmp 18 true, .const (.int .i64 20)], some (15, false)⟩,
          ⟨some 20, .pick, [.tmp 15 true, .const (.bool true), .tmp 19 true], none⟩,
          ⟨some 21, .move, [.tmp 20 true], none⟩,
          ⟨some 22, .fieldAddr 3, [.tmp 1 false], some (21, false)⟩,
          ⟨some 23, .loadF 0 false 1 false, [.tmp 22 true], some (21, false)⟩,
          ⟨some 24, .len .sl, [.tmp 23 true], some (21, false)⟩,
          ⟨some 25, .bin .gtr, [.tmp 24 true, .const (.int .i64 80)], some (21, false)⟩,
          ⟨some 26, .pick, [.tmp 21 true, .const (.bool true), .tmp 25 true], none⟩] none [10, 11, 12, 16, 17, 18, 22, 23, 24])
        (.cond (.tmp 26 true) [1]
          (.seq
            (.region [
              ⟨some 2, .move, [.const (.bool true)], none⟩] none [])
            .ret) []
          .skip))
      (.seq
        (.seq
          (.region [
            ⟨some 3, .move, [.const (.int .i64 0)], none⟩] none [])
          (.block 0
            (.loop s8_l0)))
        (.seq
          (.seq
            (.region [
              ⟨some 4, .move, [.const (.int .i64 0)], none⟩] none [])
            (.block 2
              (.loop s8_l1)))
          (.seq
            (.region [
              ⟨some 2, .move, [.const (.bool false)], none⟩] none [])
            .ret))))) }

/-- runrig/ir.Right -/

def s9 : SFunc := { fid := 9, mode := .pure, nparams := 1, nboxes := 2, clr := [], results := [.tmp 2 false], body :=
  (.seq
    (.region [
      ⟨some 1, .boxF 0 5, [.tmp 0 true], none⟩,
      ⟨some 2, .move, [.const (.bool false)], none⟩] none [2])
    (.seq
      (.seq
        (.region [
          ⟨some 4, .fieldAddr 0, [.tmp 1 false], none⟩,
          ⟨some 5, .loadF 0 false 1 false, [.tmp 4 true], none⟩,
          ⟨some 6, .len .sl, [.tmp 5 true], none⟩,
          ⟨some 7, .bin .gtr, [.tmp 6 true, .const (.int .i64 12)], none⟩,
          ⟨some 8, .move, [.tmp 7 true], none⟩,
          ⟨some 9, .fieldAddr 1, [.tmp 1 false], some (8, false)⟩,
          ⟨some 10, .loadF 0 false 1 false, [.tmp 9 true], some (8, false)⟩,
          ⟨some 11, .len .sl, [.tmp 10 true], some (8, false)⟩,
          ⟨some 12, .bin .gtr, [.tmp 11 true, .const (.int .i64 8)], some (8, false)⟩,
          ⟨some 13, .pick, [.tmp 8 true, .const (.bool true), .tmp 12 true], none⟩,
          ⟨some 14, .move, [.tmp 13 true], none⟩,
          ⟨some 15, .fieldAddr 2, [.tmp 1 false], some (14, false)⟩,
          ⟨some 16, .loadF 0 false 1 false, [.tmp 15 true], some (14, false)⟩,
          ⟨some 17, .len .sl, [.tmp 16 true], some (14, false)⟩,
          ⟨some 18, .bin .eql, [.tmp 17 true, .const (.int .i64 0)], some (14, false)⟩,
          ⟨some 19, .pick, [.tmp 14 true, .const (.bool true), .tmp 18 true], none⟩,
          ⟨some 20, .move, [.tmp 19 true], none⟩,
          ⟨some 21, .fieldAddr 2, [.tmp 1 false], some (20, false)⟩,
          ⟨some 22, .loadF 0 false 1 false, [.tmp 21 true], some (20, false)⟩,
          ⟨some 23, .len .sl, [.tmp 22 true], some (20, false)⟩,
          ⟨some 24, .bin .gtr, [.tmp 23 true, .const (.int .i64 16)], some (20, false)⟩,
          ⟨some 25, .pick, [.tmp 20 true, .const (.bool true), .tmp 24 true], none⟩,
          ⟨some 26, .move, [.tmp 25 true], none⟩,
          ⟨some 27, .fieldAddr 3, [.tmp 1 false], some (26, false)⟩,
          ⟨some 28, .loadF 0 false 1 false, [.tmp 27 true], some (26, false)⟩,
          ⟨some 29, .len .sl, [.tmp 28 true], some (26, false)⟩,
          ⟨some 30, .bin .gtr, [.tmp 29 true, .const (.int .i64 60)], some (26, false)⟩,
          ⟨some 31, .pick, [.tmp 26 true, .const (.bool true), .tmp 30 true], none⟩,
          ⟨some 32, .move, [.tmp 31 true], none⟩,
          ⟨some 33, .fieldAddr 4, [.tmp 1 false], some (32, false)⟩,
          ⟨some 34, .loadF 0 false 1 false, [.tmp 33 true], some (32, false)⟩,
          ⟨some 35, .bin .lss, [.tmp 34 true, .const (.int .i64 0)], some (32, false)⟩,
          ⟨some 36, .pick, [.tmp 32 true, .const (.bool true), .tmp 35 true], none⟩,
          ⟨some 37, .move, [.tmp 36 true], none⟩,
          ⟨some 38, .fieldAddr 4, [.tmp 1 false], some (37, false)⟩,
          ⟨some 39, .loadF 0 false 1 false, [.tmp 38 true], some (37, false)⟩,
          ⟨some 40, .fieldAddr 2, [.tmp 1 false], some (37, false)⟩,
          ⟨some 41, .loadF 0 false 1 false, [.tmp 40 true], some (37, false)⟩,
          ⟨some 42, .len .sl, [.tmp 41 true], some (37, false)⟩,
          ⟨some 43, .bin .geq, [.tmp 39 true, .tmp 42 true], some (37, false)⟩,
          ⟨some 44, .pick, [.tmp 37 true, .const (.bool true), .tmp 43 true], none⟩] none [9, 10, 11, 15, 16, 17, 21, 22, 23, 27, 28, 29, 33, 34, 38, 39, 40, 41, 42])
        (.cond (.tmp 44 true) [1]
          (.seq
            (.region [
              ⟨some 2, .move, [.const (.bool false)], none⟩] none [])
            .ret) []
          .skip))
      (.seq
        (.region [
          ⟨some 45, .fieldAddr 2, [.tmp 1 false], none⟩,
          ⟨some 46, .loadF 0 false 1 false, [.tmp 45 true], none⟩,
          ⟨some 47, .fieldAddr 4, [.tmp 1 false], none⟩,
          ⟨some 48, .loadF 0 false 1 false, [.tmp 47 true], none⟩,
          ⟨some 49, .indexAddr 7, [.tmp 46 true, .tmp 48 true], none⟩,
          ⟨some 50, .load true 7 false, [.tmp 49 true], none⟩,
          ⟨some 3, .allocF 1 [.int .i64 0, .nilSl, .bool false, .int .i64 0, .int .i64 0, .int .i64 0, .nilSl], [], none⟩,
          ⟨none, .storeF 1 7, [.tmp 3 false, .tmp 50 true], none⟩] none [])
        (.seq
          (.region [
            ⟨some 51, .fieldAddr 0, [.tmp 3 false], none⟩,
            ⟨some 52, .loadF 1 false 1 false, [.tmp 51 true], none⟩,
            ⟨some 53, .bin .eql, [.tmp 52 true, .const (.int .i64 0)], none⟩,
            ⟨some 54, .move, [.tmp 53 true], none⟩,
            ⟨some 55, .fieldAddr 2, [.tmp 3 true], some (54, true)⟩,
            ⟨some 56, .loadF 1 false 1 false, [.tmp 55 true], some (54, true)⟩,
            ⟨some 57, .un .not, [.tmp 56 true], some (54, true)⟩,
            ⟨some 58, .pick, [.tmp 54 true, .tmp 57 true, .const (.bool false)], none⟩,
            ⟨some 59, .move, [.tmp 58 true], none⟩,
            ⟨some 60, .loadF 0 true 5 false, [.tmp 1 false], some (59, true)⟩,
            ⟨some 61, .call 17, [.tmp 60 true], some (59, true)⟩,
            ⟨some 62, .pick, [.tmp 59 true, .tmp 61 true, .const (.bool false)], none⟩,
            ⟨some 63, .move, [.tmp 62 true], none⟩,
            ⟨some 64, .loadF 0 true 5 false, [.tmp 1 false], some (63, true)⟩,
            ⟨some 65, .fieldAddr 1, [.tmp 1 false], some (63, true)⟩,
            ⟨some 66, .loadF 0 false 1 false, [.tmp 65 true], some (63, true)⟩,
            ⟨some 67, .call 18, [.tmp 64 true, .tmp 66 true], some (63, true)⟩,
            ⟨some 68, .pick, [.tmp 63 true, .tmp 67 true, .const (.bool false)], none⟩,
            ⟨some 69, .move, [.tmp 68 true], none⟩,
            ⟨some 70, .loadF 0 true 5 false, [.tmp 1 false], some (69, true)⟩,
            ⟨some 71, .call 19, [.tmp 70 true], some (69, true)⟩,
            ⟨some 72, .pick, [.tmp 69 true, .tmp 71 true, .const (.bool false)], none⟩,
            ⟨some 73, .move, [.tmp 72 true], none⟩,
            ⟨some 74, .loadF 0 true 5 false, [.tmp 1 true], some (73, true)⟩,
            ⟨some 75, .call 20, [.tmp 74 true], some (73, true)⟩,
            ⟨some 76, .pick, [.tmp 73 true, .tmp 75 true, .const (.bool false)], none⟩,
            ⟨some 2, .move, [.tmp 76 true], none⟩] none [1, 3, 55, 56, 60, 64, 65, 66, 70, 74])
          .ret)))) }

/-- runrig/runrigref12.Right -/
def s10_l0 : SCode :=
  (.seq
    (.seq
      (.region [
        ⟨some 66, .move, [.tmp 5 false], none⟩,
        ⟨some 67, .move, [.tmp 4 false], none⟩,
        ⟨some 68, .len .sl, [.tmp 67 true], none⟩,
        ⟨some 69, .bin .lss, [.tmp 66 true, .tmp 68 true], none⟩] none [])
      (.cond (.tmp 69 true) []
        .skip [4, 5]
        (.exit 2)))
    (.seq
      (.block 3
        (.seq
          (.region [
            ⟨some 72, .loadF 0 true 5 false, [.tmp 1 false], none⟩,
            ⟨some 73, .move, [.tmp 4 false], none⟩,
            ⟨some 74, .move, [.tmp 5 false], none⟩,
            ⟨some 75, .indexAddr 4, [.tmp 73 true, .tmp 74 true], none⟩,
            ⟨some 76, .fieldAddr 1, [.tmp 75 true], none⟩,
            ⟨some 77, .load true 3 false, [.tmp 76 true], none⟩,
            ⟨some 78, .call 22, [.tmp 72 true, .tmp 77 true], none⟩,
            ⟨some 79, .un .not, [.tmp 78 true], none⟩] (some []) [])
          (.cond (.tmp 79 true) [1, 3, 4, 5]
            (.seq
              (.region [
                ⟨some 2, .move, [.const (.bool false)], none⟩] none [])
              .ret) []
            .skip)))
      (.region [
        ⟨some 70, .move, [.tmp 5 true], none⟩,
        ⟨some 71, .bin .add, [.tmp 70 true, .const (.int .i64 1)], none⟩,
        ⟨some 5, .move, [.tmp 71 true], none⟩] none [])))
def s10_l1 : SCode :=
  (.seq
    (.seq
      (.region [
        ⟨some 50, .move, [.tmp 3 false], none⟩,
        ⟨some 51, .fieldAddr 0, [.tmp 1 false], none⟩,
        ⟨some 52, .loadF 0 false 1 false, [.tmp 51 true], none⟩,
        ⟨some 53, .len .sl, [.tmp 52 true], none⟩,
        ⟨some 54, .bin .lss, [.tmp 50 true, .tmp 53 true], none⟩] none [])
      (.cond (.tmp 54 true) []
        .skip [3]
        (.exit 0)))
    (.seq
      (.block 1
        (.seq
          (.region [
            ⟨some 57, .fieldAddr 0, [.tmp 1 false], none⟩,
            ⟨some 58, .loadF 0 false 1 false, [.tmp 57 true], none⟩,
            ⟨some 59, .move, [.tmp 3 false], none⟩,
            ⟨some 60, .indexAddr 2, [.tmp 58 true, .tmp 59 true], none⟩,
            ⟨some 61, .fieldAddr 1, [.tmp 60 true], none⟩,
            ⟨some 62, .load false 1 false, [.tmp 61 true], none⟩,
            ⟨some 4, .move, [.tmp 62 true], none⟩] none [])
          (.seq
            (.seq
              (.region [
                ⟨some 63, .move, [.tmp 4 false], none⟩,
                ⟨some 64, .len .sl, [.tmp 63 true], none⟩,
                ⟨some 65, .bin .gtr, [.tmp 64 true, .const (.int .i64 8)], none⟩] none [])
              (.cond (.tmp 65 true) [1, 3, 4]
                (.seq
                  (.region [
                    ⟨some 2, .move, [.const (.bool false)], none⟩] none [])
                  .ret) []
                .skip))
            (.seq
              (.region [
                ⟨some 5, .move, [.const (.int .i64 0)], none⟩] none [])
              (.block 2
                (.loop s10_l0))))))
      (.region [
        ⟨some 55, .move, [.tmp 3 true], none⟩,
        ⟨some 56, .bin .add, [.tmp 55 true, .const (.int .i64 1)], none⟩,
        ⟨some 3, .move, [.tmp 56 true], none⟩] none [])))
def s10_l2 : SCode :=
  (.seq
    (.seq
      (.region [
        ⟨some 80, .move, [.tmp 6 false], none⟩,
        ⟨some 81, .fieldAddr 3, [.tmp 1 false], none⟩,
        ⟨some 82, .loadF 0 false 1 false, [.tmp 81 true], none⟩,
        ⟨some 83, .len .sl, [.tmp 82 true], none⟩,
        ⟨some 84, .bin .lss, [.tmp 80 true, .tmp 83 true], none⟩] none [])
      (.cond (.tmp 84 true) []
        .skip [6]
        (.exit 4)))
    (.seq
      (.block 5
        (.seq
          (.region [
            ⟨some 87, .fieldAddr 3, [.tmp 1 false], none⟩,
            ⟨some 88, .loadF 0 false 1 false, [.tmp 87 true], none⟩,
            ⟨some 89, .move, [.tmp 6 false], none⟩,
            ⟨some 90, .indexAddr 4, [.tmp 88 true, .tmp 89 true], none⟩,
            ⟨some 91, .load true 4 false, [.tmp 90 true], none⟩,
            ⟨some 7, .allocF 1 [.int .i64 0, .int .i64 0, .int .i64 0, .int .i64 0], [], none⟩,
            ⟨none, .storeF 1 4, [.tmp 7 false, .tmp 91 true], none⟩] none [])
          (.seq
            (.region [
              ⟨some 92, .fieldAddr 0, [.tmp 7 false], none⟩,
              ⟨some 93, .loadF 1 false 1 false, [.tmp 92 true], none⟩,
              ⟨some 94, .bin .lss, [.tmp 93 true, .const (.int .i64 0)], none⟩,
              ⟨some 95, .move, [.tmp 94 true], none⟩,
              ⟨some 96, .fieldAddr 0, [.tmp 7 false], some (95, false)⟩,
              ⟨some 97, .loadF 1 false 1 false, [.tmp 96 true], some (95, false)⟩,
              ⟨some 98, .fieldAddr 2, [.tmp 1 false], some (95, false)⟩,
              ⟨some 99, .loadF 0 false 1 false, [.tmp 98 true], some (95, false)⟩,
              ⟨some 100, .len .sl, [.tmp 99 true], some (95, false)⟩,
              ⟨some 101, .bin .geq, [.tmp 97 true, .tmp 100 true], some (95, false)⟩,
              ⟨some 102, .pick, [.tmp 95 true, .const (.bool true), .tmp 101 true], none⟩,
              ⟨some 103, .move, [.tmp 102 true], none⟩,
              ⟨some 104, .loadF 0 true 5 false, [.tmp 1 false], some (103, false)⟩,
              ⟨some 105, .fieldAddr 1, [.tmp 7 false], some (103, false)⟩,
              ⟨some 106, .loadF 1 true 3 false, [.tmp 105 true], some (103, false)⟩,
              ⟨some 107, .call 22, [.tmp 104 true, .tmp 106 true], some (103, false)⟩,
              ⟨some 108, .un .not, [.tmp 107 true], some (103, false)⟩,
              ⟨some 109, .pick, [.tmp 103 true, .const (.bool true), .tmp 108 true], none⟩,
              ⟨some 110, .move, [.tmp 109 true], none⟩,
              ⟨some 111, .fieldAddr 1, [.tmp 7 true], some (110, false)⟩,
              ⟨some 112, .loadF 1 true 3 false, [.tmp 111 true], some (110, false)⟩,
              ⟨some 113, .call 14, [.tmp 112 true], some (110, false)⟩,
              ⟨some 114, .un .not, [.tmp 113 true], some (110, false)⟩,
              ⟨some 115, .pick, [.tmp 110 true, .const (.bool true), .tmp 114 true], none⟩] none [7, 96, 97, 98, 99, 100, 104, 105, 106, 107, 111, 112, 113])
            (.cond (.tmp 115 true) [1, 6]
              (.seq
                (.region [
                  ⟨some 2, .move, [.const (.bool false)], none⟩] none [])
                .ret) []
              .skip))))
      (.region [
        ⟨some 85, .move, [.tmp 6 true], none⟩,
        ⟨some 86, .bin .add, [.tmp 85 true, .const (.int .i64 1)], none⟩,
        ⟨some 6, .move, [.tmp 86 true], none⟩] none [])))
def s10_l3 : SCode :=
  (.seq
    (.seq
      (.region [
        ⟨some 116, .move, [.tmp 9 false], none⟩,
        ⟨some 117, .fieldAddr 2, [.tmp 1 false], none⟩,
        ⟨some 118, .loadF 0 false 1 false, [.tmp 117 true], none⟩,
        ⟨some 119, .len .sl, [.tmp 118 true], none⟩,
        ⟨some 120, .bin .lss, [.tmp 116 true, .tmp 119 true], none⟩] none [])
      (.cond (.tmp 120 true) []
        .skip [8, 9]
        (.exit 6)))
    (.seq
      (.block 7
        (.seq
          (.region [
            ⟨some 123, .fieldAddr 2, [.tmp 1 false], none⟩,
            ⟨some 124, .loadF 0 false 1 false, [.tmp 123 true], none⟩,
            ⟨some 125, .move, [.tmp 9 false], none⟩,
            ⟨some 126, .indexAddr 7, [.tmp 124 true, .tmp 125 true], none⟩,
            ⟨some 127, .load true 7 false, [.tmp 126 true], none⟩,
            ⟨some 10, .allocF 2 [.int .i64 0, .nilSl, .bool false, .int .i64 0, .int .i64 0, .int .i64 0, .nilSl], [], none⟩,
            ⟨none, .storeF 2 7, [.tmp 10 false, .tmp 127 true], none⟩] none [])
          (.seq
            (.region [
              ⟨some 128, .move, [.tmp 8 true], none⟩,
              ⟨some 129, .fieldAddr 6, [.tmp 10 false], none⟩,
              ⟨some 130, .loadF 2 false 1 false, [.tmp 129 true], none⟩,
              ⟨some 131, .len .sl, [.tmp 130 true], none⟩,
              ⟨some 132, .bin .add, [.tmp 128 true, .tmp 131 true], none⟩,
              ⟨some 8, .move, [.tmp 132 true], none⟩] none [])
            (.seq
              (.seq
                (.region [
                  ⟨some 133, .fieldAddr 1, [.tmp 10 false], none⟩,
                  ⟨some 134, .loadF 2 false 1 false, [.tmp 133 true], none⟩,
                  ⟨some 135, .len .sl, [.tmp 134 true], none⟩,
                  ⟨some 136, .bin .gtr, [.tmp 135 true, .const (.int .i64 4000)], none⟩,
                  ⟨some 137, .move, [.tmp 136 true], none⟩,
                  ⟨some 138, .fieldAddr 0, [.tmp 10 false], some (137, false)⟩,
                  ⟨some 139, .loadF 2 false 1 false, [.tmp 138 true], some (137, false)⟩,
                  ⟨some 140, .bin .lss, [.tmp 139 true, .const (.int .i64 0)], some (137, false)⟩,
                  ⟨some 141, .pick, [.tmp 137 true, .const (.bool true), .tmp 140 true], none⟩,
                  ⟨some 142, .move, [.tmp 141 true], none⟩,
                  ⟨some 143, .fieldAddr 0, [.tmp 10 false], some (142, false)⟩,
                  ⟨some 144, .loadF 2 false 1 false, [.tmp 143 true], some (142, false)⟩,
                  ⟨some 145, .bin .gtr, [.tmp 144 true, .const (.int .i64 6)], some (142, false)⟩,
                  ⟨some 146, .pick, [.tmp 142 true, .const (.bool true), .tmp 145 true], none⟩,
                  ⟨some 147, .move, [.tmp 146 true], none⟩,
                  ⟨some 148, .fieldAddr 0, [.tmp 10 false], some (147, false)⟩,
                  ⟨some 149, .loadF 2 false 1 false, [.tmp 148 true], some (147, false)⟩,
                  ⟨some 150, .fieldAddr 1, [.tmp 10 false], some (147, false)⟩,
                  ⟨some 151, .loadF 2 false 1 false, [.tmp 150 true], some (147, false)⟩,
                  ⟨some 152, .len .sl, [.tmp 151 true], some (147, false)⟩,
                  ⟨some 153, .bin .gtr, [.tmp 149 true, .tmp 152 true], some (147, false)⟩,
                  ⟨some 154, .pick, [.tmp 147 true, .const (.bool true), .tmp 153 true], none⟩,
                  ⟨some 155, .move, [.tmp 154 true], none⟩,
                  ⟨some 156, .loadF 0 true 5 false, [.tmp 1 false], some (155, false)⟩,
                  ⟨some 157, .fieldAddr 1, [.tmp 10 false], some (155, false)⟩,
                  ⟨some 158, .loadF 2 false 1 false, [.tmp 157 true], some (155, false)⟩,
                  ⟨some 159, .call 21, [.tmp 156 true, .tmp 158 true], some (155, false)⟩,
                  ⟨some 160, .un .not, [.tmp 159 true], some (155, false)⟩,
                  ⟨some 161, .pick, [.tmp 155 true, .const (.bool true), .tmp 160 true], none⟩,
                  ⟨some 162, .move, [.tmp 161 true], none⟩,
                  ⟨some 163, .fieldAddr 6, [.tmp 10 false], some (162, false)⟩,
                  ⟨some 164, .loadF 2 false 1 false, [.tmp 163 true], some (162, false)⟩,
                  ⟨some 165, .len .sl, [.tmp 164 true], some (162, false)⟩,
                  ⟨some 166, .bin .lss, [.tmp 165 true, .const (.int .i64 1)], some (162, false)⟩,
                  ⟨some 167, .pick, [.tmp 162 true, .const (.bool true), .tmp 166 true], none⟩,
                  ⟨some 168, .move, [.tmp 167 true], none⟩,
                  ⟨some 169, .move, [.tmp 8 false], some (168, false)⟩,
                  ⟨some 170, .bin .gtr, [.tmp 169 true, .const (.int .i64 2500)], some (168, false)⟩,
                  ⟨some 171, .pick, [.tmp 168 true, .const (.bool true), .tmp 170 true], none⟩] none [138, 139, 143, 144, 148, 149, 150, 151, 152, 156, 157, 158, 159, 163, 164, 165, 169])
                (.cond (.tmp 171 true) [1, 8, 9, 10]
                  (.seq
                    (.region [
                      ⟨some 2, .move, [.const (.bool false)], none⟩] none [])
                    .ret) []
                  .skip))
              (.seq
                (.region [
                  ⟨some 172, .fieldAddr 2, [.tmp 10 false], none⟩,
                  ⟨some 173, .loadF 2 false 1 false, [.tmp 172 true], none⟩,
                  ⟨some 174, .move, [.tmp 173 true], none⟩,
                  ⟨some 175, .loadF 0 true 5 false, [.tmp 1 false], some (174, true)⟩,
                  ⟨some 176, .fieldAddr 3, [.tmp 10 false], some (174, true)⟩,
                  ⟨some 177, .loadF 2 true 3 false, [.tmp 176 true], some (174, true)⟩,
                  ⟨some 178, .call 22, [.tmp 175 true, .tmp 177 true], some (174, true)⟩,
                  ⟨some 179, .un .not, [.tmp 178 true], some (174, true)⟩,
                  ⟨some 180, .pick, [.tmp 174 true, .tmp 179 true, .const (.bool false)], none⟩,
                  ⟨some 181, .move, [.tmp 180 true], none⟩,
                  ⟨some 182, .fieldAddr 2, [.tmp 10 false], some (181, false)⟩,
                  ⟨some 183, .loadF 2 false 1 false, [.tmp 182 true], some (181, false)⟩,
                  ⟨some 184, .un .not, [.tmp 183 true], some (181, false)⟩,
                  ⟨some 185, .move, [.tmp 184 true], some (181, false)⟩,
                  ⟨some 186, .fieldAddr 3, [.tmp 10 true], some (185, true)⟩,
                  ⟨some 187, .loadF 2 true 3 false, [.tmp 186 true], some (185, true)⟩,
                  ⟨some 188, .build [.int .i64 0, .int .i64 0, .int .i64 0] [], [], some (185, true)⟩,
                  ⟨some 189, .eqv (.flat [.int, .int, .int]) true, [.tmp 187 true, .tmp 188 true], some (185, true)⟩,
                  ⟨some 190, .pick, [.tmp 185 true, .tmp 189 true, .const (.bool false)], some (181, false)⟩,
                  ⟨some 191, .pick, [.tmp 181 true, .const (.bool true), .tmp 190 true], none⟩] none [10, 175, 176, 177, 178, 182, 183, 184, 185, 186, 187, 188, 189])
                (.cond (.tmp 191 true) [1, 8, 9]
                  (.seq
                    (.region [
                      ⟨some 2, .move, [.const (.bool false)], none⟩] none [])
                    .ret) []
                  .skip))))))
      (.region [
        ⟨some 121, .move, [.tmp 9 true], none⟩,
        ⟨some 122, .bin .add, [.tmp 121 true, .const (.int .i64 1)], none⟩,
        ⟨some 9, .move, [.tmp 122 true], none⟩] none [])))
def s10_l4 : SCode :=
  (.seq
    (.seq
      (.region [
        ⟨some 205, .move, [.tmp 13 false], none⟩,
        ⟨some 206, .move, [.tmp 12 false], none⟩,
        ⟨some 207, .len .sl, [.tmp 206 true], none⟩,
        ⟨some 208, .bin .lss, [.tmp 205 true, .tmp 207 true], none⟩] none [])
      (.cond (.tmp 208 true) []
        .skip [13]
        (.exit 10)))
    (.seq
      (.block 11
        (.seq
          (.region [
            ⟨some 211, .loadF 0 true 5 false, [.tmp 1 false], none⟩,
            ⟨some 212, .move, [.tmp 11 false], none⟩,
            ⟨some 213, .move, [.tmp 12 false], none⟩,
            ⟨some 214, .move, [.tmp 13 false], none⟩,
            ⟨some 215, .indexAddr 6, [.tmp 213 true, .tmp 214 true], none⟩,
            ⟨some 216, .load true 6 false, [.tmp 215 true], none⟩,
            ⟨some 217, .call 13, [.tmp 211 true, .tmp 212 true, .tmp 216 true], none⟩,
            ⟨some 218, .un .not, [.tmp 217 true], none⟩] (some []) [])
          (.cond (.tmp 218 true) [1, 11, 12, 13]
            (.seq
              (.region [
                ⟨some 2, .move, [.const (.bool false)], none⟩] none [])
              .ret) []
            .skip)))
      (.region [
        ⟨some 209, .move, [.tmp 13 true], none⟩,
        ⟨some 210, .bin .add, [.tmp 209 true, .const (.int .i64 1)], none⟩,
        ⟨some 13, .move, [.tmp 210 true], none⟩] none [])))
def s10_l5 : SCode :=
  (.seq
    (.seq
      (.region [
        ⟨some 192, .move, [.tmp 11 false], none⟩,
        ⟨some 193, .fieldAddr 2, [.tmp 1 false], none⟩,
        ⟨some 194, .loadF 0 false 1 false, [.tmp 193 true], none⟩,
        ⟨some 195, .len .sl, [.tmp 194 true], none⟩,
        ⟨some 196, .bin .lss, [.tmp 192 true, .tmp 195 true], none⟩] none [])
      (.cond (.tmp 196 true) []
        .skip [11]
        (.exit 8)))
    (.seq
      (.block 9
        (.seq
          (.region [
            ⟨some 199, .fieldAddr 2, [.tmp 1 false], none⟩,
            ⟨some 200, .loadF 0 false 1 false, [.tmp 199 true], none⟩,
            ⟨some 201, .move, [.tmp 11 false], none⟩,
            ⟨some 202, .indexAddr 7, [.tmp 200 true, .tmp 201 true], none⟩,
            ⟨some 203, .fieldAddr 6, [.tmp 202 true], none⟩,
            ⟨some 204, .load false 1 false, [.tmp 203 true], none⟩,
            ⟨some 12, .move, [.tmp 204 true], none⟩] none [])
          (.seq
            (.seq
              (.region [
                ⟨some 13, .move, [.const (.int .i64 0)], none⟩] none [])
              (.block 10
                (.loop s10_l4)))
            (.seq
              (.region [
                ⟨some 219, .move, [.tmp 12 false], none⟩,
                ⟨some 220, .move, [.tmp 12 true], none⟩,
                ⟨some 221, .len .sl, [.tmp 220 true], none⟩,
                ⟨some 222, .bin .sub, [.tmp 221 true, .const (.int .i64 1)], none⟩,
                ⟨some 223, .indexAddr 6, [.tmp 219 true, .tmp 222 true], none⟩,
                ⟨some 224, .fieldAddr 0, [.tmp 223 true], none⟩,
                ⟨some 225, .load false 1 false, [.tmp 224 true], none⟩,
                ⟨some 14, .move, [.tmp 225 true], none⟩] none [])
              (.seq
                (.region [
                  ⟨some 226, .move, [.tmp 14 false], none⟩,
                  ⟨some 227, .bin .neq, [.tmp 226 true, .const (.int .i64 16)], none⟩,
                  ⟨some 228, .move, [.tmp 227 true], none⟩,
                  ⟨some 229, .move, [.tmp 14 false], some (228, true)⟩,
                  ⟨some 230, .bin .neq, [.tmp 229 true, .const (.int .i64 17)], some (228, true)⟩,
                  ⟨some 231, .pick, [.tmp 228 true, .tmp 230 true, .const (.bool false)], none⟩,
                  ⟨some 232, .move, [.tmp 231 true], none⟩,
                  ⟨some 233, .move, [.tmp 14 true], some (232, true)⟩,
                  ⟨some 234, .bin .neq, [.tmp 233 true, .const (.int .i64 18)], some (232, true)⟩,
                  ⟨some 235, .pick, [.tmp 232 true, .tmp 234 true, .const (.bool false)], none⟩] none [14, 229, 233])
                (.cond (.tmp 235 true) [1, 11]
                  (.seq
                    (.region [
                      ⟨some 2, .move, [.const (.bool false)], none⟩] none [])
                    .ret) []
                  .skip))))))
      (.region [
        ⟨some 197, .move, [.tmp 11 true], none⟩,
        ⟨some 198, .bin .add, [.tmp 197 true, .const (.int .i64 1)], none⟩,
        ⟨some 11, .move, [.tmp 198 true], none⟩] none [])))
def s10 : SFunc := { fid := 10, mode := .pure, nparams := 1, nboxes := 3, clr := [], results := [.tmp 2 false], body :=
  (.seq
    (.region [
      ⟨some 1, .boxF 0 5, [.tmp 0 true], none⟩,
      ⟨some 2, .move, [.const (.bool false)], none⟩] none [2])
    (.seq
      (.seq
        (.region [
          ⟨some 15, .fieldAddr 0, [.tmp 1 false], none⟩,
          ⟨some 16, .loadF 0 false 1 false, [.tmp 15 true], none⟩,
          ⟨some 17, .len .sl, [.tmp 16 true], none⟩,
          ⟨some 18, .bin .gtr, [.tmp 17 true, .const (.int .i64 12)], none⟩,
          ⟨some 19, .move, [.tmp 18 true], none⟩,
          ⟨some 20, .fieldAddr 1, [.tmp 1 false], some (19, false)⟩,
          ⟨some 21, .loadF 0 false 1 false, [.tmp 20 true], some (19, false)⟩,
          ⟨some 22, .len .sl, [.tmp 21 true], some (19, false)⟩,
          ⟨some 23, .bin .gtr, [.tmp 22 true, .const (.int .i64 8)], some (19, false)⟩,
          ⟨some 24, .pick, [.tmp 19 true, .const (.bool true), .tmp 23 true], none⟩,
          ⟨some 25, .move, [.tmp 24 true], none⟩,
          ⟨some 26, .fieldAddr 2, [.tmp 1 false], some (25, false)⟩,
          ⟨some 27, .loadF 0 false 1 false, [.tmp 26 true], some (25, false)⟩,
          ⟨some 28, .len .sl, [.tmp 27 true], some (25, false)⟩,
          ⟨some 29, .bin .lss, [.tmp 28 true, .const (.int .i64 1)], some (25, false)⟩,
          ⟨some 30, .pick, [.tmp 25 true, .const (.bool true), .tmp 29 true], none⟩,
          ⟨some 31, .move, [.tmp 30 true], none⟩,
          ⟨some 32, .fieldAddr 2, [.tmp 1 false], some (31, false)⟩,
          ⟨some 33, .loadF 0 false 1 false, [.tmp 32 true], some (31, false)⟩,
          ⟨some 34, .len .sl, [.tmp 33 true], some (31, false)⟩,
          ⟨some 35, .bin .gtr, [.tmp 34 true, .const (.int .i64 16)], some (31, false)⟩,
          ⟨some 36, .pick, [.tmp 31 true, .const (.bool true), .tmp 35 true], none⟩,
          ⟨some 37, .move, [.tmp 36 true], none⟩,
          ⟨some 38, .fieldAddr 3, [.tmp 1 false], some (37, false)⟩,
          ⟨some 39, .loadF 0 false 1 false, [.tmp 38 true], some (37, false)⟩,
          ⟨some 40, .len .sl, [.tmp 39 true], some (37, false)⟩,
          ⟨some 41, .bin .gtr, [.tmp 40 true, .const (.int .i64 60)], some (37, false)⟩,
          ⟨some 42, .pick, [.tmp 37 true, .const (.bool true), .tmp 41 true], none⟩,
          ⟨some 43, .move, [.tmp 42 true], none⟩,
          ⟨some 44, .loadF 0 true 5 false, [.tmp 1 false], some (43, false)⟩,
          ⟨some 45, .fieldAddr 1, [.tmp 1 false], some (43, false)⟩,
          ⟨some 46, .loadF 0 false 1 false, [.tmp 45 true], some (43, false)⟩,
          ⟨some 47, .call 21, [.tmp 44 true, .tmp 46 true], some (43, false)⟩,
          ⟨some 48, .un .not, [.tmp 47 true], some (43, false)⟩,
          ⟨some 49, .pick, [.tmp 43 true, .const (.bool true), .tmp 48 true], none⟩] none [20, 21, 22, 26, 27, 28, 32, 33, 34, 38, 39, 40, 44, 45, 46, 47])
        (.cond (.tmp 49 true) [1]
          (.seq
            (.region [
              ⟨some 2, .move, [.const (.bool false)], none⟩] none [])
            .ret) []
          .skip))
      (.seq
        (.seq
          (.region [
            ⟨some 3, .move, [.const (.int .i64 0)], none⟩] none [])
          (.block 0
            (.loop s10_l1)))
        (.seq
          (.seq
            (.region [
              ⟨some 6, .move, [.const (.int .i64 0)], none⟩] none [])
            (.block 4
              (.loop s10_l2)))
          (.seq
            (.region [
              ⟨some 8, .move, [.const (.int .i64 0)], none⟩] none [])
            (.seq
              (.seq
                (.region [
                  ⟨some 9, .move, [.const (.int .i64 0)], none⟩] none [])
                (.block 6
                  (.loop s10_l3)))
              (.seq
                (.seq
                  (.region [
                    ⟨some 11, .move, [.const (.int .i64 0)], none⟩] none [])
                  (.block 8
                    (.loop s10_l5)))
                (.seq
                  (.region [
                    ⟨some 236, .fieldAddr 4, [.tmp 1 false], none⟩,
                    ⟨some 237, .loadF 0 false 1 false, [.tmp 236 true], none⟩,
                    ⟨some 238, .bin .geq, [.tmp 237 true, .const (.int .i64 0)], none⟩,
                    ⟨some 239, .move, [.tmp 238 true], none⟩,
                    ⟨some 240, .fieldAddr 4, [.tmp 1 false], some (239, true)⟩,
                    ⟨some 241, .loadF 0 false 1 false, [.tmp 240 true], some (239, true)⟩,
                    ⟨some 242, .fieldAddr 2, [.tmp 1 false], some (239, true)⟩,
                    ⟨some 243, .loadF 0 false 1 false, [.tmp 242 true], some (239, true)⟩,
                    ⟨some 244, .len .sl, [.tmp 243 true], some (239, true)⟩,
                    ⟨some 245, .bin .lss, [.tmp 241 true, .tmp 244 true], some (239, true)⟩,
                    ⟨some 246, .pick, [.tmp 239 true, .tmp 245 true, .const (.bool false)], none⟩,
                    ⟨some 247, .move, [.tmp 246 true], none⟩,
                    ⟨some 248, .fieldAddr 2, [.tmp 1 false], some (247, true)⟩,
                    ⟨some 249, .loadF 0 false 1 false, [.tmp 248 true], some (247, true)⟩,
                    ⟨some 250, .fieldAddr 4, [.tmp 1 false], some (247, true)⟩,
                    ⟨some 251, .loadF 0 false 1 false, [.tmp 250 true], some (247, true)⟩,
                    ⟨some 252, .indexAddr 7, [.tmp 249 true, .tmp 251 true], some (247, true)⟩,
                    ⟨some 253, .fieldAddr 0, [.tmp 252 true], some (247, true)⟩,
                    ⟨some 254, .load false 1 false, [.tmp 253 true], some (247, true)⟩,
                    ⟨some 255, .bin .eql, [.tmp 254 true, .const (.int .i64 0)], some (247, true)⟩,
                    ⟨some 256, .pick, [.tmp 247 true, .tmp 255 true, .const (.bool false)], none⟩,
                    ⟨some 257, .move, [.tmp 256 true], none⟩,
                    ⟨some 258, .fieldAddr 2, [.tmp 1 false], some (257, true)⟩,
                    ⟨some 259, .loadF 0 false 1 false, [.tmp 258 true], some (257, true)⟩,
                    ⟨some 260, .fieldAddr 4, [.tmp 1 true], some (257, true)⟩,
                    ⟨some 261, .loadF 0 false 1 false, [.tmp 260 true], some (257, true)⟩,
                    ⟨some 262, .indexAddr 7, [.tmp 259 true, .tmp 261 true], some (257, true)⟩,
                    ⟨some 263, .fieldAddr 2, [.tmp 262 true], some (257, true)⟩,
                    ⟨some 264, .load false 1 false, [.tmp 263 true], some (257, true)⟩,
                    ⟨some 265, .un .not, [.tmp 264 true], some (257, true)⟩,
                    ⟨some 266, .pick, [.tmp 257 true, .tmp 265 true, .const (.bool false)], none⟩,
                    ⟨some 2, .move, [.tmp 266 true], none⟩] none [1, 240, 241, 242, 243, 244, 248, 249, 250, 251, 252, 253, 254, 258, 259, 260, 261, 262, 263, 264])
                  .ret)))))))) }

/-- runrig/runriglaw12.known -/

def s11 : SFunc := { fid := 11, mode := .pure, nparams := 0, nboxes := 2, clr := [], results := [.tmp 0 false], body :=
  (.seq
    (.region [
      ⟨some 0, .move, [.const (.bool false)], none⟩] none [0])
    (.seq
      (.region [
        ⟨some 3, .build [.int .i64 0, .int .i64 0, .int .i64 0] [(0, 1)], [.const (.int .i64 1)], none⟩,
        ⟨some 4, .lit 3 1 [.int .i64 0, .int .i64 0, .int .i64 0] [0], [.tmp 3 true], none⟩,
        ⟨some 5, .build [.int .i64 0, .int .i64 0, .int .i64 0, .int .i64 0, .int .i64 0, .nilSl] [(0, 1), (4, 1)], [.const (.int .i64 1), .const (.int .i64 3)], none⟩,
        ⟨some 6, .build [.int .i64 0, .int .i64 0, .int .i64 0, .int .i64 0, .int .i64 0, .nilSl] [(0, 1)], [.const (.int .i64 15)], none⟩,
        ⟨some 7, .build [.int .i64 0, .int .i64 0, .int .i64 0, .int .i64 0, .int .i64 0, .nilSl] [(0, 1), (1, 1)], [.const (.int .i64 18), .const (.int .i64 (-1))], none⟩,
        ⟨some 8, .lit 6 3 [.int .i64 0, .int .i64 0, .int .i64 0, .int .i64 0, .int .i64 0, .nilSl] [0, 1, 2], [.tmp 5 true, .tmp 6 true, .tmp 7 true], none⟩,
        ⟨some 9, .build [.int .i64 0, .nilSl, .bool false, .int .i64 0, .int .i64 0, .int .i64 0, .nilSl] [(1, 1), (6, 1)], [.tmp 4 true, .tmp 8 true], none⟩,
        ⟨some 10, .lit 7 1 [.int .i64 0, .nilSl, .bool false, .int .i64 0, .int .i64 0, .int .i64 0, .nilSl] [0], [.tmp 9 true], none⟩,
        ⟨some 11, .build [.nilSl, .nilSl, .nilSl, .nilSl, .int .i64 0] [(2, 1)], [.tmp 10 true], none⟩,
        ⟨some 1, .allocF 0 [.nilSl, .nilSl, .nilSl, .nilSl, .int .i64 0], [], none⟩,
        ⟨none, .storeF 0 5, [.tmp 1 false, .tmp 11 true], none⟩] none [])
      (.seq
        (.region [
          ⟨some 12, .loadF 0 true 5 false, [.tmp 1 false], none⟩,
          ⟨some 2, .allocF 1 [.nilSl, .nilSl, .nilSl, .nilSl, .int .i64 0], [], none⟩,
          ⟨none, .storeF 1 5, [.tmp 2 false, .tmp 12 true], none⟩] none [])
        (.seq
          (.region [
            ⟨some 13, .fieldAddr 4, [.tmp 2 false], none⟩,
            ⟨none, .storeF 1 1, [.tmp 13 true, .const (.int .i64 1)], none⟩] none [])
          (.seq
            (.region [
              ⟨some 14, .loadF 0 true 5 false, [.tmp 1 false], none⟩,
              ⟨some 15, .call 9, [.tmp 14 true], none⟩,
              ⟨some 16, .move, [.tmp 15 true], none⟩,
              ⟨some 17, .loadF 1 true 5 false, [.tmp 2 true], some (16, true)⟩,
              ⟨some 18, .call 9, [.tmp 17 true], some (16, true)⟩,
              ⟨some 19, .un .not, [.tmp 18 true], some (16, true)⟩,
              ⟨some 20, .pick, [.tmp 16 false, .tmp 19 true, .const (.bool false)], none⟩,
              ⟨some 21, .move, [.tmp 20 true], none⟩,
              ⟨some 22, .loadF 0 true 5 false, [.tmp 1 false], some (21, true)⟩,
              ⟨some 23, .fieldAddr 2, [.tmp 1 false], some (21, true)⟩,
              ⟨some 24, .loadF 0 false 1 false, [.tmp 23 true], some (21, true)⟩,
              ⟨some 25, .indexAddr 7, [.tmp 24 true, .const (.int .i64 0)], some (21, true)⟩,
              ⟨some 26, .fieldAddr 6, [.tmp 25 true], some (21, true)⟩,
              ⟨some 27, .load false 1 false, [.tmp 26 true], some (21, true)⟩,
              ⟨some 28, .indexAddr 6, [.tmp 27 true, .const (.int .i64 0)], some (21, true)⟩,
              ⟨some 29, .load true 6 false, [.tmp 28 true], some (21, true)⟩,
              ⟨some 30, .call 12, [.tmp 22 true, .const (.int .i64 0), .tmp 29 true], some (21, true)⟩,
              ⟨some 31, .pick, [.tmp 21 false, .tmp 30 true, .const (.bool false)], none⟩,
              ⟨some 32, .move, [.tmp 31 true], none⟩,
              ⟨some 33, .loadF 0 true 5 false, [.tmp 1 false], some (32, true)⟩,
              ⟨some 34, .build [.int .i64 0, .int .i64 0, .int .i64 0, .int .i64 0, .int .i64 0, .nilSl] [(0, 1)], [.const (.int .i64 2)], some (32, true)⟩,
              ⟨some 35, .call 12, [.tmp 33 true, .const (.int .i64 0), .tmp 34 true], some (32, true)⟩,
              ⟨some 36, .un .not, [.tmp 35 true], some (32, true)⟩,
              ⟨some 37, .pick, [.tmp 32 false, .tmp 36 true, .const (.bool false)], none⟩,
              ⟨some 0, .move, [.tmp 37 true], none⟩] (some []) [1, 2, 16, 17, 18, 21, 22, 23, 24, 25, 26, 27, 28, 29, 32, 33, 34, 35])
            .ret))))) }

/-- runrig/ir.Step -/

def s12 : SFunc := { fid := 12, mode := .pure, nparams := 3, nboxes := 2, clr := [], results := [.tmp 6 false], body :=
  (.seq
    (.region [
      ⟨some 3, .boxF 0 5, [.tmp 0 true], none⟩,
      ⟨some 5, .boxF 1 6, [.tmp 2 true], none⟩,
      ⟨some 6, .move, [.const (.bool false)], none⟩] none [6])
    (.seq
      (.region [
        ⟨some 7, .move, [.tmp 1 false], none⟩,
        ⟨some 8, .bin .geq, [.tmp 7 true, .const (.int .i64 0)], none⟩,
        ⟨some 9, .move, [.tmp 8 true], none⟩,
        ⟨some 10, .move, [.tmp 1 false], some (9, true)⟩,
        ⟨some 11, .fieldAddr 2, [.tmp 3 false], some (9, true)⟩,
        ⟨some 12, .loadF 0 false 1 false, [.tmp 11 true], some (9, true)⟩,
        ⟨some 13, .len .sl, [.tmp 12 true], some (9, true)⟩,
        ⟨some 14, .bin .lss, [.tmp 10 true, .tmp 13 true], some (9, true)⟩,
        ⟨some 15, .pick, [.tmp 9 false, .tmp 14 true, .const (.bool false)], none⟩,
        ⟨some 16, .move, [.tmp 15 true], none⟩,
        ⟨some 17, .loadF 1 true 6 false, [.tmp 5 false], some (16, true)⟩,
        ⟨some 18, .call 23, [.tmp 17 true], some (16, true)⟩,
        ⟨some 19, .pick, [.tmp 16 false, .tmp 18 true, .const (.bool false)], none⟩,
        ⟨some 20, .move, [.tmp 19 true], none⟩,
        ⟨some 21, .loadF 0 true 5 false, [.tmp 3 false], some (20, true)⟩,
        ⟨some 22, .move, [.tmp 1 false], some (20, true)⟩,
        ⟨some 23, .fieldAddr 2, [.tmp 3 false], some (20, true)⟩,
        ⟨some 24, .loadF 0 false 1 false, [.tmp 23 true], some (20, true)⟩,
        ⟨some 25, .move, [.tmp 1 false], some (20, true)⟩,
        ⟨some 26, .indexAddr 7, [.tmp 24 true, .tmp 25 true], some (20, true)⟩,
        ⟨some 27, .load true 7 false, [.tmp 26 true], some (20, true)⟩,
        ⟨some 28, .loadF 1 true 6 false, [.tmp 5 false], some (20, true)⟩,
        ⟨some 29, .build [.nilSl, .nilSl, .nilSl, .nilSl, .int .i64 0, .int .i64 0, .int .i64 0, .nilSl, .bool false, .int .i64 0, .int .i64 0, .int .i64 0, .nilSl, .int .i64 0, .int .i64 0, .int .i64 0, .int .i64 0, .int .i64 0, .nilSl] [(0, 5), (5, 1), (6, 7), (13, 6)], [.tmp 21 true, .tmp 22 true, .tmp 27 true, .tmp 28 true], some (20, true)⟩,
        ⟨some 30, .call 24, [.tmp 29 true], some (20, true)⟩,
        ⟨some 31, .pick, [.tmp 20 false, .tmp 30 true, .const (.bool false)], none⟩,
        ⟨some 6, .move, [.tmp 31 true], none⟩] (some []) [1, 3, 5, 9, 10, 11, 12, 13, 16, 17, 20, 21, 22, 23, 24, 25, 26, 27, 28, 29])
      .ret)) }

/-- runrig/runrigref12.Step -/

def s13 : SFunc := { fid := 13, mode := .pure, nparams := 3, nboxes := 7, clr := [], results := [.tmp 6 false], body :=
  (.seq
    (.region [
      ⟨some 3, .boxF 0 5, [.tmp 0 true], none⟩,
      ⟨some 5, .boxF 1 6, [.tmp 2 true], none⟩,
      ⟨some 6, .move, [.const (.bool false)], none⟩] none [6])
    (.seq
      (.seq
        (.region [
          ⟨some 12, .move, [.tmp 1 false], none⟩,
          ⟨some 13, .bin .lss, [.tmp 12 true, .const (.int .i64 0)], none⟩,
          ⟨some 14, .move, [.tmp 13 true], none⟩,
          ⟨some 15, .move, [.tmp 1 false], some (14, false)⟩,
          ⟨some 16, .fieldAddr 2, [.tmp 3 false], some (14, false)⟩,
          ⟨some 17, .loadF 0 false 1 false, [.tmp 16 true], some (14, false)⟩,
          ⟨some 18, .len .sl, [.tmp 17 true], some (14, false)⟩,
          ⟨some 19, .bin .geq, [.tmp 15 true, .tmp 18 true], some (14, false)⟩,
          ⟨some 20, .pick, [.tmp 14 true, .const (.bool true), .tmp 19 true], none⟩,
          ⟨some 21, .move, [.tmp 20 true], none⟩,
          ⟨some 22, .loadF 1 true 6 false, [.tmp 5 false], some (21, false)⟩,
          ⟨some 23, .call 25, [.tmp 22 true], some (21, false)⟩,
          ⟨some 24, .un .not, [.tmp 23 true], some (21, false)⟩,
          ⟨some 25, .pick, [.tmp 21 true, .const (.bool true), .tmp 24 true], none⟩] none [15, 16, 17, 18, 22, 23])
        (.cond (.tmp 25 true) [1, 3, 5]
          (.seq
            (.region [
              ⟨some 6, .move, [.const (.bool false)], none⟩] none [])
            .ret) []
          .skip))
      (.seq
        (.region [
          ⟨some 26, .fieldAddr 2, [.tmp 3 false], none⟩,
          ⟨some 27, .loadF 0 false 1 false, [.tmp 26 true], none⟩,
          ⟨some 28, .move, [.tmp 1 false], none⟩,
          ⟨some 29, .indexAddr 7, [.tmp 27 true, .tmp 28 true], none⟩,
          ⟨some 30, .load true 7 false, [.tmp 29 true], none⟩,
          ⟨some 7, .allocF 2 [.int .i64 0, .nilSl, .bool false, .int .i64 0, .int .i64 0, .int .i64 0, .nilSl], [], none⟩,
          ⟨none, .storeF 2 7, [.tmp 7 false, .tmp 30 true], none⟩] none [])
        (.seq
          (.region [
            ⟨some 31, .build [.int .i64 0, .int .i64 0, .int .i64 0] [], [], none⟩,
            ⟨some 8, .allocF 3 [.int .i64 0, .int .i64 0, .int .i64 0], [], none⟩,
            ⟨none, .storeF 3 3, [.tmp 8 false, .tmp 31 true], none⟩] none [])
          (.seq
            (.region [
              ⟨some 32, .loadF 2 true 7 false, [.tmp 7 false], none⟩,
              ⟨some 33, .fieldAddr 1, [.tmp 5 false], none⟩,
              ⟨some 34, .loadF 1 false 1 false, [.tmp 33 true], none⟩,
              ⟨some 35, .call 26, [.tmp 32 true, .tmp 34 true], none⟩,
              ⟨some 36, .loadF 2 true 7 false, [.tmp 7 false], none⟩,
              ⟨some 37, .fieldAddr 2, [.tmp 5 false], none⟩,
              ⟨some 38, .loadF 1 false 1 false, [.tmp 37 true], none⟩,
              ⟨some 39, .call 26, [.tmp 36 true, .tmp 38 true], none⟩,
              ⟨some 40, .loadF 2 true 7 false, [.tmp 7 false], none⟩,
              ⟨some 41, .fieldAddr 3, [.tmp 5 false], none⟩,
              ⟨some 42, .loadF 1 false 1 false, [.tmp 41 true], none⟩,
              ⟨some 43, .call 26, [.tmp 40 true, .tmp 42 true], none⟩,
              ⟨some 9, .allocF 4 [.int .i64 0, .int .i64 0, .int .i64 0], [], none⟩,
              ⟨some 10, .allocF 5 [.int .i64 0, .int .i64 0, .int .i64 0], [], none⟩,
              ⟨some 11, .allocF 6 [.int .i64 0, .int .i64 0, .int .i64 0], [], none⟩,
              ⟨none, .storeF 4 3, [.tmp 9 false, .tmp 35 true], none⟩,
              ⟨none, .storeF 5 3, [.tmp 10 false, .tmp 39 true], none⟩,
              ⟨none, .storeF 6 3, [.tmp 11 false, .tmp 43 true], none⟩] (some []) [])
            (.seq
              (.seq
                (.region [
                  ⟨some 44, .fieldAddr 0, [.tmp 5 false], none⟩,
                  ⟨some 45, .loadF 1 false 1 false, [.tmp 44 true], none⟩] none [])
                (.block 0
                  (.seq
                    (.region [
                      ⟨some 47, .bin .eql, [.tmp 45 false, .const (.int .i64 1)], none⟩,
                      ⟨some 46, .move, [.tmp 47 true], none⟩] none [])
                    (.cond (.tmp 46 true) [1, 3, 7, 8, 10, 11, 45]
                      (.seq
                        (.region [
                          ⟨some 48, .loadF 4 true 3 false, [.tmp 9 false], none⟩,
                          ⟨some 49, .call 27, [], none⟩,
                          ⟨some 50, .eqv (.flat [.int, .int, .int]) false, [.tmp 48 true, .tmp 49 true], none⟩,
                          ⟨some 51, .move, [.tmp 50 true], none⟩,
                          ⟨some 52, .loadF 4 true 3 false, [.tmp 9 false], some (51, false)⟩,
                          ⟨some 53, .call 28, [], some (51, false)⟩,
                          ⟨some 54, .eqv (.flat [.int, .int, .int]) false, [.tmp 52 true, .tmp 53 true], some (51, false)⟩,
                          ⟨some 55, .move, [.tmp 54 true], some (51, false)⟩,
                          ⟨some 56, .fieldAddr 4, [.tmp 5 false], some (55, true)⟩,
                          ⟨some 57, .loadF 1 false 1 false, [.tmp 56 true], some (55, true)⟩,
                          ⟨some 58, .bin .eql, [.tmp 57 true, .const (.int .i64 0)], some (55, true)⟩,
                          ⟨some 59, .move, [.tmp 58 true], some (55, true)⟩,
                          ⟨some 60, .fieldAddr 4, [.tmp 5 false], some (59, false)⟩,
                          ⟨some 61, .loadF 1 false 1 false, [.tmp 60 true], some (59, false)⟩,
                          ⟨some 62, .bin .eql, [.tmp 61 true, .const (.int .i64 1)], some (59, false)⟩,
                          ⟨some 63, .pick, [.tmp 59 false, .const (.bool true), .tmp 62 true], some (55, true)⟩,
                          ⟨some 64, .pick, [.tmp 55 false, .tmp 63 true, .const (.bool false)], some (51, false)⟩,
                          ⟨some 65, .pick, [.tmp 51 false, .const (.bool true), .tmp 64 true], none⟩,
                          ⟨some 6, .move, [.tmp 65 true], none⟩] (some []) [5, 9, 51, 52, 53, 54, 55, 56, 57, 58, 59, 60, 61, 62, 63])
                        .ret) []
                      (.seq
                        (.region [
                          ⟨some 67, .bin .eql, [.tmp 45 false, .const (.int .i64 2)], none⟩,
                          ⟨some 66, .move, [.tmp 67 true], none⟩] none [])
                        (.cond (.tmp 66 true) [1, 3, 5, 7, 10, 11, 45]
                          (.seq
                            (.region [
                              ⟨some 68, .loadF 4 true 3 false, [.tmp 9 false], none⟩,
                              ⟨some 69, .loadF 3 true 3 false, [.tmp 8 true], none⟩,
                              ⟨some 70, .eqv (.flat [.int, .int, .int]) true, [.tmp 68 true, .tmp 69 true], none⟩,
                              ⟨some 71, .move, [.tmp 70 true], none⟩,
                              ⟨some 72, .loadF 4 true 3 false, [.tmp 9 true], some (71, true)⟩,
                              ⟨some 73, .call 14, [.tmp 72 true], some (71, true)⟩,
                              ⟨some 74, .pick, [.tmp 71 true, .tmp 73 true, .const (.bool false)], none⟩,
                              ⟨some 6, .move, [.tmp 74 true], none⟩] none [9, 72])
                            .ret) []
                          (.seq
                            (.region [
                              ⟨some 76, .bin .eql, [.tmp 45 false, .const (.int .i64 3)], none⟩,
                              ⟨some 75, .move, [.tmp 76 true], none⟩] none [])
                            (.cond (.tmp 75 true) [1, 3, 5, 7, 11, 45]
                              (.seq
                                (.region [
                                  ⟨some 77, .loadF 4 true 3 false, [.tmp 9 false], none⟩,
                                  ⟨some 78, .loadF 3 true 3 false, [.tmp 8 true], none⟩,
                                  ⟨some 79, .eqv (.flat [.int, .int, .int]) true, [.tmp 77 true, .tmp 78 true], none⟩,
                                  ⟨some 80, .move, [.tmp 79 true], none⟩,
                                  ⟨some 81, .loadF 4 true 3 false, [.tmp 9 true], some (80, true)⟩,
                                  ⟨some 82, .loadF 5 true 3 false, [.tmp 10 true], some (80, true)⟩,
                                  ⟨some 83, .eqv (.flat [.int, .int, .int]) false, [.tmp 81 true, .tmp 82 true], some (80, true)⟩,
                                  ⟨some 84, .pick, [.tmp 80 true, .tmp 83 true, .const (.bool false)], none⟩,
                                  ⟨some 6, .move, [.tmp 84 true], none⟩] none [9, 10, 81, 82])
                                .ret) []
                              (.seq
                                (.region [
                                  ⟨some 86, .bin .eql, [.tmp 45 false, .const (.int .i64 4)], none⟩,
                                  ⟨some 85, .move, [.tmp 86 true], none⟩] none [])
                                (.cond (.tmp 85 true) [1, 3, 7, 8, 45]
                                  (.seq
                                    (.region [
                                      ⟨some 87, .fieldAddr 4, [.tmp 5 true], none⟩,
                                      ⟨some 88, .loadF 1 false 1 false, [.tmp 87 true], none⟩,
                                      ⟨some 89, .loadF 4 true 3 false, [.tmp 9 true], none⟩,
                                      ⟨some 90, .loadF 5 true 3 false, [.tmp 10 true], none⟩,
                                      ⟨some 91, .loadF 6 true 3 false, [.tmp 11 true], none⟩,
                                      ⟨some 92, .call 29, [.tmp 88 true, .tmp 89 true, .tmp 90 true, .tmp 91 true], none⟩,
                                      ⟨some 6, .move, [.tmp 92 true], none⟩] none [])
                                    .ret) []
                                  (.seq
                                    (.region [
                                      ⟨some 94, .bin .eql, [.tmp 45 false, .const (.int .i64 5)], none⟩,
                                      ⟨some 93, .move, [.tmp 94 true], none⟩] none [])
                                    (.cond (.tmp 93 true) [1, 3, 7, 8, 11, 45]
                                      (.seq
                                        (.region [
                                          ⟨some 95, .fieldAddr 4, [.tmp 5 false], none⟩,
                                          ⟨some 96, .loadF 1 false 1 false, [.tmp 95 true], none⟩,
                                          ⟨some 97, .bin .eql, [.tmp 96 true, .const (.int .i64 12)], none⟩,
                                          ⟨some 98, .move, [.tmp 97 true], none⟩,
                                          ⟨some 99, .loadF 4 true 3 false, [.tmp 9 false], some (98, true)⟩,
                                          ⟨some 100, .call 27, [], some (98, true)⟩,
                                          ⟨some 101, .eqv (.flat [.int, .int, .int]) false, [.tmp 99 true, .tmp 100 true], some (98, true)⟩,
                                          ⟨some 102, .pick, [.tmp 98 false, .tmp 101 true, .const (.bool false)], none⟩,
                                          ⟨some 103, .move, [.tmp 102 true], none⟩,
                                          ⟨some 104, .loadF 5 true 3 false, [.tmp 10 false], some (103, true)⟩,
                                          ⟨some 105, .call 27, [], some (103, true)⟩,
                                          ⟨some 106, .eqv (.flat [.int, .int, .int]) false, [.tmp 104 true, .tmp 105 true], some (103, true)⟩,
                                          ⟨some 107, .pick, [.tmp 103 false, .tmp 106 true, .const (.bool false)], none⟩,
                                          ⟨some 108, .move, [.tmp 107 true], none⟩,
                                          ⟨some 109, .fieldAddr 4, [.tmp 5 false], some (108, false)⟩,
                                          ⟨some 110, .loadF 1 false 1 false, [.tmp 109 true], some (108, false)⟩,
                                          ⟨some 111, .bin .eql, [.tmp 110 true, .const (.int .i64 13)], some (108, false)⟩,
                                          ⟨some 112, .move, [.tmp 111 true], some (108, false)⟩,
                                          ⟨some 113, .loadF 4 true 3 false, [.tmp 9 false], some (112, true)⟩,
                                          ⟨some 114, .call 28, [], some (112, true)⟩,
                                          ⟨some 115, .eqv (.flat [.int, .int, .int]) false, [.tmp 113 true, .tmp 114 true], some (112, true)⟩,
                                          ⟨some 116, .pick, [.tmp 112 false, .tmp 115 true, .const (.bool false)], some (108, false)⟩,
                                          ⟨some 117, .move, [.tmp 116 true], some (108, false)⟩,
                                          ⟨some 118, .loadF 5 true 3 false, [.tmp 10 false], some (117, true)⟩,
                                          ⟨some 119, .call 28, [], some (117, true)⟩,
                                          ⟨some 120, .eqv (.flat [.int, .int, .int]) false, [.tmp 118 true, .tmp 119 true], some (117, true)⟩,
                                          ⟨some 121, .pick, [.tmp 117 false, .tmp 120 true, .const (.bool false)], some (108, false)⟩,
                                          ⟨some 122, .pick, [.tmp 108 false, .const (.bool true), .tmp 121 true], none⟩,
                                          ⟨some 6, .move, [.tmp 122 true], none⟩] (some []) [5, 9, 10, 98, 99, 100, 103, 104, 105, 108, 109, 110, 111, 112, 113, 114, 115, 116, 117, 118, 119, 120])
                                        .ret) []
                                      (.seq
                                        (.region [
                                          ⟨some 124, .bin .eql, [.tmp 45 false, .const (.int .i64 6)], none⟩,
                                          ⟨some 123, .move, [.tmp 124 true], none⟩] none [])
                                        (.cond (.tmp 123 true) [1, 7, 11, 45]
                                          (.seq
                                            (.region [
                                              ⟨some 125, .loadF 4 true 3 false, [.tmp 9 false], none⟩,
                                              ⟨some 126, .loadF 3 true 3 false, [.tmp 8 true], none⟩,
                                              ⟨some 127, .eqv (.flat [.int, .int, .int]) true, [.tmp 125 true, .tmp 126 true], none⟩,
                                              ⟨some 128, .move, [.tmp 127 true], none⟩,
                                              ⟨some 129, .loadF 4 true 3 false, [.tmp 9 false], some (128, true)⟩,
                                              ⟨some 130, .loadF 0 true 5 false, [.tmp 3 true], some (128, true)⟩,
                                              ⟨some 131, .loadF 5 true 3 false, [.tmp 10 true], some (128, true)⟩,
                                              ⟨some 132, .fieldAddr 3, [.tmp 5 true], some (128, true)⟩,
                                              ⟨some 133, .loadF 1 false 1 false, [.tmp 132 true], some (128, true)⟩,
                                              ⟨some 134, .call 30, [.tmp 130 true, .tmp 131 true, .tmp 133 true], some (128, true)⟩,
                                              ⟨some 135, .eqv (.flat [.int, .int, .int]) false, [.tmp 129 true, .tmp 134 true], some (128, true)⟩,
                                              ⟨some 136, .pick, [.tmp 128 false, .tmp 135 true, .const (.bool false)], none⟩,
                                              ⟨some 6, .move, [.tmp 136 true], none⟩] (some []) [3, 5, 9, 10, 128, 129, 130, 131, 132, 133, 134])
                                            .ret) []
                                          (.seq
                                            (.region [
                                              ⟨some 138, .bin .eql, [.tmp 45 false, .const (.int .i64 7)], none⟩,
                                              ⟨some 137, .move, [.tmp 138 true], none⟩] none [])
                                            (.cond (.tmp 137 true) [1, 7, 11, 45]
                                              (.seq
                                                (.region [
                                                  ⟨some 139, .loadF 5 true 3 false, [.tmp 10 false], none⟩,
                                                  ⟨some 140, .loadF 3 true 3 false, [.tmp 8 true], none⟩,
                                                  ⟨some 141, .eqv (.flat [.int, .int, .int]) true, [.tmp 139 true, .tmp 140 true], none⟩,
                                                  ⟨some 142, .move, [.tmp 141 true], none⟩,
                                                  ⟨some 143, .loadF 5 true 3 false, [.tmp 10 false], some (142, true)⟩,
                                                  ⟨some 144, .loadF 0 true 5 false, [.tmp 3 true], some (142, true)⟩,
                                                  ⟨some 145, .loadF 4 true 3 false, [.tmp 9 true], some (142, true)⟩,
                                                  ⟨some 146, .fieldAddr 3, [.tmp 5 true], some (142, true)⟩,
                                                  ⟨some 147, .loadF 1 false 1 false, [.tmp 146 true], some (142, true)⟩,
                                                  ⟨some 148, .call 30, [.tmp 144 true, .tmp 145 true, .tmp 147 true], some (142, true)⟩,
                                                  ⟨some 149, .eqv (.flat [.int, .int, .int]) false, [.tmp 143 true, .tmp 148 true], some (142, true)⟩,
                                                  ⟨some 150, .pick, [.tmp 142 false, .tmp 149 true, .const (.bool false)], none⟩,
                                                  ⟨some 6, .move, [.tmp 150 true], none⟩] (some []) [3, 5, 9, 10, 142, 143, 144, 145, 146, 147, 148])
                                                .ret) []
                                              (.seq
                                                (.region [
                                                  ⟨some 152, .bin .eql, [.tmp 45 false, .const (.int .i64 8)], none⟩,
                                                  ⟨some 151, .move, [.tmp 152 true], none⟩] none [])
                                                (.cond (.tmp 151 true) [1, 3, 5, 7, 45]
                                                  (.seq
                                                    (.region [
                                                      ⟨some 153, .loadF 4 true 3 false, [.tmp 9 false], none⟩,
                                                      ⟨some 154, .loadF 3 true 3 false, [.tmp 8 true], none⟩,
                                                      ⟨some 155, .eqv (.flat [.int, .int, .int]) true, [.tmp 153 true, .tmp 154 true], none⟩,
                                                      ⟨some 156, .move, [.tmp 155 true], none⟩,
                                                      ⟨some 157, .fieldAddr 2, [.tmp 10 false], some (156, true)⟩,
                                                      ⟨some 158, .loadF 5 false 1 false, [.tmp 157 true], some (156, true)⟩,
                                                      ⟨some 159, .bin .gtr, [.tmp 158 true, .const (.int .i64 0)], some (156, true)⟩,
                                                      ⟨some 160, .pick, [.tmp 156 false, .tmp 159 true, .const (.bool false)], none⟩,
                                                      ⟨some 161, .move, [.tmp 160 true], none⟩,
                                                      ⟨some 162, .loadF 6 true 3 false, [.tmp 11 true], some (161, true)⟩,
                                                      ⟨some 163, .call 27, [], some (161, true)⟩,
                                                      ⟨some 164, .eqv (.flat [.int, .int, .int]) false, [.tmp 162 true, .tmp 163 true], some (161, true)⟩,
                                                      ⟨some 165, .pick, [.tmp 161 false, .tmp 164 true, .const (.bool false)], none⟩,
                                                      ⟨some 166, .move, [.tmp 165 true], none⟩,
                                                      ⟨some 167, .loadF 4 true 3 false, [.tmp 9 false], some (166, true)⟩,
                                                      ⟨some 168, .loadF 5 true 3 false, [.tmp 10 false], some (166, true)⟩,
                                                      ⟨some 169, .call 31, [.tmp 168 true], some (166, true)⟩,
                                                      ⟨some 170, .eqv (.flat [.int, .int, .int]) false, [.tmp 167 true, .tmp 169 true], some (166, true)⟩,
                                                      ⟨some 171, .pick, [.tmp 166 false, .tmp 170 true, .const (.bool false)], none⟩,
                                                      ⟨some 6, .move, [.tmp 171 true], none⟩] (some []) [9, 10, 11, 156, 157, 158, 161, 162, 163, 166, 167, 168, 169])
                                                    .ret) []
                                                  (.seq
                                                    (.region [
                                                      ⟨some 173, .bin .eql, [.tmp 45 false, .const (.int .i64 9)], none⟩,
                                                      ⟨some 172, .move, [.tmp 173 true], none⟩] none [])
                                                    (.cond (.tmp 172 true) [1, 3, 5, 7, 45]
                                                      (.seq
                                                        (.region [
                                                          ⟨some 174, .loadF 6 true 3 false, [.tmp 11 false], none⟩,
                                                          ⟨some 175, .loadF 3 true 3 false, [.tmp 8 true], none⟩,
                                                          ⟨some 176, .eqv (.flat [.int, .int, .int]) true, [.tmp 174 true, .tmp 175 true], none⟩,
                                                          ⟨some 177, .move, [.tmp 176 true], none⟩,
                                                          ⟨some 178, .fieldAddr 2, [.tmp 9 false], some (177, true)⟩,
                                                          ⟨some 179, .loadF 4 false 1 false, [.tmp 178 true], some (177, true)⟩,
                                                          ⟨some 180, .bin .gtr, [.tmp 179 true, .const (.int .i64 0)], some (177, true)⟩,
                                                          ⟨some 181, .pick, [.tmp 177 false, .tmp 180 true, .const (.bool false)], none⟩,
                                                          ⟨some 182, .move, [.tmp 181 true], none⟩,
                                                          ⟨some 183, .loadF 5 true 3 false, [.tmp 10 true], some (182, true)⟩,
                                                          ⟨some 184, .call 27, [], some (182, true)⟩,
                                                          ⟨some 185, .eqv (.flat [.int, .int, .int]) false, [.tmp 183 true, .tmp 184 true], some (182, true)⟩,
                                                          ⟨some 186, .pick, [.tmp 182 false, .tmp 185 true, .const (.bool false)], none⟩,
                                                          ⟨some 187, .move, [.tmp 186 true], none⟩,
                                                          ⟨some 188, .loadF 6 true 3 false, [.tmp 11 false], some (187, true)⟩,
                                                          ⟨some 189, .loadF 4 true 3 false, [.tmp 9 false], some (187, true)⟩,
                                                          ⟨some 190, .call 31, [.tmp 189 true], some (187, true)⟩,
                                                          ⟨some 191, .eqv (.flat [.int, .int, .int]) false, [.tmp 188 true, .tmp 190 true], some (187, true)⟩,
                                                          ⟨some 192, .pick, [.tmp 187 false, .tmp 191 true, .const (.bool false)], none⟩,
                                                          ⟨some 6, .move, [.tmp 192 true], none⟩] (some []) [9, 10, 11, 177, 178, 179, 182, 183, 184, 187, 188, 189, 190])
                                                        .ret) [11]
                                                      (.seq
                                                        (.region [
                                                          ⟨some 194, .bin .eql, [.tmp 45 false, .const (.int .i64 10)], none⟩,
                                                          ⟨some 193, .move, [.tmp 194 true], none⟩] none [])
                                                        (.cond (.tmp 193 true) [1, 3, 5, 7, 8, 45]
                                                          (.seq
                                                            (.region [
                                                              ⟨some 195, .loadF 4 true 3 false, [.tmp 9 true], none⟩,
                                                              ⟨some 196, .call 27, [], none⟩,
                                                              ⟨some 197, .eqv (.flat [.int, .int, .int]) false, [.tmp 195 true, .tmp 196 true], none⟩,
                                                              ⟨some 198, .move, [.tmp 197 true], none⟩,
                                                              ⟨some 199, .fieldAddr 2, [.tmp 10 true], some (198, true)⟩,
                                                              ⟨some 200, .loadF 5 false 1 false, [.tmp 199 true], some (198, true)⟩,
                                                              ⟨some 201, .bin .gtr, [.tmp 200 true, .const (.int .i64 0)], some (198, true)⟩,
                                                              ⟨some 202, .pick, [.tmp 198 false, .tmp 201 true, .const (.bool false)], none⟩,
                                                              ⟨some 6, .move, [.tmp 202 true], none⟩] (some []) [10, 198, 199, 200])
                                                            .ret) []
                                                          (.seq
                                                            (.region [
                                                              ⟨some 204, .bin .eql, [.tmp 45 false, .const (.int .i64 11)], none⟩,
                                                              ⟨some 203, .move, [.tmp 204 true], none⟩] none [])
                                                            (.cond (.tmp 203 true) [7, 10, 45]
                                                              (.seq
                                                                (.region [
                                                                  ⟨some 205, .loadF 4 true 3 false, [.tmp 9 false], none⟩,
                                                                  ⟨some 206, .loadF 3 true 3 false, [.tmp 8 true], none⟩,
                                                                  ⟨some 207, .eqv (.flat [.int, .int, .int]) true, [.tmp 205 true, .tmp 206 true], none⟩,
                                                                  ⟨some 208, .move, [.tmp 207 true], none⟩,
                                                                  ⟨some 209, .fieldAddr 0, [.tmp 9 false], some (208, true)⟩,
                                                                  ⟨some 210, .loadF 4 false 1 false, [.tmp 209 true], some (208, true)⟩,
                                                                  ⟨some 211, .bin .eql, [.tmp 210 true, .const (.int .i64 3)], some (208, true)⟩,
                                                                  ⟨some 212, .pick, [.tmp 208 true, .tmp 211 true, .const (.bool false)], none⟩,
                                                                  ⟨some 213, .move, [.tmp 212 true], none⟩,
                                                                  ⟨some 214, .fieldAddr 2, [.tmp 9 false], some (213, true)⟩,
                                                                  ⟨some 215, .loadF 4 false 1 false, [.tmp 214 true], some (213, true)⟩,
                                                                  ⟨some 216, .bin .eql, [.tmp 215 true, .const (.int .i64 0)], some (213, true)⟩,
                                                                  ⟨some 217, .pick, [.tmp 213 true, .tmp 216 true, .const (.bool false)], none⟩,
                                                                  ⟨some 218, .move, [.tmp 217 true], none⟩,
                                                                  ⟨some 219, .loadF 0 true 5 false, [.tmp 3 true], some (218, true)⟩,
                                                                  ⟨some 220, .move, [.tmp 1 true], some (218, true)⟩,
                                                                  ⟨some 221, .fieldAddr 4, [.tmp 5 true], some (218, true)⟩,
                                                                  ⟨some 222, .loadF 1 false 1 false, [.tmp 221 true], some (218, true)⟩,
                                                                  ⟨some 223, .loadF 4 true 3 false, [.tmp 9 true], some (218, true)⟩,
                                                                  ⟨some 224, .call 32, [.tmp 219 true, .tmp 220 true, .tmp 222 true, .tmp 223 true], some (218, true)⟩,
                                                                  ⟨some 225, .pick, [.tmp 218 true, .tmp 224 true, .const (.bool false)], none⟩,
                                                                  ⟨some 6, .move, [.tmp 225 true], none⟩] none [1, 3, 5, 9, 209, 210, 214, 215, 219, 220, 221, 222, 223])
                                                                .ret) []
                                                              (.seq
                                                                (.region [
                                                                  ⟨some 227, .bin .eql, [.tmp 45 false, .const (.int .i64 12)], none⟩,
                                                                  ⟨some 226, .move, [.tmp 227 true], none⟩] none [])
                                                                (.cond (.tmp 226 true) [7, 8, 45]
                                                                  (.seq
                                                                    (.region [
                                                                      ⟨some 228, .fieldAddr 2, [.tmp 9 false], none⟩,
                                                                      ⟨some 229, .loadF 4 false 1 false, [.tmp 228 true], none⟩,
                                                                      ⟨some 230, .bin .gtr, [.tmp 229 true, .const (.int .i64 0)], none⟩,
                                                                      ⟨some 231, .move, [.tmp 230 true], none⟩,
                                                                      ⟨some 232, .loadF 5 true 3 false, [.tmp 10 true], some (231, true)⟩,
                                                                      ⟨some 233, .call 27, [], some (231, true)⟩,
                                                                      ⟨some 234, .eqv (.flat [.int, .int, .int]) false, [.tmp 232 true, .tmp 233 true], some (231, true)⟩,
                                                                      ⟨some 235, .pick, [.tmp 231 false, .tmp 234 true, .const (.bool false)], none⟩,
                                                                      ⟨some 236, .move, [.tmp 235 true], none⟩,
                                                                      ⟨some 237, .loadF 0 true 5 false, [.tmp 3 true], some (236, true)⟩,
                                                                      ⟨some 238, .move, [.tmp 1 true], some (236, true)⟩,
                                                                      ⟨some 239, .fieldAddr 4, [.tmp 5 true], some (236, true)⟩,
                                                                      ⟨some 240, .loadF 1 false 1 false, [.tmp 239 true], some (236, true)⟩,
                                                                      ⟨some 241, .loadF 4 true 3 false, [.tmp 9 false], some (236, true)⟩,
                                                                      ⟨some 242, .call 32, [.tmp 237 true, .tmp 238 true, .tmp 240 true, .tmp 241 true], some (236, true)⟩,
                                                                      ⟨some 243, .pick, [.tmp 236 false, .tmp 242 true, .const (.bool false)], none⟩,
                                                                      ⟨some 6, .move, [.tmp 243 true], none⟩] (some []) [1, 3, 5, 9, 10, 231, 232, 233, 236, 237, 238, 239, 240, 241])
                                                                    .ret) [1, 10]
                                                                  (.seq
                                                                    (.region [
                                                                      ⟨some 245, .bin .eql, [.tmp 45 false, .const (.int .i64 13)], none⟩,
                                                                      ⟨some 244, .move, [.tmp 245 true], none⟩] none [])
                                                                    (.cond (.tmp 244 true) [8, 9, 45]
                                                                      (.seq
                                                                        (.region [
                                                                          ⟨some 246, .loadF 0 true 5 false, [.tmp 3 true], none⟩,
                                                                          ⟨some 247, .loadF 2 true 7 false, [.tmp 7 true], none⟩,
                                                                          ⟨some 248, .loadF 1 true 6 false, [.tmp 5 true], none⟩,
                                                                          ⟨some 249, .call 33, [.tmp 246 true, .tmp 247 true, .tmp 248 true], none⟩,
                                                                          ⟨some 6, .move, [.tmp 249 true], none⟩] none [])
                                                                        .ret) []
                                                                      (.seq
                                                                        (.seq
                                                                          (.region [
                                                                            ⟨some 251, .bin .eql, [.tmp 45 false, .const (.int .i64 14)], none⟩,
                                                                            ⟨some 250, .move, [.tmp 251 true], none⟩] none [])
                                                                          (.cond (.tmp 250 false) []
                                                                            .skip [250]
                                                                            (.region [
                                                                              ⟨some 252, .bin .eql, [.tmp 45 false, .const (.int .i64 15)], none⟩,
                                                                              ⟨some 250, .move, [.tmp 252 true], none⟩] none [])))
                                                                        (.cond (.tmp 250 true) [3, 5, 7, 8, 45]
                                                                          (.seq
                                                                            (.region [
                                                                              ⟨some 253, .loadF 4 true 3 false, [.tmp 9 true], none⟩,
                                                                              ⟨some 254, .call 27, [], none⟩,
                                                                              ⟨some 255, .eqv (.flat [.int, .int, .int]) false, [.tmp 253 true, .tmp 254 true], none⟩,
                                                                              ⟨some 6, .move, [.tmp 255 true], none⟩] (some []) [])
                                                                            .ret) []
                                                                          (.seq
                                                                            (.region [
                                                                              ⟨some 257, .bin .eql, [.tmp 45 false, .const (.int .i64 16)], none⟩,
                                                                              ⟨some 256, .move, [.tmp 257 true], none⟩] none [])
                                                                            (.cond (.tmp 256 true) [3, 8, 9, 45]
                                                                              (.seq
                                                                                (.region [
                                                                                  ⟨some 258, .fieldAddr 4, [.tmp 5 false], none⟩,
                                                                                  ⟨some 259, .loadF 1 false 1 false, [.tmp 258 true], none⟩,
                                                                                  ⟨some 260, .bin .geq, [.tmp 259 true, .const (.int .i64 0)], none⟩,
                                                                                  ⟨some 261, .move, [.tmp 260 true], none⟩,
                                                                                  ⟨some 262, .fieldAddr 4, [.tmp 5 true], some (261, true)⟩,
                                                                                  ⟨some 263, .loadF 1 false 1 false, [.tmp 262 true], some (261, true)⟩,
                                                                                  ⟨some 264, .fieldAddr 6, [.tmp 7 true], some (261, true)⟩,
                                                                                  ⟨some 265, .loadF 2 false 1 false, [.tmp 264 true], some (261, true)⟩,
                                                                                  ⟨some 266, .len .sl, [.tmp 265 true], some (261, true)⟩,
                                                                                  ⟨some 267, .bin .lss, [.tmp 263 true, .tmp 266 true], some (261, true)⟩,
                                                                                  ⟨some 268, .pick, [.tmp 261 true, .tmp 267 true, .const (.bool false)], none⟩,
                                                                                  ⟨some 6, .move, [.tmp 268 true], none⟩] none [5, 7, 262, 263, 264, 265, 266])
                                                                                .ret) []
                                                                              (.seq
                                                                                (.region [
                                                                                  ⟨some 270, .bin .eql, [.tmp 45 false, .const (.int .i64 17)], none⟩,
                                                                                  ⟨some 269, .move, [.tmp 270 true], none⟩] none [])
                                                                                (.cond (.tmp 269 true) [3, 8, 45]
                                                                                  (.seq
                                                                                    (.region [
                                                                                      ⟨some 271, .loadF 4 true 3 false, [.tmp 9 true], none⟩,
                                                                                      ⟨some 272, .call 28, [], none⟩,
                                                                                      ⟨some 273, .eqv (.flat [.int, .int, .int]) false, [.tmp 271 true, .tmp 272 true], none⟩,
                                                                                      ⟨some 274, .move, [.tmp 273 true], none⟩,
                                                                                      ⟨some 275, .fieldAddr 4, [.tmp 5 false], some (274, true)⟩,
                                                                                      ⟨some 276, .loadF 1 false 1 false, [.tmp 275 true], some (274, true)⟩,
                                                                                      ⟨some 277, .bin .geq, [.tmp 276 true, .const (.int .i64 0)], some (274, true)⟩,
                                                                                      ⟨some 278, .pick, [.tmp 274 false, .tmp 277 true, .const (.bool false)], none⟩,
                                                                                      ⟨some 279, .move, [.tmp 278 true], none⟩,
                                                                                      ⟨some 280, .fieldAddr 4, [.tmp 5 false], some (279, true)⟩,
                                                                                      ⟨some 281, .loadF 1 false 1 false, [.tmp 280 true], some (279, true)⟩,
                                                                                      ⟨some 282, .fieldAddr 6, [.tmp 7 false], some (279, true)⟩,
                                                                                      ⟨some 283, .loadF 2 false 1 false, [.tmp 282 true], some (279, true)⟩,
                                                                                      ⟨some 284, .len .sl, [.tmp 283 true], some (279, true)⟩,
                                                                                      ⟨some 285, .bin .lss, [.tmp 281 true, .tmp 284 true], some (279, true)⟩,
                                                                                      ⟨some 286, .pick, [.tmp 279 false, .tmp 285 true, .const (.bool false)], none⟩,
                                                                                      ⟨some 287, .move, [.tmp 286 true], none⟩,
                                                                                      ⟨some 288, .fieldAddr 3, [.tmp 5 false], some (287, true)⟩,
                                                                                      ⟨some 289, .loadF 1 false 1 false, [.tmp 288 true], some (287, true)⟩,
                                                                                      ⟨some 290, .bin .geq, [.tmp 289 true, .const (.int .i64 0)], some (287, true)⟩,
                                                                                      ⟨some 291, .pick, [.tmp 287 false, .tmp 290 true, .const (.bool false)], none⟩,
                                                                                      ⟨some 292, .move, [.tmp 291 true], none⟩,
                                                                                      ⟨some 293, .fieldAddr 3, [.tmp 5 false], some (292, true)⟩,
                                                                                      ⟨some 294, .loadF 1 false 1 false, [.tmp 293 true], some (292, true)⟩,
                                                                                      ⟨some 295, .fieldAddr 6, [.tmp 7 false], some (292, true)⟩,
                                                                                      ⟨some 296, .loadF 2 false 1 false, [.tmp 295 true], some (292, true)⟩,
                                                                                      ⟨some 297, .len .sl, [.tmp 296 true], some (292, true)⟩,
                                                                                      ⟨some 298, .bin .lss, [.tmp 294 true, .tmp 297 true], some (292, true)⟩,
                                                                                      ⟨some 299, .pick, [.tmp 292 false, .tmp 298 true, .const (.bool false)], none⟩,
                                                                                      ⟨some 6, .move, [.tmp 299 true], none⟩] (some []) [5, 7, 274, 275, 276, 279, 280, 281, 282, 283, 284, 287, 288, 289, 292, 293, 294, 295, 296, 297])
                                                                                    .ret) []
                                                                                  (.seq
                                                                                    (.region [
                                                                                      ⟨some 301, .bin .eql, [.tmp 45 false, .const (.int .i64 18)], none⟩,
                                                                                      ⟨some 300, .move, [.tmp 301 true], none⟩] none [])
                                                                                    (.cond (.tmp 300 true) [3, 45]
                                                                                      (.seq
                                                                                        (.seq
                                                                                          (.region [
                                                                                            ⟨some 302, .fieldAddr 2, [.tmp 7 false], none⟩,
                                                                                            ⟨some 303, .loadF 2 false 1 false, [.tmp 302 true], none⟩,
                                                                                            ⟨some 304, .un .not, [.tmp 303 true], none⟩] none [])
                                                                                          (.cond (.tmp 304 true) [7, 8, 9]
                                                                                            (.seq
                                                                                              (.region [
                                                                                                ⟨some 305, .fieldAddr 1, [.tmp 5 true], none⟩,
                                                                                                ⟨some 306, .loadF 1 false 1 false, [.tmp 305 true], none⟩,
                                                                                                ⟨some 307, .bin .eql, [.tmp 306 true, .const (.int .i64 (-1))], none⟩,
                                                                                                ⟨some 6, .move, [.tmp 307 true], none⟩] none [])
                                                                                              .ret) [5]
                                                                                            .skip))
                                                                                        (.seq
                                                                                          (.region [
                                                                                            ⟨some 308, .loadF 4 true 3 false, [.tmp 9 false], none⟩,
                                                                                            ⟨some 309, .loadF 3 true 3 false, [.tmp 8 true], none⟩,
                                                                                            ⟨some 310, .eqv (.flat [.int, .int, .int]) true, [.tmp 308 true, .tmp 309 true], none⟩,
                                                                                            ⟨some 311, .move, [.tmp 310 true], none⟩,
                                                                                            ⟨some 312, .loadF 4 true 3 false, [.tmp 9 true], some (311, true)⟩,
                                                                                            ⟨some 313, .fieldAddr 3, [.tmp 7 true], some (311, true)⟩,
                                                                                            ⟨some 314, .loadF 2 true 3 false, [.tmp 313 true], some (311, true)⟩,
                                                                                            ⟨some 315, .eqv (.flat [.int, .int, .int]) false, [.tmp 312 true, .tmp 314 true], some (311, true)⟩,
                                                                                            ⟨some 316, .pick, [.tmp 311 true, .tmp 315 true, .const (.bool false)], none⟩,
                                                                                            ⟨some 6, .move, [.tmp 316 true], none⟩] none [7, 9, 312, 313, 314])
                                                                                          .ret)) [7]
                                                                                      (.seq
                                                                                        (.seq
                                                                                          (.region [
                                                                                            ⟨some 318, .bin .eql, [.tmp 45 false, .const (.int .i64 19)], none⟩,
                                                                                            ⟨some 317, .move, [.tmp 318 true], none⟩] none [])
                                                                                          (.cond (.tmp 317 false) [45]
                                                                                            .skip [317]
                                                                                            (.region [
                                                                                              ⟨some 319, .bin .eql, [.tmp 45 true, .const (.int .i64 20)], none⟩,
                                                                                              ⟨some 317, .move, [.tmp 319 true], none⟩] none [])))
                                                                                        (.cond (.tmp 317 true) []
                                                                                          (.seq
                                                                                            (.region [
                                                                                              ⟨some 320, .loadF 4 true 3 false, [.tmp 9 false], none⟩,
                                                                                              ⟨some 321, .loadF 3 true 3 false, [.tmp 8 true], none⟩,
                                                                                              ⟨some 322, .eqv (.flat [.int, .int, .int]) true, [.tmp 320 true, .tmp 321 true], none⟩,
                                                                                              ⟨some 323, .move, [.tmp 322 true], none⟩,
                                                                                              ⟨some 324, .fieldAddr 4, [.tmp 5 false], some (323, true)⟩,
                                                                                              ⟨some 325, .loadF 1 false 1 false, [.tmp 324 true], some (323, true)⟩,
                                                                                              ⟨some 326, .bin .geq, [.tmp 325 true, .const (.int .i64 0)], some (323, true)⟩,
                                                                                              ⟨some 327, .pick, [.tmp 323 false, .tmp 326 true, .const (.bool false)], none⟩,
                                                                                              ⟨some 328, .move, [.tmp 327 true], none⟩,
                                                                                              ⟨some 329, .fieldAddr 4, [.tmp 5 false], some (328, true)⟩,
                                                                                              ⟨some 330, .loadF 1 false 1 false, [.tmp 329 true], some (328, true)⟩,
                                                                                              ⟨some 331, .fieldAddr 1, [.tmp 3 false], some (328, true)⟩,
                                                                                              ⟨some 332, .loadF 0 false 1 false, [.tmp 331 true], some (328, true)⟩,
                                                                                              ⟨some 333, .len .sl, [.tmp 332 true], some (328, true)⟩,
                                                                                              ⟨some 334, .bin .lss, [.tmp 330 true, .tmp 333 true], some (328, true)⟩,
                                                                                              ⟨some 335, .pick, [.tmp 328 false, .tmp 334 true, .const (.bool false)], none⟩,
                                                                                              ⟨some 336, .move, [.tmp 335 true], none⟩,
                                                                                              ⟨some 337, .loadF 4 true 3 false, [.tmp 9 false], some (336, true)⟩,
                                                                                              ⟨some 338, .fieldAddr 1, [.tmp 3 false], some (336, true)⟩,
                                                                                              ⟨some 339, .loadF 0 false 1 false, [.tmp 338 true], some (336, true)⟩,
                                                                                              ⟨some 340, .fieldAddr 4, [.tmp 5 false], some (336, true)⟩,
                                                                                              ⟨some 341, .loadF 1 false 1 false, [.tmp 340 true], some (336, true)⟩,
                                                                                              ⟨some 342, .indexAddr 3, [.tmp 339 true, .tmp 341 true], some (336, true)⟩,
                                                                                              ⟨some 343, .load true 3 false, [.tmp 342 true], some (336, true)⟩,
                                                                                              ⟨some 344, .eqv (.flat [.int, .int, .int]) false, [.tmp 337 true, .tmp 343 true], some (336, true)⟩,
                                                                                              ⟨some 345, .pick, [.tmp 336 false, .tmp 344 true, .const (.bool false)], none⟩,
                                                                                              ⟨some 6, .move, [.tmp 345 true], none⟩] (some []) [3, 5, 9, 323, 324, 325, 328, 329, 330, 331, 332, 333, 336, 337, 338, 339, 340, 341, 342, 343])
                                                                                            .ret) [3, 5, 8, 9]
                                                                                          .skip))))))))))))))))))))))))))))))))))))))
              (.seq
                (.region [
                  ⟨some 6, .move, [.const (.bool false)], none⟩] none [])
                .ret))))))) }

/-- runrig/runrigref7.Ref -/

def s14 : SFunc := { fid := 14, mode := .pure, nparams := 1, nboxes := 1, clr := [], results := [.tmp 2 false], body :=
  (.seq
    (.region [
      ⟨some 1, .boxF 0 3, [.tmp 0 true], none⟩,
      ⟨some 2, .move, [.const (.bool false)], none⟩] none [2])
    (.seq
      (.region [
        ⟨some 3, .fieldAddr 0, [.tmp 1 false], none⟩,
        ⟨some 4, .loadF 0 false 1 false, [.tmp 3 true], none⟩,
        ⟨some 5, .bin .eql, [.tmp 4 true, .const (.int .i64 3)], none⟩,
        ⟨some 6, .move, [.tmp 5 true], none⟩,
        ⟨some 7, .fieldAddr 2, [.tmp 1 true], some (6, false)⟩,
        ⟨some 8, .loadF 0 false 1 false, [.tmp 7 true], some (6, false)⟩,
        ⟨some 9, .bin .gtr, [.tmp 8 true, .const (.int .i64 0)], some (6, false)⟩,
        ⟨some 10, .pick, [.tmp 6 true, .const (.bool true), .tmp 9 true], none⟩,
        ⟨some 2, .move, [.tmp 10 true], none⟩] none [1, 7, 8])
      .ret)) }

/-- runrig/ir.Cells -/
def s15_l0 : SCode :=
  (.seq
    (.region [
      ⟨some 47, .bin .lss, [.tmp 46 false, .tmp 45 false], none⟩] none [])
    (.seq
      (.cond (.tmp 47 true) []
        .skip [44, 45, 46]
        (.exit 0))
      (.seq
        (.block 1
          (.seq
            (.region [
              ⟨some 48, .indexAddr 4, [.tmp 44 false, .tmp 46 false], none⟩,
              ⟨some 49, .load true 4 false, [.tmp 48 true], none⟩,
              ⟨some 8, .allocF 2 [.str [], .int .i64 0, .int .i64 0, .int .i64 0], [], none⟩,
              ⟨none, .storeF 2 4, [.tmp 8 false, .tmp 49 true], none⟩] none [])
            (.region [
              ⟨some 50, .move, [.tmp 6 true], none⟩,
              ⟨some 51, .fieldAddr 1, [.tmp 8 true], none⟩,
              ⟨some 52, .loadF 2 true 3 false, [.tmp 51 true], none⟩,
              ⟨some 53, .lit 3 1 [.int .i64 0, .int .i64 0, .int .i64 0] [0], [.tmp 52 true], none⟩,
              ⟨some 54, .append 3 24, [.tmp 50 true, .tmp 53 true], none⟩,
              ⟨some 6, .move, [.tmp 54 true], none⟩] none [])))
        (.region [
          ⟨some 55, .bin .add, [.tmp 46 true, .const (.int .i64 1)], none⟩,
          ⟨some 46, .move, [.tmp 55 true], none⟩] none []))))
def s15 : SFunc := { fid := 15, mode := .pure, nparams := 2, nboxes := 3, clr := [], results := [.tmp 4 true], body :=
  (.seq
    (.region [
      ⟨some 2, .boxF 0 5, [.tmp 0 true], none⟩,
      ⟨some 4, .move, [.const (.nilSl)], none⟩] none [4])
    (.seq
      (.seq
        (.region [
          ⟨some 9, .loadF 0 true 5 false, [.tmp 2 false], none⟩,
          ⟨some 10, .call 9, [.tmp 9 true], none⟩,
          ⟨some 11, .un .not, [.tmp 10 true], none⟩,
          ⟨some 12, .move, [.tmp 11 true], none⟩,
          ⟨some 13, .move, [.tmp 1 false], some (12, false)⟩,
          ⟨some 14, .bin .lss, [.tmp 13 true, .const (.int .i64 0)], some (12, false)⟩,
          ⟨some 15, .pick, [.tmp 12 true, .const (.bool true), .tmp 14 true], none⟩,
          ⟨some 16, .move, [.tmp 15 true], none⟩,
          ⟨some 17, .move, [.tmp 1 false], some (16, false)⟩,
          ⟨some 18, .fieldAddr 3, [.tmp 2 false], some (16, false)⟩,
          ⟨some 19, .loadF 0 false 1 false, [.tmp 18 true], some (16, false)⟩,
          ⟨some 20, .len .sl, [.tmp 19 true], some (16, false)⟩,
          ⟨some 21, .bin .geq, [.tmp 17 true, .tmp 20 true], some (16, false)⟩,
          ⟨some 22, .pick, [.tmp 16 true, .const (.bool true), .tmp 21 true], none⟩] none [13, 17, 18, 19, 20])
        (.cond (.tmp 22 true) [1, 2]
          (.seq
            (.region [
              ⟨some 4, .move, [.const (.nilSl)], none⟩] none [])
            .ret) []
          .skip))
      (.seq
        (.region [
          ⟨some 23, .fieldAddr 3, [.tmp 2 false], none⟩,
          ⟨some 24, .loadF 0 false 1 false, [.tmp 23 true], none⟩,
          ⟨some 25, .move, [.tmp 1 true], none⟩,
          ⟨some 26, .indexAddr 4, [.tmp 24 true, .tmp 25 true], none⟩,
          ⟨some 27, .fieldAddr 1, [.tmp 26 true], none⟩,
          ⟨some 28, .load true 3 false, [.tmp 27 true], none⟩,
          ⟨some 5, .allocF 1 [.int .i64 0, .int .i64 0, .int .i64 0], [], none⟩,
          ⟨none, .storeF 1 3, [.tmp 5 false, .tmp 28 true], none⟩] none [])
        (.seq
          (.seq
            (.region [
              ⟨some 29, .fieldAddr 2, [.tmp 5 false], none⟩,
              ⟨some 30, .loadF 1 false 1 false, [.tmp 29 true], none⟩,
              ⟨some 31, .bin .gtr, [.tmp 30 true, .const (.int .i64 0)], none⟩] none [])
            (.cond (.tmp 31 true) [2]
              (.seq
                (.region [
                  ⟨some 32, .fieldAddr 2, [.tmp 5 false], none⟩,
                  ⟨some 33, .loadF 1 false 1 false, [.tmp 32 true], none⟩,
                  ⟨some 34, .bin .sub, [.tmp 33 true, .const (.int .i64 1)], none⟩,
                  ⟨some 35, .fieldAddr 2, [.tmp 5 false], none⟩,
                  ⟨none, .storeF 1 1, [.tmp 35 true, .tmp 34 true], none⟩] none [])
                (.seq
                  (.region [
                    ⟨some 36, .loadF 1 true 3 false, [.tmp 5 true], none⟩,
                    ⟨some 37, .lit 3 1 [.int .i64 0, .int .i64 0, .int .i64 0] [0], [.tmp 36 true], none⟩,
                    ⟨some 4, .move, [.tmp 37 true], none⟩] none [])
                  .ret)) []
              .skip))
          (.seq
            (.region [
              ⟨some 6, .move, [.const (.nilSl)], none⟩] none [])
            (.seq
              (.seq
                (.region [
                  ⟨some 38, .fieldAddr 0, [.tmp 2 true], none⟩,
                  ⟨some 39, .loadF 0 false 1 false, [.tmp 38 true], none⟩,
                  ⟨some 40, .fieldAddr 1, [.tmp 5 true], none⟩,
                  ⟨some 41, .loadF 1 false 1 false, [.tmp 40 true], none⟩,
                  ⟨some 42, .indexAddr 2, [.tmp 39 true, .tmp 41 true], none⟩,
                  ⟨some 43, .fieldAddr 1, [.tmp 42 true], none⟩,
                  ⟨some 44, .load false 1 false, [.tmp 43 true], none⟩,
                  ⟨some 45, .len .sl, [.tmp 44 false], none⟩,
                  ⟨some 46, .move, [.const (.int .i64 0)], none⟩] none [])
                (.block 0
                  (.loop s15_l0)))
              (.seq
                (.region [
                  ⟨some 56, .move, [.tmp 6 true], none⟩,
                  ⟨some 4, .move, [.tmp 56 true], none⟩] none [])
                .ret))))))) }

/-- runrig/runrigref12.Cells -/

def s16 : SFunc := { fid := 16, mode := .pure, nparams := 2, nboxes := 1, clr := [], results := [.tmp 4 true], body :=
  (.seq
    (.region [
      ⟨some 2, .boxF 0 5, [.tmp 0 true], none⟩,
      ⟨some 4, .move, [.const (.nilSl)], none⟩] none [4])
    (.seq
      (.seq
        (.region [
          ⟨some 5, .loadF 0 true 5 false, [.tmp 2 false], none⟩,
          ⟨some 6, .call 10, [.tmp 5 true], none⟩,
          ⟨some 7, .un .not, [.tmp 6 true], none⟩,
          ⟨some 8, .move, [.tmp 7 true], none⟩,
          ⟨some 9, .move, [.tmp 1 false], some (8, false)⟩,
          ⟨some 10, .bin .lss, [.tmp 9 true, .const (.int .i64 0)], some (8, false)⟩,
          ⟨some 11, .pick, [.tmp 8 true, .const (.bool true), .tmp 10 true], none⟩,
          ⟨some 12, .move, [.tmp 11 true], none⟩,
          ⟨some 13, .move, [.tmp 1 false], some (12, false)⟩,
          ⟨some 14, .fieldAddr 3, [.tmp 2 false], some (12, false)⟩,
          ⟨some 15, .loadF 0 false 1 false, [.tmp 14 true], some (12, false)⟩,
          ⟨some 16, .len .sl, [.tmp 15 true], some (12, false)⟩,
          ⟨some 17, .bin .geq, [.tmp 13 true, .tmp 16 true], some (12, false)⟩,
          ⟨some 18, .pick, [.tmp 12 true, .const (.bool true), .tmp 17 true], none⟩] none [9, 13, 14, 15, 16])
        (.cond (.tmp 18 true) [1, 2]
          (.seq
            (.region [
              ⟨some 4, .move, [.const (.nilSl)], none⟩] none [])
            .ret) []
          .skip))
      (.seq
        (.region [
          ⟨some 19, .loadF 0 true 5 false, [.tmp 2 true], none⟩,
          ⟨some 20, .move, [.tmp 1 true], none⟩,
          ⟨some 21, .call 34, [.tmp 19 true, .tmp 20 true], none⟩,
          ⟨some 4, .move, [.tmp 21 true], none⟩] none [])
        .ret))) }

/-- runrig/ir.shapes -/
def s17_l0 : SCode :=
  (.seq
    (.region [
      ⟨some 22, .bin .lss, [.tmp 21 false, .tmp 20 false], none⟩] none [])
    (.seq
      (.cond (.tmp 22 true) []
        .skip [19, 20, 21]
        (.exit 2))
      (.seq
        (.block 3
          (.seq
            (.region [
              ⟨some 23, .indexAddr 4, [.tmp 19 false, .tmp 21 false], none⟩,
              ⟨some 24, .load true 4 false, [.tmp 23 true], none⟩,
              ⟨some 6, .allocF 2 [.str [], .int .i64 0, .int .i64 0, .int .i64 0], [], none⟩,
              ⟨none, .storeF 2 4, [.tmp 6 false, .tmp 24 true], none⟩] none [])
            (.seq
              (.region [
                ⟨some 25, .loadF 0 true 5 false, [.tmp 1 false], none⟩,
                ⟨some 26, .fieldAddr 1, [.tmp 6 true], none⟩,
                ⟨some 27, .loadF 2 true 3 false, [.tmp 26 true], none⟩,
                ⟨some 28, .call 35, [.tmp 25 true, .tmp 27 true], none⟩,
                ⟨some 29, .un .not, [.tmp 28 true], none⟩] none [])
              (.cond (.tmp 29 true) [1, 8, 9, 10, 19, 20, 21]
                (.seq
                  (.region [
                    ⟨some 2, .move, [.const (.bool false)], none⟩] none [])
                  .ret) []
                .skip))))
        (.region [
          ⟨some 30, .bin .add, [.tmp 21 true, .const (.int .i64 1)], none⟩,
          ⟨some 21, .move, [.tmp 30 true], none⟩] none []))))
def s17_l1 : SCode :=
  (.seq
    (.region [
      ⟨some 11, .bin .lss, [.tmp 10 false, .tmp 9 false], none⟩] none [])
    (.seq
      (.cond (.tmp 11 true) []
        .skip [1, 8, 9, 10]
        (.exit 0))
      (.seq
        (.block 1
          (.seq
            (.region [
              ⟨some 12, .indexAddr 2, [.tmp 8 false, .tmp 10 false], none⟩,
              ⟨some 13, .load true 2 false, [.tmp 12 true], none⟩,
              ⟨some 4, .allocF 1 [.str [], .nilSl], [], none⟩,
              ⟨none, .storeF 1 2, [.tmp 4 false, .tmp 13 true], none⟩] none [])
            (.seq
              (.seq
                (.region [
                  ⟨some 14, .fieldAddr 1, [.tmp 4 false], none⟩,
                  ⟨some 15, .loadF 1 false 1 false, [.tmp 14 true], none⟩,
                  ⟨some 16, .len .sl, [.tmp 15 true], none⟩,
                  ⟨some 17, .bin .gtr, [.tmp 16 true, .const (.int .i64 8)], none⟩] none [])
                (.cond (.tmp 17 true) [1, 4, 8, 9, 10]
                  (.seq
                    (.region [
                      ⟨some 2, .move, [.const (.bool false)], none⟩] none [])
                    .ret) []
                  .skip))
              (.seq
                (.region [
                  ⟨some 18, .fieldAddr 1, [.tmp 4 true], none⟩,
                  ⟨some 19, .loadF 1 false 1 false, [.tmp 18 true], none⟩,
                  ⟨some 20, .len .sl, [.tmp 19 false], none⟩,
                  ⟨some 21, .move, [.const (.int .i64 0)], none⟩] none [])
                (.block 2
                  (.loop s17_l0))))))
        (.region [
          ⟨some 31, .bin .add, [.tmp 10 true, .const (.int .i64 1)], none⟩,
          ⟨some 10, .move, [.tmp 31 true], none⟩] none []))))
def s17 : SFunc := { fid := 17, mode := .pure, nparams := 1, nboxes := 3, clr := [], results := [.tmp 2 false], body :=
  (.seq
    (.region [
      ⟨some 1, .boxF 0 5, [.tmp 0 true], none⟩,
      ⟨some 2, .move, [.const (.bool false)], none⟩] none [2])
    (.seq
      (.seq
        (.region [
          ⟨some 7, .fieldAddr 0, [.tmp 1 false], none⟩,
          ⟨some 8, .loadF 0 false 1 false, [.tmp 7 true], none⟩,
          ⟨some 9, .len .sl, [.tmp 8 false], none⟩,
          ⟨some 10, .move, [.const (.int .i64 0)], none⟩] none [])
        (.block 0
          (.loop s17_l1)))
      (.seq
        (.region [
          ⟨some 2, .move, [.const (.bool true)], none⟩] none [])
        .ret))) }

/-- runrig/ir.types -/
def s18_l0 : SCode :=
  (.seq
    (.region [
      ⟨some 10, .bin .lss, [.tmp 9 false, .tmp 8 false], none⟩] none [])
    (.seq
      (.cond (.tmp 10 true) []
        .skip [2, 7, 8, 9]
        (.exit 0))
      (.seq
        (.block 1
          (.seq
            (.region [
              ⟨some 11, .indexAddr 3, [.tmp 7 false, .tmp 9 false], none⟩,
              ⟨some 12, .load true 3 false, [.tmp 11 true], none⟩,
              ⟨some 6, .allocF 1 [.int .i64 0, .int .i64 0, .int .i64 0], [], none⟩,
              ⟨none, .storeF 1 3, [.tmp 6 false, .tmp 12 true], none⟩] none [])
            (.seq
              (.region [
                ⟨some 13, .loadF 0 true 5 false, [.tmp 2 false], none⟩,
                ⟨some 14, .loadF 1 true 3 false, [.tmp 6 true], none⟩,
                ⟨some 15, .call 35, [.tmp 13 true, .tmp 14 true], none⟩,
                ⟨some 16, .un .not, [.tmp 15 true], none⟩] none [])
              (.cond (.tmp 16 true) [2, 7, 8, 9]
                (.seq
                  (.region [
                    ⟨some 4, .move, [.const (.bool false)], none⟩] none [])
                  .ret) []
                .skip))))
        (.region [
          ⟨some 17, .bin .add, [.tmp 9 true, .const (.int .i64 1)], none⟩,
          ⟨some 9, .move, [.tmp 17 true], none⟩] none []))))
def s18 : SFunc := { fid := 18, mode := .pure, nparams := 2, nboxes := 2, clr := [], results := [.tmp 4 false], body :=
  (.seq
    (.region [
      ⟨some 2, .boxF 0 5, [.tmp 0 true], none⟩,
      ⟨some 4, .move, [.const (.bool false)], none⟩] none [4])
    (.seq
      (.seq
        (.region [
          ⟨some 7, .move, [.tmp 1 true], none⟩,
          ⟨some 8, .len .sl, [.tmp 7 false], none⟩,
          ⟨some 9, .move, [.const (.int .i64 0)], none⟩] none [])
        (.block 0
          (.loop s18_l0)))
      (.seq
        (.region [
          ⟨some 4, .move, [.const (.bool true)], none⟩] none [])
        .ret))) }

/-- runrig/ir.sites -/
def s19_l0 : SCode :=
  (.seq
    (.region [
      ⟨some 9, .bin .lss, [.tmp 8 false, .tmp 7 false], none⟩] none [])
    (.seq
      (.cond (.tmp 9 true) []
        .skip [1, 6, 7, 8]
        (.exit 0))
      (.seq
        (.block 1
          (.seq
            (.region [
              ⟨some 10, .indexAddr 4, [.tmp 6 false, .tmp 8 false], none⟩,
              ⟨some 11, .load true 4 false, [.tmp 10 true], none⟩,
              ⟨some 4, .allocF 1 [.int .i64 0, .int .i64 0, .int .i64 0, .int .i64 0], [], none⟩,
              ⟨none, .storeF 1 4, [.tmp 4 false, .tmp 11 true], none⟩] none [])
            (.seq
              (.region [
                ⟨some 12, .loadF 0 true 5 false, [.tmp 1 false], none⟩,
                ⟨some 13, .fieldAddr 1, [.tmp 4 false], none⟩,
                ⟨some 14, .loadF 1 true 3 false, [.tmp 13 true], none⟩,
                ⟨some 15, .call 35, [.tmp 12 true, .tmp 14 true], none⟩,
                ⟨some 16, .un .not, [.tmp 15 true], none⟩,
                ⟨some 17, .move, [.tmp 16 true], none⟩,
                ⟨some 18, .fieldAddr 1, [.tmp 4 false], some (17, false)⟩,
                ⟨some 19, .loadF 1 true 3 false, [.tmp 18 true], some (17, false)⟩,
                ⟨some 20, .call 36, [.tmp 19 true], some (17, false)⟩,
                ⟨some 21, .un .not, [.tmp 20 true], some (17, false)⟩,
                ⟨some 22, .pick, [.tmp 17 true, .const (.bool true), .tmp 21 true], none⟩,
                ⟨some 23, .move, [.tmp 22 true], none⟩,
                ⟨some 24, .fieldAddr 0, [.tmp 4 false], some (23, false)⟩,
                ⟨some 25, .loadF 1 false 1 false, [.tmp 24 true], some (23, false)⟩,
                ⟨some 26, .bin .lss, [.tmp 25 true, .const (.int .i64 0)], some (23, false)⟩,
                ⟨some 27, .pick, [.tmp 23 true, .const (.bool true), .tmp 26 true], none⟩,
                ⟨some 28, .move, [.tmp 27 true], none⟩,
                ⟨some 29, .fieldAddr 0, [.tmp 4 true], some (28, false)⟩,
                ⟨some 30, .loadF 1 false 1 false, [.tmp 29 true], some (28, false)⟩,
                ⟨some 31, .fieldAddr 2, [.tmp 1 false], some (28, false)⟩,
                ⟨some 32, .loadF 0 false 1 false, [.tmp 31 true], some (28, false)⟩,
                ⟨some 33, .len .sl, [.tmp 32 true], some (28, false)⟩,
                ⟨some 34, .bin .geq, [.tmp 30 true, .tmp 33 true], some (28, false)⟩,
                ⟨some 35, .pick, [.tmp 28 true, .const (.bool true), .tmp 34 true], none⟩] none [4, 18, 19, 20, 24, 25, 29, 30, 31, 32, 33])
              (.cond (.tmp 35 true) [1, 6, 7, 8]
                (.seq
                  (.region [
                    ⟨some 2, .move, [.const (.bool false)], none⟩] none [])
                  .ret) []
                .skip))))
        (.region [
          ⟨some 36, .bin .add, [.tmp 8 true, .const (.int .i64 1)], none⟩,
          ⟨some 8, .move, [.tmp 36 true], none⟩] none []))))
def s19 : SFunc := { fid := 19, mode := .pure, nparams := 1, nboxes := 2, clr := [], results := [.tmp 2 false], body :=
  (.seq
    (.region [
      ⟨some 1, .boxF 0 5, [.tmp 0 true], none⟩,
      ⟨some 2, .move, [.const (.bool false)], none⟩] none [2])
    (.seq
      (.seq
        (.region [
          ⟨some 5, .fieldAddr 3, [.tmp 1 false], none⟩,
          ⟨some 6, .loadF 0 false 1 false, [.tmp 5 true], none⟩,
          ⟨some 7, .len .sl, [.tmp 6 false], none⟩,
          ⟨some 8, .move, [.const (.int .i64 0)], none⟩] none [])
        (.block 0
          (.loop s19_l0)))
      (.seq
        (.region [
          ⟨some 2, .move, [.const (.bool true)], none⟩] none [])
        .ret))) }

/-- runrig/ir.codes -/
def s20_l0 : SCode :=
  (.seq
    (.region [
      ⟨some 10, .bin .lss, [.tmp 9 false, .tmp 8 false], none⟩] none [])
    (.seq
      (.cond (.tmp 10 true) []
        .skip [1, 3, 7, 8, 9]
        (.exit 0))
      (.seq
        (.block 1
          (.seq
            (.region [
              ⟨some 11, .move, [.tmp 9 false], none⟩,
              ⟨some 12, .indexAddr 7, [.tmp 7 false, .tmp 9 false], none⟩,
              ⟨some 13, .load true 7 false, [.tmp 12 true], none⟩,
              ⟨some 5, .allocF 1 [.int .i64 0, .nilSl, .bool false, .int .i64 0, .int .i64 0, .int .i64 0, .nilSl], [], none⟩,
              ⟨some 4, .move, [.tmp 11 true], none⟩,
              ⟨none, .storeF 1 7, [.tmp 5 false, .tmp 13 true], none⟩] none [])
            (.seq
              (.region [
                ⟨some 14, .move, [.tmp 3 true], none⟩,
                ⟨some 15, .fieldAddr 6, [.tmp 5 true], none⟩,
                ⟨some 16, .loadF 1 false 1 false, [.tmp 15 true], none⟩,
                ⟨some 17, .len .sl, [.tmp 16 true], none⟩,
                ⟨some 18, .bin .add, [.tmp 14 true, .tmp 17 true], none⟩,
                ⟨some 3, .move, [.tmp 18 true], none⟩] none [])
              (.seq
                (.region [
                  ⟨some 19, .move, [.tmp 3 false], none⟩,
                  ⟨some 20, .bin .gtr, [.tmp 19 true, .const (.int .i64 2500)], none⟩,
                  ⟨some 21, .move, [.tmp 20 true], none⟩,
                  ⟨some 22, .loadF 0 true 5 false, [.tmp 1 false], some (21, false)⟩,
                  ⟨some 23, .move, [.tmp 4 true], some (21, false)⟩,
                  ⟨some 24, .call 37, [.tmp 22 true, .tmp 23 true], some (21, false)⟩,
                  ⟨some 25, .un .not, [.tmp 24 true], some (21, false)⟩,
                  ⟨some 26, .pick, [.tmp 21 true, .const (.bool true), .tmp 25 true], none⟩] none [4, 22, 23, 24])
                (.cond (.tmp 26 true) [1, 3, 7, 8, 9]
                  (.seq
                    (.region [
                      ⟨some 2, .move, [.const (.bool false)], none⟩] none [])
                    .ret) []
                  .skip)))))
        (.region [
          ⟨some 27, .bin .add, [.tmp 9 true, .const (.int .i64 1)], none⟩,
          ⟨some 9, .move, [.tmp 27 true], none⟩] none []))))
def s20 : SFunc := { fid := 20, mode := .pure, nparams := 1, nboxes := 2, clr := [], results := [.tmp 2 false], body :=
  (.seq
    (.region [
      ⟨some 1, .boxF 0 5, [.tmp 0 true], none⟩,
      ⟨some 2, .move, [.const (.bool false)], none⟩] none [2])
    (.seq
      (.region [
        ⟨some 3, .move, [.const (.int .i64 0)], none⟩] none [])
      (.seq
        (.seq
          (.region [
            ⟨some 6, .fieldAddr 2, [.tmp 1 false], none⟩,
            ⟨some 7, .loadF 0 false 1 false, [.tmp 6 true], none⟩,
            ⟨some 8, .len .sl, [.tmp 7 false], none⟩,
            ⟨some 9, .move, [.const (.int .i64 0)], none⟩] none [])
          (.block 0
            (.loop s20_l0)))
        (.seq
          (.region [
            ⟨some 2, .move, [.const (.bool true)], none⟩] none [])
          .ret)))) }

/-- runrig/runrigref12.types -/
def s21_l0 : SCode :=
  (.seq
    (.seq
      (.region [
        ⟨some 6, .move, [.tmp 5 false], none⟩,
        ⟨some 7, .move, [.tmp 1 false], none⟩,
        ⟨some 8, .len .sl, [.tmp 7 true], none⟩,
        ⟨some 9, .bin .lss, [.tmp 6 true, .tmp 8 true], none⟩] none [])
      (.cond (.tmp 9 true) []
        .skip [1, 2, 5]
        (.exit 0)))
    (.seq
      (.block 1
        (.seq
          (.region [
            ⟨some 12, .loadF 0 true 5 false, [.tmp 2 false], none⟩,
            ⟨some 13, .move, [.tmp 1 false], none⟩,
            ⟨some 14, .move, [.tmp 5 false], none⟩,
            ⟨some 15, .indexAddr 3, [.tmp 13 true, .tmp 14 true], none⟩,
            ⟨some 16, .load true 3 false, [.tmp 15 true], none⟩,
            ⟨some 17, .call 22, [.tmp 12 true, .tmp 16 true], none⟩,
            ⟨some 18, .un .not, [.tmp 17 true], none⟩] (some []) [])
          (.cond (.tmp 18 true) [1, 2, 5]
            (.seq
              (.region [
                ⟨some 4, .move, [.const (.bool false)], none⟩] none [])
              .ret) []
            .skip)))
      (.region [
        ⟨some 10, .move, [.tmp 5 true], none⟩,
        ⟨some 11, .bin .add, [.tmp 10 true, .const (.int .i64 1)], none⟩,
        ⟨some 5, .move, [.tmp 11 true], none⟩] none [])))
def s21 : SFunc := { fid := 21, mode := .pure, nparams := 2, nboxes := 1, clr := [], results := [.tmp 4 false], body :=
  (.seq
    (.region [
      ⟨some 2, .boxF 0 5, [.tmp 0 true], none⟩,
      ⟨some 4, .move, [.const (.bool false)], none⟩] none [4])
    (.seq
      (.seq
        (.region [
          ⟨some 5, .move, [.const (.int .i64 0)], none⟩] none [])
        (.block 0
          (.loop s21_l0)))
      (.seq
        (.region [
          ⟨some 4, .move, [.const (.bool true)], none⟩] none [])
        .ret))) }

/-- runrig/runrigref12.may -/

def s22 : SFunc := { fid := 22, mode := .pure, nparams := 2, nboxes := 2, clr := [], results := [.tmp 4 false], body :=
  (.seq
    (.region [
      ⟨some 2, .boxF 0 5, [.tmp 0 true], none⟩,
      ⟨some 3, .boxF 1 3, [.tmp 1 true], none⟩,
      ⟨some 4, .move, [.const (.bool false)], none⟩] none [4])
    (.seq
      (.seq
        (.region [
          ⟨some 5, .fieldAddr 2, [.tmp 3 false], none⟩,
          ⟨some 6, .loadF 1 false 1 false, [.tmp 5 true], none⟩,
          ⟨some 7, .bin .lss, [.tmp 6 true, .const (.int .i64 0)], none⟩,
          ⟨some 8, .move, [.tmp 7 true], none⟩,
          ⟨some 9, .fieldAddr 2, [.tmp 3 false], some (8, false)⟩,
          ⟨some 10, .loadF 1 false 1 false, [.tmp 9 true], some (8, false)⟩,
          ⟨some 11, .bin .gtr, [.tmp 10 true, .const (.int .i64 3)], some (8, false)⟩,
          ⟨some 12, .pick, [.tmp 8 true, .const (.bool true), .tmp 11 true], none⟩] none [9, 10])
        (.cond (.tmp 12 true) [2, 3]
          (.seq
            (.region [
              ⟨some 4, .move, [.const (.bool false)], none⟩] none [])
            .ret) []
          .skip))
      (.seq
        (.seq
          (.region [
            ⟨some 13, .fieldAddr 0, [.tmp 3 false], none⟩,
            ⟨some 14, .loadF 1 false 1 false, [.tmp 13 true], none⟩] none [])
          (.block 0
            (.seq
              (.seq
                (.region [
                  ⟨some 16, .bin .eql, [.tmp 14 false, .const (.int .i64 1)], none⟩,
                  ⟨some 15, .move, [.tmp 16 true], none⟩] none [])
                (.cond (.tmp 15 false) []
                  .skip [15]
                  (.region [
                    ⟨some 17, .bin .eql, [.tmp 14 false, .const (.int .i64 2)], none⟩,
                    ⟨some 15, .move, [.tmp 17 true], none⟩] none [])))
              (.cond (.tmp 15 true) [2, 14]
                (.seq
                  (.region [
                    ⟨some 18, .fieldAddr 1, [.tmp 3 true], none⟩,
                    ⟨some 19, .loadF 1 false 1 false, [.tmp 18 true], none⟩,
                    ⟨some 20, .bin .eql, [.tmp 19 true, .const (.int .i64 0)], none⟩,
                    ⟨some 4, .move, [.tmp 20 true], none⟩] none [])
                  .ret) []
                (.seq
                  (.region [
                    ⟨some 22, .bin .eql, [.tmp 14 true, .const (.int .i64 3)], none⟩,
                    ⟨some 21, .move, [.tmp 22 true], none⟩] none [])
                  (.cond (.tmp 21 true) []
                    (.seq
                      (.region [
                        ⟨some 23, .fieldAddr 1, [.tmp 3 false], none⟩,
                        ⟨some 24, .loadF 1 false 1 false, [.tmp 23 true], none⟩,
                        ⟨some 25, .bin .geq, [.tmp 24 true, .const (.int .i64 0)], none⟩,
                        ⟨some 26, .move, [.tmp 25 true], none⟩,
                        ⟨some 27, .fieldAddr 1, [.tmp 3 true], some (26, true)⟩,
                        ⟨some 28, .loadF 1 false 1 false, [.tmp 27 true], some (26, true)⟩,
                        ⟨some 29, .fieldAddr 0, [.tmp 2 true], some (26, true)⟩,
                        ⟨some 30, .loadF 0 false 1 false, [.tmp 29 true], some (26, true)⟩,
                        ⟨some 31, .len .sl, [.tmp 30 true], some (26, true)⟩,
                        ⟨some 32, .bin .lss, [.tmp 28 true, .tmp 31 true], some (26, true)⟩,
                        ⟨some 33, .pick, [.tmp 26 true, .tmp 32 true, .const (.bool false)], none⟩,
                        ⟨some 4, .move, [.tmp 33 true], none⟩] none [2, 3, 27, 28, 29, 30, 31])
                      .ret) [2, 3]
                    .skip))))))
        (.seq
          (.region [
            ⟨some 4, .move, [.const (.bool false)], none⟩] none [])
          .ret)))) }

end Code12
