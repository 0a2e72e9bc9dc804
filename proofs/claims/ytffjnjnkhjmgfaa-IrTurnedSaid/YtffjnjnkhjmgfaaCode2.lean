/- The annotated code of the loaded program, printed by wip/tools/gen.py. -/
import Derived.Test.YtffjnjnkhjmgfaaCode1

set_option maxRecDepth 100000
namespace Code12
open Ax Go

/-- runrig/ir.bare -/

def s23 : SFunc := { fid := 23, mode := .pure, nparams := 1, nboxes := 1, clr := [], results := [.tmp 2 false], body :=
  (.seq
    (.region [
      ⟨some 1, .boxF 0 6, [.tmp 0 true], none⟩,
      ⟨some 2, .move, [.const (.bool false)], none⟩] none [2])
    (.seq
      (.seq
        (.region [
          ⟨some 3, .fieldAddr 0, [.tmp 1 false], none⟩,
          ⟨some 4, .loadF 0 false 1 false, [.tmp 3 true], none⟩] none [])
        (.block 0
          (.seq
            (.seq
              (.region [
                ⟨some 6, .bin .eql, [.tmp 4 false, .const (.int .i64 1)], none⟩,
                ⟨some 5, .move, [.tmp 6 true], none⟩] none [])
              (.cond (.tmp 5 false) []
                .skip [5]
                (.seq
                  (.region [
                    ⟨some 7, .bin .eql, [.tmp 4 false, .const (.int .i64 11)], none⟩,
                    ⟨some 5, .move, [.tmp 7 true], none⟩] none [])
                  (.cond (.tmp 5 false) []
                    .skip [5]
                    (.seq
                      (.region [
                        ⟨some 8, .bin .eql, [.tmp 4 false, .const (.int .i64 19)], none⟩,
                        ⟨some 5, .move, [.tmp 8 true], none⟩] none [])
                      (.cond (.tmp 5 false) []
                        .skip [5]
                        (.region [
                          ⟨some 9, .bin .eql, [.tmp 4 false, .const (.int .i64 20)], none⟩,
                          ⟨some 5, .move, [.tmp 9 true], none⟩] none [])))))))
            (.cond (.tmp 5 true) [4]
              (.seq
                (.region [
                  ⟨some 10, .loadF 0 true 6 false, [.tmp 1 true], none⟩,
                  ⟨some 11, .call 38, [.tmp 10 true, .const (.bool true), .const (.bool false), .const (.bool false), .const (.bool true)], none⟩,
                  ⟨some 2, .move, [.tmp 11 true], none⟩] none [])
                .ret) []
              (.seq
                (.seq
                  (.region [
                    ⟨some 13, .bin .eql, [.tmp 4 false, .const (.int .i64 2)], none⟩,
                    ⟨some 12, .move, [.tmp 13 true], none⟩] none [])
                  (.cond (.tmp 12 false) []
                    .skip [12]
                    (.seq
                      (.region [
                        ⟨some 14, .bin .eql, [.tmp 4 false, .const (.int .i64 14)], none⟩,
                        ⟨some 12, .move, [.tmp 14 true], none⟩] none [])
                      (.cond (.tmp 12 false) []
                        .skip [12]
                        (.seq
                          (.region [
                            ⟨some 15, .bin .eql, [.tmp 4 false, .const (.int .i64 15)], none⟩,
                            ⟨some 12, .move, [.tmp 15 true], none⟩] none [])
                          (.cond (.tmp 12 false) []
                            .skip [12]
                            (.region [
                              ⟨some 16, .bin .eql, [.tmp 4 false, .const (.int .i64 18)], none⟩,
                              ⟨some 12, .move, [.tmp 16 true], none⟩] none [])))))))
                (.cond (.tmp 12 true) [4]
                  (.seq
                    (.region [
                      ⟨some 17, .loadF 0 true 6 false, [.tmp 1 true], none⟩,
                      ⟨some 18, .call 38, [.tmp 17 true, .const (.bool true), .const (.bool false), .const (.bool false), .const (.bool false)], none⟩,
                      ⟨some 2, .move, [.tmp 18 true], none⟩] none [])
                    .ret) []
                  (.seq
                    (.seq
                      (.region [
                        ⟨some 20, .bin .eql, [.tmp 4 false, .const (.int .i64 3)], none⟩,
                        ⟨some 19, .move, [.tmp 20 true], none⟩] none [])
                      (.cond (.tmp 19 false) []
                        .skip [19]
                        (.region [
                          ⟨some 21, .bin .eql, [.tmp 4 false, .const (.int .i64 10)], none⟩,
                          ⟨some 19, .move, [.tmp 21 true], none⟩] none [])))
                    (.cond (.tmp 19 true) [4]
                      (.seq
                        (.region [
                          ⟨some 22, .loadF 0 true 6 false, [.tmp 1 true], none⟩,
                          ⟨some 23, .call 38, [.tmp 22 true, .const (.bool true), .const (.bool true), .const (.bool false), .const (.bool false)], none⟩,
                          ⟨some 2, .move, [.tmp 23 true], none⟩] none [])
                        .ret) []
                      (.seq
                        (.seq
                          (.region [
                            ⟨some 25, .bin .eql, [.tmp 4 false, .const (.int .i64 5)], none⟩,
                            ⟨some 24, .move, [.tmp 25 true], none⟩] none [])
                          (.cond (.tmp 24 false) []
                            .skip [24]
                            (.region [
                              ⟨some 26, .bin .eql, [.tmp 4 false, .const (.int .i64 12)], none⟩,
                              ⟨some 24, .move, [.tmp 26 true], none⟩] none [])))
                        (.cond (.tmp 24 true) [4]
                          (.seq
                            (.region [
                              ⟨some 27, .loadF 0 true 6 false, [.tmp 1 true], none⟩,
                              ⟨some 28, .call 38, [.tmp 27 true, .const (.bool true), .const (.bool true), .const (.bool false), .const (.bool true)], none⟩,
                              ⟨some 2, .move, [.tmp 28 true], none⟩] none [])
                            .ret) []
                          (.seq
                            (.seq
                              (.region [
                                ⟨some 30, .bin .eql, [.tmp 4 false, .const (.int .i64 6)], none⟩,
                                ⟨some 29, .move, [.tmp 30 true], none⟩] none [])
                              (.cond (.tmp 29 false) []
                                .skip [29]
                                (.seq
                                  (.region [
                                    ⟨some 31, .bin .eql, [.tmp 4 false, .const (.int .i64 7)], none⟩,
                                    ⟨some 29, .move, [.tmp 31 true], none⟩] none [])
                                  (.cond (.tmp 29 false) []
                                    .skip [29]
                                    (.seq
                                      (.region [
                                        ⟨some 32, .bin .eql, [.tmp 4 false, .const (.int .i64 8)], none⟩,
                                        ⟨some 29, .move, [.tmp 32 true], none⟩] none [])
                                      (.cond (.tmp 29 false) []
                                        .skip [29]
                                        (.region [
                                          ⟨some 33, .bin .eql, [.tmp 4 false, .const (.int .i64 9)], none⟩,
                                          ⟨some 29, .move, [.tmp 33 true], none⟩] none [])))))))
                            (.cond (.tmp 29 true) [4]
                              (.seq
                                (.region [
                                  ⟨some 34, .loadF 0 true 6 false, [.tmp 1 true], none⟩,
                                  ⟨some 35, .call 38, [.tmp 34 true, .const (.bool true), .const (.bool true), .const (.bool true), .const (.bool false)], none⟩,
                                  ⟨some 2, .move, [.tmp 35 true], none⟩] none [])
                                .ret) []
                              (.seq
                                (.region [
                                  ⟨some 37, .bin .eql, [.tmp 4 false, .const (.int .i64 4)], none⟩,
                                  ⟨some 36, .move, [.tmp 37 true], none⟩] none [])
                                (.cond (.tmp 36 true) [4]
                                  (.seq
                                    (.region [
                                      ⟨some 38, .loadF 0 true 6 false, [.tmp 1 true], none⟩,
                                      ⟨some 39, .call 38, [.tmp 38 true, .const (.bool true), .const (.bool true), .const (.bool true), .const (.bool true)], none⟩,
                                      ⟨some 2, .move, [.tmp 39 true], none⟩] none [])
                                    .ret) []
                                  (.seq
                                    (.region [
                                      ⟨some 41, .bin .eql, [.tmp 4 false, .const (.int .i64 13)], none⟩,
                                      ⟨some 40, .move, [.tmp 41 true], none⟩] none [])
                                    (.cond (.tmp 40 true) [4]
                                      (.seq
                                        (.region [
                                          ⟨some 42, .loadF 0 true 6 false, [.tmp 1 true], none⟩,
                                          ⟨some 43, .call 38, [.tmp 42 true, .const (.bool true), .const (.bool false), .const (.bool true), .const (.bool false)], none⟩,
                                          ⟨some 2, .move, [.tmp 43 true], none⟩] none [])
                                        .ret) []
                                      (.seq
                                        (.region [
                                          ⟨some 45, .bin .eql, [.tmp 4 false, .const (.int .i64 16)], none⟩,
                                          ⟨some 44, .move, [.tmp 45 true], none⟩] none [])
                                        (.cond (.tmp 44 true) [4]
                                          (.seq
                                            (.region [
                                              ⟨some 46, .loadF 0 true 6 false, [.tmp 1 true], none⟩,
                                              ⟨some 47, .call 38, [.tmp 46 true, .const (.bool false), .const (.bool false), .const (.bool false), .const (.bool true)], none⟩,
                                              ⟨some 2, .move, [.tmp 47 true], none⟩] none [])
                                            .ret) []
                                          (.seq
                                            (.region [
                                              ⟨some 49, .bin .eql, [.tmp 4 true, .const (.int .i64 17)], none⟩,
                                              ⟨some 48, .move, [.tmp 49 true], none⟩] none [])
                                            (.cond (.tmp 48 true) []
                                              (.seq
                                                (.region [
                                                  ⟨some 50, .loadF 0 true 6 false, [.tmp 1 true], none⟩,
                                                  ⟨some 51, .call 38, [.tmp 50 true, .const (.bool true), .const (.bool false), .const (.bool true), .const (.bool true)], none⟩,
                                                  ⟨some 2, .move, [.tmp 51 true], none⟩] none [])
                                                .ret) [1]
                                              .skip))))))))))))))))))))
      (.seq
        (.region [
          ⟨some 2, .move, [.const (.bool false)], none⟩] none [])
        .ret))) }

/-- (runrig/ir.view).fits -/

def s24 : SFunc := { fid := 24, mode := .pure, nparams := 1, nboxes := 3, clr := [], results := [.tmp 2 false], body :=
  (.seq
    (.region [
      ⟨some 1, .boxF 0 19, [.tmp 0 true], none⟩,
      ⟨some 2, .move, [.const (.bool false)], none⟩] none [2])
    (.seq
      (.region [
        ⟨some 5, .fieldAddr 13, [.tmp 1 false], none⟩,
        ⟨some 6, .loadF 0 true 6 false, [.tmp 5 true], none⟩,
        ⟨some 3, .allocF 1 [.int .i64 0, .int .i64 0, .int .i64 0, .int .i64 0, .int .i64 0, .nilSl], [], none⟩,
        ⟨none, .storeF 1 6, [.tmp 3 false, .tmp 6 true], none⟩] none [])
      (.seq
        (.seq
          (.region [
            ⟨some 7, .fieldAddr 0, [.tmp 3 false], none⟩,
            ⟨some 8, .loadF 1 false 1 false, [.tmp 7 true], none⟩] none [])
          (.block 0
            (.seq
              (.region [
                ⟨some 10, .bin .eql, [.tmp 8 false, .const (.int .i64 1)], none⟩,
                ⟨some 9, .move, [.tmp 10 true], none⟩] none [])
              (.cond (.tmp 9 true) [8]
                (.seq
                  (.region [
                    ⟨some 11, .loadF 0 true 19 false, [.tmp 1 false], none⟩,
                    ⟨some 12, .fieldAddr 1, [.tmp 3 false], none⟩,
                    ⟨some 13, .loadF 1 false 1 false, [.tmp 12 true], none⟩,
                    ⟨some 14, .lit 1 1 [.int .i64 0] [0], [.tmp 13 true], none⟩,
                    ⟨some 15, .call 39, [.tmp 11 true, .tmp 14 true], none⟩,
                    ⟨some 16, .move, [.tmp 15 true], none⟩,
                    ⟨some 17, .loadF 0 true 19 false, [.tmp 1 true], some (16, false)⟩,
                    ⟨some 18, .fieldAddr 1, [.tmp 3 false], some (16, false)⟩,
                    ⟨some 19, .loadF 1 false 1 false, [.tmp 18 true], some (16, false)⟩,
                    ⟨some 20, .lit 1 1 [.int .i64 0] [0], [.tmp 19 true], some (16, false)⟩,
                    ⟨some 21, .call 40, [.tmp 17 true, .tmp 20 true], some (16, false)⟩,
                    ⟨some 22, .move, [.tmp 21 true], some (16, false)⟩,
                    ⟨some 23, .fieldAddr 4, [.tmp 3 false], some (22, true)⟩,
                    ⟨some 24, .loadF 1 false 1 false, [.tmp 23 true], some (22, true)⟩,
                    ⟨some 25, .bin .eql, [.tmp 24 true, .const (.int .i64 0)], some (22, true)⟩,
                    ⟨some 26, .move, [.tmp 25 true], some (22, true)⟩,
                    ⟨some 27, .fieldAddr 4, [.tmp 3 true], some (26, false)⟩,
                    ⟨some 28, .loadF 1 false 1 false, [.tmp 27 true], some (26, false)⟩,
                    ⟨some 29, .bin .eql, [.tmp 28 true, .const (.int .i64 1)], some (26, false)⟩,
                    ⟨some 30, .pick, [.tmp 26 true, .const (.bool true), .tmp 29 true], some (22, true)⟩,
                    ⟨some 31, .pick, [.tmp 22 true, .tmp 30 true, .const (.bool false)], some (16, false)⟩,
                    ⟨some 32, .pick, [.tmp 16 true, .const (.bool true), .tmp 31 true], none⟩,
                    ⟨some 2, .move, [.tmp 32 true], none⟩] none [1, 3, 17, 18, 19, 20, 21, 22, 23, 24, 25, 26, 27, 28, 29, 30])
                  .ret) []
                (.seq
                  (.region [
                    ⟨some 34, .bin .eql, [.tmp 8 false, .const (.int .i64 2)], none⟩,
                    ⟨some 33, .move, [.tmp 34 true], none⟩] none [])
                  (.cond (.tmp 33 true) [8]
                    (.seq
                      (.region [
                        ⟨some 35, .loadF 0 true 19 false, [.tmp 1 true], none⟩,
                        ⟨some 36, .fieldAddr 1, [.tmp 3 true], none⟩,
                        ⟨some 37, .loadF 1 false 1 false, [.tmp 36 true], none⟩,
                        ⟨some 38, .call 41, [.tmp 35 true, .tmp 37 true], none⟩,
                        ⟨some 39, .call 36, [.tmp 38 true], none⟩,
                        ⟨some 2, .move, [.tmp 39 true], none⟩] none [])
                      .ret) []
                    (.seq
                      (.region [
                        ⟨some 41, .bin .eql, [.tmp 8 false, .const (.int .i64 3)], none⟩,
                        ⟨some 40, .move, [.tmp 41 true], none⟩] none [])
                      (.cond (.tmp 40 true) [8]
                        (.seq
                          (.region [
                            ⟨some 42, .loadF 0 true 19 false, [.tmp 1 false], none⟩,
                            ⟨some 43, .loadF 0 true 19 false, [.tmp 1 false], none⟩,
                            ⟨some 44, .fieldAddr 1, [.tmp 3 false], none⟩,
                            ⟨some 45, .loadF 1 false 1 false, [.tmp 44 true], none⟩,
                            ⟨some 46, .call 41, [.tmp 43 true, .tmp 45 true], none⟩,
                            ⟨some 47, .fieldAddr 2, [.tmp 3 false], none⟩,
                            ⟨some 48, .loadF 1 false 1 false, [.tmp 47 true], none⟩,
                            ⟨some 49, .lit 1 1 [.int .i64 0] [0], [.tmp 48 true], none⟩,
                            ⟨some 50, .call 42, [.tmp 42 true, .tmp 46 true, .tmp 49 true], none⟩,
                            ⟨some 2, .move, [.tmp 50 true], none⟩] (some []) [1, 3])
                          .ret) []
                        (.seq
                          (.region [
                            ⟨some 52, .bin .eql, [.tmp 8 false, .const (.int .i64 4)], none⟩,
                            ⟨some 51, .move, [.tmp 52 true], none⟩] none [])
                          (.cond (.tmp 51 true) [3, 8]
                            (.seq
                              (.region [
                                ⟨some 53, .loadF 0 true 19 false, [.tmp 1 true], none⟩,
                                ⟨some 54, .call 43, [.tmp 53 true], none⟩,
                                ⟨some 2, .move, [.tmp 54 true], none⟩] none [])
                              .ret) []
                            (.seq
                              (.region [
                                ⟨some 56, .bin .eql, [.tmp 8 false, .const (.int .i64 5)], none⟩,
                                ⟨some 55, .move, [.tmp 56 true], none⟩] none [])
                              (.cond (.tmp 55 true) [8]
                                (.seq
                                  (.region [
                                    ⟨some 57, .fieldAddr 4, [.tmp 3 false], none⟩,
                                    ⟨some 58, .loadF 1 false 1 false, [.tmp 57 true], none⟩,
                                    ⟨some 59, .bin .eql, [.tmp 58 true, .const (.int .i64 12)], none⟩,
                                    ⟨some 60, .move, [.tmp 59 true], none⟩,
                                    ⟨some 61, .loadF 0 true 19 false, [.tmp 1 false], some (60, true)⟩,
                                    ⟨some 62, .fieldAddr 1, [.tmp 3 false], some (60, true)⟩,
                                    ⟨some 63, .loadF 1 false 1 false, [.tmp 62 true], some (60, true)⟩,
                                    ⟨some 64, .fieldAddr 2, [.tmp 3 false], some (60, true)⟩,
                                    ⟨some 65, .loadF 1 false 1 false, [.tmp 64 true], some (60, true)⟩,
                                    ⟨some 66, .lit 1 2 [.int .i64 0] [0, 1], [.tmp 63 true, .tmp 65 true], some (60, true)⟩,
                                    ⟨some 67, .call 39, [.tmp 61 true, .tmp 66 true], some (60, true)⟩,
                                    ⟨some 68, .pick, [.tmp 60 true, .tmp 67 true, .const (.bool false)], none⟩,
                                    ⟨some 69, .move, [.tmp 68 true], none⟩,
                                    ⟨some 70, .fieldAddr 4, [.tmp 3 false], some (69, false)⟩,
                                    ⟨some 71, .loadF 1 false 1 false, [.tmp 70 true], some (69, false)⟩,
                                    ⟨some 72, .bin .eql, [.tmp 71 true, .const (.int .i64 13)], some (69, false)⟩,
                                    ⟨some 73, .move, [.tmp 72 true], some (69, false)⟩,
                                    ⟨some 74, .loadF 0 true 19 false, [.tmp 1 true], some (73, true)⟩,
                                    ⟨some 75, .fieldAddr 1, [.tmp 3 false], some (73, true)⟩,
                                    ⟨some 76, .loadF 1 false 1 false, [.tmp 75 true], some (73, true)⟩,
                                    ⟨some 77, .fieldAddr 2, [.tmp 3 true], some (73, true)⟩,
                                    ⟨some 78, .loadF 1 false 1 false, [.tmp 77 true], some (73, true)⟩,
                                    ⟨some 79, .lit 1 2 [.int .i64 0] [0, 1], [.tmp 76 true, .tmp 78 true], some (73, true)⟩,
                                    ⟨some 80, .call 40, [.tmp 74 true, .tmp 79 true], some (73, true)⟩,
                                    ⟨some 81, .pick, [.tmp 73 true, .tmp 80 true, .const (.bool false)], some (69, false)⟩,
                                    ⟨some 82, .pick, [.tmp 69 true, .const (.bool true), .tmp 81 true], none⟩,
                                    ⟨some 2, .move, [.tmp 82 true], none⟩] none [1, 3, 61, 62, 63, 64, 65, 66, 70, 71, 72, 73, 74, 75, 76, 77, 78, 79, 80])
                                  .ret) []
                                (.seq
                                  (.region [
                                    ⟨some 84, .bin .eql, [.tmp 8 false, .const (.int .i64 6)], none⟩,
                                    ⟨some 83, .move, [.tmp 84 true], none⟩] none [])
                                  (.cond (.tmp 83 true) [8]
                                    (.seq
                                      (.region [
                                        ⟨some 85, .loadF 0 true 19 false, [.tmp 1 true], none⟩,
                                        ⟨some 86, .fieldAddr 2, [.tmp 3 false], none⟩,
                                        ⟨some 87, .loadF 1 false 1 false, [.tmp 86 true], none⟩,
                                        ⟨some 88, .fieldAddr 3, [.tmp 3 false], none⟩,
                                        ⟨some 89, .loadF 1 false 1 false, [.tmp 88 true], none⟩,
                                        ⟨some 90, .fieldAddr 1, [.tmp 3 true], none⟩,
                                        ⟨some 91, .loadF 1 false 1 false, [.tmp 90 true], none⟩,
                                        ⟨some 92, .call 44, [.tmp 85 true, .tmp 87 true, .tmp 89 true, .tmp 91 true], none⟩,
                                        ⟨some 2, .move, [.tmp 92 true], none⟩] none [])
                                      .ret) []
                                    (.seq
                                      (.region [
                                        ⟨some 94, .bin .eql, [.tmp 8 false, .const (.int .i64 7)], none⟩,
                                        ⟨some 93, .move, [.tmp 94 true], none⟩] none [])
                                      (.cond (.tmp 93 true) [8]
                                        (.seq
                                          (.region [
                                            ⟨some 95, .loadF 0 true 19 false, [.tmp 1 true], none⟩,
                                            ⟨some 96, .fieldAddr 1, [.tmp 3 false], none⟩,
                                            ⟨some 97, .loadF 1 false 1 false, [.tmp 96 true], none⟩,
                                            ⟨some 98, .fieldAddr 3, [.tmp 3 false], none⟩,
                                            ⟨some 99, .loadF 1 false 1 false, [.tmp 98 true], none⟩,
                                            ⟨some 100, .fieldAddr 2, [.tmp 3 true], none⟩,
                                            ⟨some 101, .loadF 1 false 1 false, [.tmp 100 true], none⟩,
                                            ⟨some 102, .call 44, [.tmp 95 true, .tmp 97 true, .tmp 99 true, .tmp 101 true], none⟩,
                                            ⟨some 2, .move, [.tmp 102 true], none⟩] none [])
                                          .ret) []
                                        (.seq
                                          (.region [
                                            ⟨some 104, .bin .eql, [.tmp 8 false, .const (.int .i64 8)], none⟩,
                                            ⟨some 103, .move, [.tmp 104 true], none⟩] none [])
                                          (.cond (.tmp 103 true) [8]
                                            (.seq
                                              (.region [
                                                ⟨some 105, .loadF 0 true 19 false, [.tmp 1 false], none⟩,
                                                ⟨some 106, .fieldAddr 2, [.tmp 3 false], none⟩,
                                                ⟨some 107, .loadF 1 false 1 false, [.tmp 106 true], none⟩,
                                                ⟨some 108, .fieldAddr 1, [.tmp 3 false], none⟩,
                                                ⟨some 109, .loadF 1 false 1 false, [.tmp 108 true], none⟩,
                                                ⟨some 110, .call 45, [.tmp 105 true, .tmp 107 true, .tmp 109 true], none⟩,
                                                ⟨some 111, .move, [.tmp 110 true], none⟩,
                                                ⟨some 112, .loadF 0 true 19 false, [.tmp 1 true], some (111, true)⟩,
                                                ⟨some 113, .fieldAddr 3, [.tmp 3 true], some (111, true)⟩,
                                                ⟨some 114, .loadF 1 false 1 false, [.tmp 113 true], some (111, true)⟩,
                                                ⟨some 115, .lit 1 1 [.int .i64 0] [0], [.tmp 114 true], some (111, true)⟩,
                                                ⟨some 116, .call 39, [.tmp 112 true, .tmp 115 true], some (111, true)⟩,
                                                ⟨some 117, .pick, [.tmp 111 true, .tmp 116 true, .const (.bool false)], none⟩,
                                                ⟨some 2, .move, [.tmp 117 true], none⟩] none [1, 3, 112, 113, 114, 115])
                                              .ret) []
                                            (.seq
                                              (.region [
                                                ⟨some 119, .bin .eql, [.tmp 8 false, .const (.int .i64 9)], none⟩,
                                                ⟨some 118, .move, [.tmp 119 true], none⟩] none [])
                                              (.cond (.tmp 118 true) [8]
                                                (.seq
                                                  (.region [
                                                    ⟨some 120, .loadF 0 true 19 false, [.tmp 1 false], none⟩,
                                                    ⟨some 121, .fieldAddr 1, [.tmp 3 false], none⟩,
                                                    ⟨some 122, .loadF 1 false 1 false, [.tmp 121 true], none⟩,
                                                    ⟨some 123, .fieldAddr 3, [.tmp 3 false], none⟩,
                                                    ⟨some 124, .loadF 1 false 1 false, [.tmp 123 true], none⟩,
                                                    ⟨some 125, .call 45, [.tmp 120 true, .tmp 122 true, .tmp 124 true], none⟩,
                                                    ⟨some 126, .move, [.tmp 125 true], none⟩,
                                                    ⟨some 127, .loadF 0 true 19 false, [.tmp 1 true], some (126, true)⟩,
                                                    ⟨some 128, .fieldAddr 2, [.tmp 3 true], some (126, true)⟩,
                                                    ⟨some 129, .loadF 1 false 1 false, [.tmp 128 true], some (126, true)⟩,
                                                    ⟨some 130, .lit 1 1 [.int .i64 0] [0], [.tmp 129 true], some (126, true)⟩,
                                                    ⟨some 131, .call 39, [.tmp 127 true, .tmp 130 true], some (126, true)⟩,
                                                    ⟨some 132, .pick, [.tmp 126 true, .tmp 131 true, .const (.bool false)], none⟩,
                                                    ⟨some 2, .move, [.tmp 132 true], none⟩] none [1, 3, 127, 128, 129, 130])
                                                  .ret) []
                                                (.seq
                                                  (.region [
                                                    ⟨some 134, .bin .eql, [.tmp 8 false, .const (.int .i64 10)], none⟩,
                                                    ⟨some 133, .move, [.tmp 134 true], none⟩] none [])
                                                  (.cond (.tmp 133 true) [8]
                                                    (.seq
                                                      (.region [
                                                        ⟨some 135, .loadF 0 true 19 false, [.tmp 1 false], none⟩,
                                                        ⟨some 136, .fieldAddr 1, [.tmp 3 false], none⟩,
                                                        ⟨some 137, .loadF 1 false 1 false, [.tmp 136 true], none⟩,
                                                        ⟨some 138, .lit 1 1 [.int .i64 0] [0], [.tmp 137 true], none⟩,
                                                        ⟨some 139, .call 39, [.tmp 135 true, .tmp 138 true], none⟩,
                                                        ⟨some 140, .move, [.tmp 139 true], none⟩,
                                                        ⟨some 141, .loadF 0 true 19 false, [.tmp 1 true], some (140, true)⟩,
                                                        ⟨some 142, .fieldAddr 2, [.tmp 3 true], some (140, true)⟩,
                                                        ⟨some 143, .loadF 1 false 1 false, [.tmp 142 true], some (140, true)⟩,
                                                        ⟨some 144, .call 41, [.tmp 141 true, .tmp 143 true], some (140, true)⟩,
                                                        ⟨some 145, .field 2 1 false, [.tmp 144 true], some (140, true)⟩,
                                                        ⟨some 146, .bin .gtr, [.tmp 145 true, .const (.int .i64 0)], some (140, true)⟩,
                                                        ⟨some 147, .pick, [.tmp 140 true, .tmp 146 true, .const (.bool false)], none⟩,
                                                        ⟨some 2, .move, [.tmp 147 true], none⟩] none [1, 3, 141, 142, 143, 144, 145])
                                                      .ret) []
                                                    (.seq
                                                      (.region [
                                                        ⟨some 149, .bin .eql, [.tmp 8 false, .const (.int .i64 11)], none⟩,
                                                        ⟨some 148, .move, [.tmp 149 true], none⟩] none [])
                                                      (.cond (.tmp 148 true) [8]
                                                        (.seq
                                                          (.region [
                                                            ⟨some 150, .loadF 0 true 19 false, [.tmp 1 false], none⟩,
                                                            ⟨some 151, .fieldAddr 1, [.tmp 3 false], none⟩,
                                                            ⟨some 152, .loadF 1 false 1 false, [.tmp 151 true], none⟩,
                                                            ⟨some 153, .call 41, [.tmp 150 true, .tmp 152 true], none⟩,
                                                            ⟨some 4, .allocF 2 [.int .i64 0, .int .i64 0, .int .i64 0], [], none⟩,
                                                            ⟨none, .storeF 2 3, [.tmp 4 false, .tmp 153 true], none⟩] none [])
                                                          (.seq
                                                            (.region [
                                                              ⟨some 154, .fieldAddr 0, [.tmp 4 false], none⟩,
                                                              ⟨some 155, .loadF 2 false 1 false, [.tmp 154 true], none⟩,
                                                              ⟨some 156, .bin .eql, [.tmp 155 true, .const (.int .i64 3)], none⟩,
                                                              ⟨some 157, .move, [.tmp 156 true], none⟩,
                                                              ⟨some 158, .fieldAddr 2, [.tmp 4 true], some (157, true)⟩,
                                                              ⟨some 159, .loadF 2 false 1 false, [.tmp 158 true], some (157, true)⟩,
                                                              ⟨some 160, .bin .eql, [.tmp 159 true, .const (.int .i64 0)], some (157, true)⟩,
                                                              ⟨some 161, .pick, [.tmp 157 true, .tmp 160 true, .const (.bool false)], none⟩,
                                                              ⟨some 162, .move, [.tmp 161 true], none⟩,
                                                              ⟨some 163, .loadF 0 true 19 false, [.tmp 1 true], some (162, true)⟩,
                                                              ⟨some 164, .fieldAddr 4, [.tmp 3 false], some (162, true)⟩,
                                                              ⟨some 165, .loadF 1 false 1 false, [.tmp 164 true], some (162, true)⟩,
                                                              ⟨some 166, .fieldAddr 1, [.tmp 3 true], some (162, true)⟩,
                                                              ⟨some 167, .loadF 1 false 1 false, [.tmp 166 true], some (162, true)⟩,
                                                              ⟨some 168, .call 46, [.tmp 163 true, .tmp 165 true, .tmp 167 true], some (162, true)⟩,
                                                              ⟨some 169, .pick, [.tmp 162 true, .tmp 168 true, .const (.bool false)], none⟩,
                                                              ⟨some 2, .move, [.tmp 169 true], none⟩] none [1, 3, 4, 158, 159, 163, 164, 165, 166, 167])
                                                            .ret)) []
                                                        (.seq
                                                          (.region [
                                                            ⟨some 171, .bin .eql, [.tmp 8 true, .const (.int .i64 12)], none⟩,
                                                            ⟨some 170, .move, [.tmp 171 true], none⟩] none [])
                                                          (.cond (.tmp 170 true) []
                                                            (.seq
                                                              (.region [
                                                                ⟨some 172, .loadF 0 true 19 false, [.tmp 1 false], none⟩,
                                                                ⟨some 173, .fieldAddr 1, [.tmp 3 false], none⟩,
                                                                ⟨some 174, .loadF 1 false 1 false, [.tmp 173 true], none⟩,
                                                                ⟨some 175, .call 41, [.tmp 172 true, .tmp 174 true], none⟩,
                                                                ⟨some 176, .field 2 1 false, [.tmp 175 true], none⟩,
                                                                ⟨some 177, .bin .gtr, [.tmp 176 true, .const (.int .i64 0)], none⟩,
                                                                ⟨some 178, .move, [.tmp 177 true], none⟩,
                                                                ⟨some 179, .loadF 0 true 19 false, [.tmp 1 false], some (178, true)⟩,
                                                                ⟨some 180, .fieldAddr 4, [.tmp 3 false], some (178, true)⟩,
                                                                ⟨some 181, .loadF 1 false 1 false, [.tmp 180 true], some (178, true)⟩,
                                                                ⟨some 182, .fieldAddr 1, [.tmp 3 false], some (178, true)⟩,
                                                                ⟨some 183, .loadF 1 false 1 false, [.tmp 182 true], some (178, true)⟩,
                                                                ⟨some 184, .call 46, [.tmp 179 true, .tmp 181 true, .tmp 183 true], some (178, true)⟩,
                                                                ⟨some 185, .pick, [.tmp 178 true, .tmp 184 true, .const (.bool false)], none⟩,
                                                                ⟨some 186, .move, [.tmp 185 true], none⟩,
                                                                ⟨some 187, .loadF 0 true 19 false, [.tmp 1 true], some (186, true)⟩,
                                                                ⟨some 188, .fieldAddr 2, [.tmp 3 true], some (186, true)⟩,
                                                                ⟨some 189, .loadF 1 false 1 false, [.tmp 188 true], some (186, true)⟩,
                                                                ⟨some 190, .lit 1 1 [.int .i64 0] [0], [.tmp 189 true], some (186, true)⟩,
                                                                ⟨some 191, .call 39, [.tmp 187 true, .tmp 190 true], some (186, true)⟩,
                                                                ⟨some 192, .pick, [.tmp 186 true, .tmp 191 true, .const (.bool false)], none⟩,
                                                                ⟨some 2, .move, [.tmp 192 true], none⟩] none [1, 3, 179, 180, 181, 182, 183, 187, 188, 189, 190])
                                                              .ret) [3]
                                                            .skip))))))))))))))))))))))))))
        (.seq
          (.region [
            ⟨some 193, .loadF 0 true 19 false, [.tmp 1 true], none⟩,
            ⟨some 194, .call 47, [.tmp 193 true], none⟩,
            ⟨some 2, .move, [.tmp 194 true], none⟩] none [])
          .ret)))) }

/-- runrig/runrigref12.named -/

def s25 : SFunc := { fid := 25, mode := .pure, nparams := 1, nboxes := 1, clr := [], results := [.tmp 2 false], body :=
  (.seq
    (.region [
      ⟨some 1, .boxF 0 6, [.tmp 0 true], none⟩,
      ⟨some 2, .move, [.const (.bool false)], none⟩] none [2])
    (.seq
      (.region [
        ⟨some 3, .move, [.const (.bool false)], none⟩,
        ⟨some 4, .move, [.const (.bool false)], none⟩,
        ⟨some 5, .move, [.const (.bool false)], none⟩,
        ⟨some 6, .move, [.const (.bool false)], none⟩] none [])
      (.seq
        (.seq
          (.region [
            ⟨some 7, .fieldAddr 0, [.tmp 1 false], none⟩,
            ⟨some 8, .loadF 0 false 1 false, [.tmp 7 true], none⟩] none [])
          (.block 0
            (.seq
              (.seq
                (.region [
                  ⟨some 10, .bin .eql, [.tmp 8 false, .const (.int .i64 1)], none⟩,
                  ⟨some 9, .move, [.tmp 10 true], none⟩] none [])
                (.cond (.tmp 9 false) []
                  .skip [9]
                  (.seq
                    (.region [
                      ⟨some 11, .bin .eql, [.tmp 8 false, .const (.int .i64 11)], none⟩,
                      ⟨some 9, .move, [.tmp 11 true], none⟩] none [])
                    (.cond (.tmp 9 false) []
                      .skip [9]
                      (.seq
                        (.region [
                          ⟨some 12, .bin .eql, [.tmp 8 false, .const (.int .i64 19)], none⟩,
                          ⟨some 9, .move, [.tmp 12 true], none⟩] none [])
                        (.cond (.tmp 9 false) []
                          .skip [9]
                          (.region [
                            ⟨some 13, .bin .eql, [.tmp 8 false, .const (.int .i64 20)], none⟩,
                            ⟨some 9, .move, [.tmp 13 true], none⟩] none [])))))))
              (.cond (.tmp 9 true) [5, 8]
                (.region [
                  ⟨some 5, .move, [.const (.bool true)], none⟩] none []) []
                (.seq
                  (.seq
                    (.region [
                      ⟨some 15, .bin .eql, [.tmp 8 false, .const (.int .i64 3)], none⟩,
                      ⟨some 14, .move, [.tmp 15 true], none⟩] none [])
                    (.cond (.tmp 14 false) []
                      .skip [14]
                      (.region [
                        ⟨some 16, .bin .eql, [.tmp 8 false, .const (.int .i64 10)], none⟩,
                        ⟨some 14, .move, [.tmp 16 true], none⟩] none [])))
                  (.cond (.tmp 14 true) [3, 8]
                    (.region [
                      ⟨some 3, .move, [.const (.bool true)], none⟩] none []) []
                    (.seq
                      (.region [
                        ⟨some 18, .bin .eql, [.tmp 8 false, .const (.int .i64 4)], none⟩,
                        ⟨some 17, .move, [.tmp 18 true], none⟩] none [])
                      (.cond (.tmp 17 true) [3, 4, 5, 8]
                        (.region [
                          ⟨some 3, .move, [.const (.bool true)], none⟩,
                          ⟨some 4, .move, [.const (.bool true)], none⟩,
                          ⟨some 5, .move, [.const (.bool true)], none⟩] none []) []
                        (.seq
                          (.seq
                            (.region [
                              ⟨some 20, .bin .eql, [.tmp 8 false, .const (.int .i64 5)], none⟩,
                              ⟨some 19, .move, [.tmp 20 true], none⟩] none [])
                            (.cond (.tmp 19 false) []
                              .skip [19]
                              (.region [
                                ⟨some 21, .bin .eql, [.tmp 8 false, .const (.int .i64 12)], none⟩,
                                ⟨some 19, .move, [.tmp 21 true], none⟩] none [])))
                          (.cond (.tmp 19 true) [3, 5, 8]
                            (.region [
                              ⟨some 3, .move, [.const (.bool true)], none⟩,
                              ⟨some 5, .move, [.const (.bool true)], none⟩] none []) []
                            (.seq
                              (.seq
                                (.region [
                                  ⟨some 23, .bin .eql, [.tmp 8 false, .const (.int .i64 6)], none⟩,
                                  ⟨some 22, .move, [.tmp 23 true], none⟩] none [])
                                (.cond (.tmp 22 false) []
                                  .skip [22]
                                  (.seq
                                    (.region [
                                      ⟨some 24, .bin .eql, [.tmp 8 false, .const (.int .i64 7)], none⟩,
                                      ⟨some 22, .move, [.tmp 24 true], none⟩] none [])
                                    (.cond (.tmp 22 false) []
                                      .skip [22]
                                      (.seq
                                        (.region [
                                          ⟨some 25, .bin .eql, [.tmp 8 false, .const (.int .i64 8)], none⟩,
                                          ⟨some 22, .move, [.tmp 25 true], none⟩] none [])
                                        (.cond (.tmp 22 false) []
                                          .skip [22]
                                          (.region [
                                            ⟨some 26, .bin .eql, [.tmp 8 false, .const (.int .i64 9)], none⟩,
                                            ⟨some 22, .move, [.tmp 26 true], none⟩] none [])))))))
                              (.cond (.tmp 22 true) [3, 4, 8]
                                (.region [
                                  ⟨some 3, .move, [.const (.bool true)], none⟩,
                                  ⟨some 4, .move, [.const (.bool true)], none⟩] none []) []
                                (.seq
                                  (.region [
                                    ⟨some 28, .bin .eql, [.tmp 8 false, .const (.int .i64 13)], none⟩,
                                    ⟨some 27, .move, [.tmp 28 true], none⟩] none [])
                                  (.cond (.tmp 27 true) [4, 6, 8]
                                    (.region [
                                      ⟨some 4, .move, [.const (.bool true)], none⟩,
                                      ⟨some 6, .move, [.const (.bool true)], none⟩] none []) []
                                    (.seq
                                      (.region [
                                        ⟨some 30, .bin .eql, [.tmp 8 false, .const (.int .i64 17)], none⟩,
                                        ⟨some 29, .move, [.tmp 30 true], none⟩] none [])
                                      (.cond (.tmp 29 true) [4, 5, 8]
                                        (.region [
                                          ⟨some 4, .move, [.const (.bool true)], none⟩,
                                          ⟨some 5, .move, [.const (.bool true)], none⟩] none []) []
                                        (.seq
                                          (.region [
                                            ⟨some 32, .bin .eql, [.tmp 8 true, .const (.int .i64 16)], none⟩,
                                            ⟨some 31, .move, [.tmp 32 true], none⟩] none [])
                                          (.cond (.tmp 31 true) [3, 4, 5, 6]
                                            (.seq
                                              (.region [
                                                ⟨some 33, .fieldAddr 1, [.tmp 1 false], none⟩,
                                                ⟨some 34, .loadF 0 false 1 false, [.tmp 33 true], none⟩,
                                                ⟨some 35, .bin .eql, [.tmp 34 true, .const (.int .i64 0)], none⟩,
                                                ⟨some 36, .move, [.tmp 35 true], none⟩,
                                                ⟨some 37, .fieldAddr 2, [.tmp 1 false], some (36, true)⟩,
                                                ⟨some 38, .loadF 0 false 1 false, [.tmp 37 true], some (36, true)⟩,
                                                ⟨some 39, .bin .eql, [.tmp 38 true, .const (.int .i64 0)], some (36, true)⟩,
                                                ⟨some 40, .pick, [.tmp 36 true, .tmp 39 true, .const (.bool false)], none⟩,
                                                ⟨some 41, .move, [.tmp 40 true], none⟩,
                                                ⟨some 42, .fieldAddr 3, [.tmp 1 false], some (41, true)⟩,
                                                ⟨some 43, .loadF 0 false 1 false, [.tmp 42 true], some (41, true)⟩,
                                                ⟨some 44, .bin .eql, [.tmp 43 true, .const (.int .i64 0)], some (41, true)⟩,
                                                ⟨some 45, .pick, [.tmp 41 true, .tmp 44 true, .const (.bool false)], none⟩,
                                                ⟨some 46, .move, [.tmp 45 true], none⟩,
                                                ⟨some 47, .fieldAddr 5, [.tmp 1 true], some (46, true)⟩,
                                                ⟨some 48, .loadF 0 false 1 false, [.tmp 47 true], some (46, true)⟩,
                                                ⟨some 49, .len .sl, [.tmp 48 true], some (46, true)⟩,
                                                ⟨some 50, .bin .eql, [.tmp 49 true, .const (.int .i64 0)], some (46, true)⟩,
                                                ⟨some 51, .pick, [.tmp 46 true, .tmp 50 true, .const (.bool false)], none⟩,
                                                ⟨some 2, .move, [.tmp 51 true], none⟩] none [1, 37, 38, 42, 43, 47, 48, 49])
                                              .ret) []
                                            .skip))))))))))))))))))
        (.seq
          (.region [
            ⟨some 52, .move, [.tmp 3 true], none⟩,
            ⟨some 53, .move, [.tmp 52 true], none⟩,
            ⟨some 54, .fieldAddr 2, [.tmp 1 false], some (53, false)⟩,
            ⟨some 55, .loadF 0 false 1 false, [.tmp 54 true], some (53, false)⟩,
            ⟨some 56, .bin .eql, [.tmp 55 true, .const (.int .i64 0)], some (53, false)⟩,
            ⟨some 57, .pick, [.tmp 53 true, .const (.bool true), .tmp 56 true], none⟩,
            ⟨some 58, .move, [.tmp 57 true], none⟩,
            ⟨some 59, .move, [.tmp 4 true], some (58, true)⟩,
            ⟨some 60, .move, [.tmp 59 true], some (58, true)⟩,
            ⟨some 61, .fieldAddr 3, [.tmp 1 false], some (60, false)⟩,
            ⟨some 62, .loadF 0 false 1 false, [.tmp 61 true], some (60, false)⟩,
            ⟨some 63, .bin .eql, [.tmp 62 true, .const (.int .i64 0)], some (60, false)⟩,
            ⟨some 64, .pick, [.tmp 60 true, .const (.bool true), .tmp 63 true], some (58, true)⟩,
            ⟨some 65, .pick, [.tmp 58 true, .tmp 64 true, .const (.bool false)], none⟩,
            ⟨some 66, .move, [.tmp 65 true], none⟩,
            ⟨some 67, .move, [.tmp 5 true], some (66, true)⟩,
            ⟨some 68, .move, [.tmp 67 true], some (66, true)⟩,
            ⟨some 69, .fieldAddr 4, [.tmp 1 false], some (68, false)⟩,
            ⟨some 70, .loadF 0 false 1 false, [.tmp 69 true], some (68, false)⟩,
            ⟨some 71, .bin .eql, [.tmp 70 true, .const (.int .i64 0)], some (68, false)⟩,
            ⟨some 72, .pick, [.tmp 68 true, .const (.bool true), .tmp 71 true], some (66, true)⟩,
            ⟨some 73, .pick, [.tmp 66 true, .tmp 72 true, .const (.bool false)], none⟩,
            ⟨some 74, .move, [.tmp 73 true], none⟩,
            ⟨some 75, .move, [.tmp 6 true], some (74, true)⟩,
            ⟨some 76, .move, [.tmp 75 true], some (74, true)⟩,
            ⟨some 77, .fieldAddr 5, [.tmp 1 true], some (76, false)⟩,
            ⟨some 78, .loadF 0 false 1 false, [.tmp 77 true], some (76, false)⟩,
            ⟨some 79, .len .sl, [.tmp 78 true], some (76, false)⟩,
            ⟨some 80, .bin .eql, [.tmp 79 true, .const (.int .i64 0)], some (76, false)⟩,
            ⟨some 81, .pick, [.tmp 76 true, .const (.bool true), .tmp 80 true], some (74, true)⟩,
            ⟨some 82, .pick, [.tmp 74 true, .tmp 81 true, .const (.bool false)], none⟩,
            ⟨some 2, .move, [.tmp 82 true], none⟩] none [1, 4, 5, 6, 54, 55, 59, 60, 61, 62, 63, 67, 68, 69, 70, 71, 75, 76, 77, 78, 79, 80])
          .ret)))) }

/-- runrig/runrigref12.of -/

def s26 : SFunc := { fid := 26, mode := .pure, nparams := 2, nboxes := 2, clr := [], results := [.box 4 1 3 true], body :=
  (.seq
    (.region [
      ⟨some 2, .boxF 0 7, [.tmp 0 true], none⟩,
      ⟨some 4, .allocF 1 [.int .i64 0, .int .i64 0, .int .i64 0], [], none⟩] none [])
    (.seq
      (.seq
        (.region [
          ⟨some 5, .move, [.tmp 1 false], none⟩,
          ⟨some 6, .bin .lss, [.tmp 5 true, .const (.int .i64 0)], none⟩,
          ⟨some 7, .move, [.tmp 6 true], none⟩,
          ⟨some 8, .move, [.tmp 1 false], some (7, false)⟩,
          ⟨some 9, .fieldAddr 1, [.tmp 2 false], some (7, false)⟩,
          ⟨some 10, .loadF 0 false 1 false, [.tmp 9 true], some (7, false)⟩,
          ⟨some 11, .len .sl, [.tmp 10 true], some (7, false)⟩,
          ⟨some 12, .bin .geq, [.tmp 8 true, .tmp 11 true], some (7, false)⟩,
          ⟨some 13, .pick, [.tmp 7 true, .const (.bool true), .tmp 12 true], none⟩] none [8, 9, 10, 11])
        (.cond (.tmp 13 true) [1, 2]
          (.seq
            (.region [
              ⟨some 14, .build [.int .i64 0, .int .i64 0, .int .i64 0] [], [], none⟩,
              ⟨none, .storeF 1 3, [.tmp 4 false, .tmp 14 true], none⟩] none [])
            .ret) []
          .skip))
      (.seq
        (.region [
          ⟨some 15, .fieldAddr 1, [.tmp 2 true], none⟩,
          ⟨some 16, .loadF 0 false 1 false, [.tmp 15 true], none⟩,
          ⟨some 17, .move, [.tmp 1 true], none⟩,
          ⟨some 18, .indexAddr 3, [.tmp 16 true, .tmp 17 true], none⟩,
          ⟨some 19, .load true 3 false, [.tmp 18 true], none⟩,
          ⟨none, .storeF 1 3, [.tmp 4 false, .tmp 19 true], none⟩] none [])
        .ret))) }

/-- runrig/runrigref12.tint -/

def s27 : SFunc := { fid := 27, mode := .pure, nparams := 0, nboxes := 1, clr := [], results := [.box 0 0 3 true], body :=
  (.seq
    (.region [
      ⟨some 0, .allocF 0 [.int .i64 0, .int .i64 0, .int .i64 0], [], none⟩] none [])
    (.seq
      (.region [
        ⟨some 1, .build [.int .i64 0, .int .i64 0, .int .i64 0] [(0, 1)], [.const (.int .i64 1)], none⟩,
        ⟨none, .storeF 0 3, [.tmp 0 false, .tmp 1 true], none⟩] none [])
      .ret)) }

/-- runrig/runrigref12.tbool -/

def s28 : SFunc := { fid := 28, mode := .pure, nparams := 0, nboxes := 1, clr := [], results := [.box 0 0 3 true], body :=
  (.seq
    (.region [
      ⟨some 0, .allocF 0 [.int .i64 0, .int .i64 0, .int .i64 0], [], none⟩] none [])
    (.seq
      (.region [
        ⟨some 1, .build [.int .i64 0, .int .i64 0, .int .i64 0] [(0, 1)], [.const (.int .i64 2)], none⟩,
        ⟨none, .storeF 0 3, [.tmp 0 false, .tmp 1 true], none⟩] none [])
      .ret)) }

/-- runrig/runrigref12.binary -/

def s29 : SFunc := { fid := 29, mode := .pure, nparams := 4, nboxes := 3, clr := [], results := [.tmp 8 false], body :=
  (.seq
    (.region [
      ⟨some 5, .boxF 0 3, [.tmp 1 true], none⟩,
      ⟨some 6, .boxF 1 3, [.tmp 2 true], none⟩,
      ⟨some 7, .boxF 2 3, [.tmp 3 true], none⟩,
      ⟨some 8, .move, [.const (.bool false)], none⟩] none [8])
    (.seq
      (.seq
        (.region [
          ⟨some 9, .move, [.tmp 0 true], none⟩] none [])
        (.block 0
          (.seq
            (.seq
              (.region [
                ⟨some 11, .bin .eql, [.tmp 9 false, .const (.int .i64 14)], none⟩,
                ⟨some 10, .move, [.tmp 11 true], none⟩] none [])
              (.cond (.tmp 10 false) []
                .skip [10]
                (.seq
                  (.region [
                    ⟨some 12, .bin .eql, [.tmp 9 false, .const (.int .i64 15)], none⟩,
                    ⟨some 10, .move, [.tmp 12 true], none⟩] none [])
                  (.cond (.tmp 10 false) []
                    .skip [10]
                    (.seq
                      (.region [
                        ⟨some 13, .bin .eql, [.tmp 9 false, .const (.int .i64 16)], none⟩,
                        ⟨some 10, .move, [.tmp 13 true], none⟩] none [])
                      (.cond (.tmp 10 false) []
                        .skip [10]
                        (.seq
                          (.region [
                            ⟨some 14, .bin .eql, [.tmp 9 false, .const (.int .i64 17)], none⟩,
                            ⟨some 10, .move, [.tmp 14 true], none⟩] none [])
                          (.cond (.tmp 10 false) []
                            .skip [10]
                            (.region [
                              ⟨some 15, .bin .eql, [.tmp 9 false, .const (.int .i64 18)], none⟩,
                              ⟨some 10, .move, [.tmp 15 true], none⟩] none [])))))))))
            (.cond (.tmp 10 true) [9]
              (.seq
                (.region [
                  ⟨some 16, .loadF 0 true 3 false, [.tmp 5 true], none⟩,
                  ⟨some 17, .call 27, [], none⟩,
                  ⟨some 18, .eqv (.flat [.int, .int, .int]) false, [.tmp 16 true, .tmp 17 true], none⟩,
                  ⟨some 19, .move, [.tmp 18 true], none⟩,
                  ⟨some 20, .loadF 1 true 3 false, [.tmp 6 true], some (19, true)⟩,
                  ⟨some 21, .call 27, [], some (19, true)⟩,
                  ⟨some 22, .eqv (.flat [.int, .int, .int]) false, [.tmp 20 true, .tmp 21 true], some (19, true)⟩,
                  ⟨some 23, .pick, [.tmp 19 false, .tmp 22 true, .const (.bool false)], none⟩,
                  ⟨some 24, .move, [.tmp 23 true], none⟩,
                  ⟨some 25, .loadF 2 true 3 false, [.tmp 7 true], some (24, true)⟩,
                  ⟨some 26, .call 27, [], some (24, true)⟩,
                  ⟨some 27, .eqv (.flat [.int, .int, .int]) false, [.tmp 25 true, .tmp 26 true], some (24, true)⟩,
                  ⟨some 28, .pick, [.tmp 24 false, .tmp 27 true, .const (.bool false)], none⟩,
                  ⟨some 8, .move, [.tmp 28 true], none⟩] (some []) [6, 7, 19, 20, 21, 24, 25, 26])
                .ret) []
              (.seq
                (.seq
                  (.region [
                    ⟨some 30, .bin .eql, [.tmp 9 false, .const (.int .i64 19)], none⟩,
                    ⟨some 29, .move, [.tmp 30 true], none⟩] none [])
                  (.cond (.tmp 29 false) []
                    .skip [29]
                    (.region [
                      ⟨some 31, .bin .eql, [.tmp 9 false, .const (.int .i64 20)], none⟩,
                      ⟨some 29, .move, [.tmp 31 true], none⟩] none [])))
                (.cond (.tmp 29 true) [9]
                  (.seq
                    (.region [
                      ⟨some 32, .loadF 0 true 3 false, [.tmp 5 true], none⟩,
                      ⟨some 33, .call 28, [], none⟩,
                      ⟨some 34, .eqv (.flat [.int, .int, .int]) false, [.tmp 32 true, .tmp 33 true], none⟩,
                      ⟨some 35, .move, [.tmp 34 true], none⟩,
                      ⟨some 36, .loadF 1 true 3 false, [.tmp 6 true], some (35, true)⟩,
                      ⟨some 37, .call 27, [], some (35, true)⟩,
                      ⟨some 38, .eqv (.flat [.int, .int, .int]) false, [.tmp 36 true, .tmp 37 true], some (35, true)⟩,
                      ⟨some 39, .pick, [.tmp 35 false, .tmp 38 true, .const (.bool false)], none⟩,
                      ⟨some 40, .move, [.tmp 39 true], none⟩,
                      ⟨some 41, .loadF 2 true 3 false, [.tmp 7 true], some (40, true)⟩,
                      ⟨some 42, .call 27, [], some (40, true)⟩,
                      ⟨some 43, .eqv (.flat [.int, .int, .int]) false, [.tmp 41 true, .tmp 42 true], some (40, true)⟩,
                      ⟨some 44, .pick, [.tmp 40 false, .tmp 43 true, .const (.bool false)], none⟩,
                      ⟨some 8, .move, [.tmp 44 true], none⟩] (some []) [6, 7, 35, 36, 37, 40, 41, 42])
                    .ret) []
                  (.seq
                    (.seq
                      (.region [
                        ⟨some 46, .bin .eql, [.tmp 9 false, .const (.int .i64 21)], none⟩,
                        ⟨some 45, .move, [.tmp 46 true], none⟩] none [])
                      (.cond (.tmp 45 false) []
                        .skip [45]
                        (.region [
                          ⟨some 47, .bin .eql, [.tmp 9 false, .const (.int .i64 22)], none⟩,
                          ⟨some 45, .move, [.tmp 47 true], none⟩] none [])))
                    (.cond (.tmp 45 true) [9]
                      (.seq
                        (.region [
                          ⟨some 48, .loadF 0 true 3 false, [.tmp 5 true], none⟩,
                          ⟨some 49, .call 28, [], none⟩,
                          ⟨some 50, .eqv (.flat [.int, .int, .int]) false, [.tmp 48 true, .tmp 49 true], none⟩,
                          ⟨some 51, .move, [.tmp 50 true], none⟩,
                          ⟨some 52, .loadF 1 true 3 false, [.tmp 6 false], some (51, true)⟩,
                          ⟨some 53, .build [.int .i64 0, .int .i64 0, .int .i64 0] [], [], some (51, true)⟩,
                          ⟨some 54, .eqv (.flat [.int, .int, .int]) true, [.tmp 52 true, .tmp 53 true], some (51, true)⟩,
                          ⟨some 55, .pick, [.tmp 51 false, .tmp 54 true, .const (.bool false)], none⟩,
                          ⟨some 56, .move, [.tmp 55 true], none⟩,
                          ⟨some 57, .loadF 1 true 3 false, [.tmp 6 false], some (56, true)⟩,
                          ⟨some 58, .loadF 2 true 3 false, [.tmp 7 true], some (56, true)⟩,
                          ⟨some 59, .eqv (.flat [.int, .int, .int]) false, [.tmp 57 true, .tmp 58 true], some (56, true)⟩,
                          ⟨some 60, .pick, [.tmp 56 false, .tmp 59 true, .const (.bool false)], none⟩,
                          ⟨some 8, .move, [.tmp 60 true], none⟩] (some []) [6, 7, 51, 52, 53, 56, 57, 58])
                        .ret) []
                      (.seq
                        (.seq
                          (.region [
                            ⟨some 62, .bin .eql, [.tmp 9 false, .const (.int .i64 23)], none⟩,
                            ⟨some 61, .move, [.tmp 62 true], none⟩] none [])
                          (.cond (.tmp 61 false) [9]
                            .skip [61]
                            (.region [
                              ⟨some 63, .bin .eql, [.tmp 9 true, .const (.int .i64 24)], none⟩,
                              ⟨some 61, .move, [.tmp 63 true], none⟩] none [])))
                        (.cond (.tmp 61 true) []
                          (.seq
                            (.region [
                              ⟨some 64, .loadF 0 true 3 false, [.tmp 5 true], none⟩,
                              ⟨some 65, .call 28, [], none⟩,
                              ⟨some 66, .eqv (.flat [.int, .int, .int]) false, [.tmp 64 true, .tmp 65 true], none⟩,
                              ⟨some 67, .move, [.tmp 66 true], none⟩,
                              ⟨some 68, .loadF 1 true 3 false, [.tmp 6 true], some (67, true)⟩,
                              ⟨some 69, .call 28, [], some (67, true)⟩,
                              ⟨some 70, .eqv (.flat [.int, .int, .int]) false, [.tmp 68 true, .tmp 69 true], some (67, true)⟩,
                              ⟨some 71, .pick, [.tmp 67 false, .tmp 70 true, .const (.bool false)], none⟩,
                              ⟨some 72, .move, [.tmp 71 true], none⟩,
                              ⟨some 73, .loadF 2 true 3 false, [.tmp 7 true], some (72, true)⟩,
                              ⟨some 74, .call 28, [], some (72, true)⟩,
                              ⟨some 75, .eqv (.flat [.int, .int, .int]) false, [.tmp 73 true, .tmp 74 true], some (72, true)⟩,
                              ⟨some 76, .pick, [.tmp 72 false, .tmp 75 true, .const (.bool false)], none⟩,
                              ⟨some 8, .move, [.tmp 76 true], none⟩] (some []) [6, 7, 67, 68, 69, 72, 73, 74])
                            .ret) [5, 6, 7]
                          .skip))))))))))
      (.seq
        (.region [
          ⟨some 8, .move, [.const (.bool false)], none⟩] none [])
        .ret))) }

/-- runrig/runrigref12.field -/

def s30 : SFunc := { fid := 30, mode := .pure, nparams := 3, nboxes := 3, clr := [], results := [.box 6 2 3 true], body :=
  (.seq
    (.region [
      ⟨some 3, .boxF 0 5, [.tmp 0 true], none⟩,
      ⟨some 4, .boxF 1 3, [.tmp 1 true], none⟩,
      ⟨some 6, .allocF 2 [.int .i64 0, .int .i64 0, .int .i64 0], [], none⟩] none [])
    (.seq
      (.seq
        (.region [
          ⟨some 7, .fieldAddr 0, [.tmp 4 false], none⟩,
          ⟨some 8, .loadF 1 false 1 false, [.tmp 7 true], none⟩,
          ⟨some 9, .bin .neq, [.tmp 8 true, .const (.int .i64 3)], none⟩,
          ⟨some 10, .move, [.tmp 9 true], none⟩,
          ⟨some 11, .fieldAddr 2, [.tmp 4 false], some (10, false)⟩,
          ⟨some 12, .loadF 1 false 1 false, [.tmp 11 true], some (10, false)⟩,
          ⟨some 13, .bin .neq, [.tmp 12 true, .const (.int .i64 0)], some (10, false)⟩,
          ⟨some 14, .pick, [.tmp 10 true, .const (.bool true), .tmp 13 true], none⟩,
          ⟨some 15, .move, [.tmp 14 true], none⟩,
          ⟨some 16, .fieldAddr 1, [.tmp 4 false], some (15, false)⟩,
          ⟨some 17, .loadF 1 false 1 false, [.tmp 16 true], some (15, false)⟩,
          ⟨some 18, .bin .lss, [.tmp 17 true, .const (.int .i64 0)], some (15, false)⟩,
          ⟨some 19, .pick, [.tmp 15 true, .const (.bool true), .tmp 18 true], none⟩,
          ⟨some 20, .move, [.tmp 19 true], none⟩,
          ⟨some 21, .fieldAddr 1, [.tmp 4 false], some (20, false)⟩,
          ⟨some 22, .loadF 1 false 1 false, [.tmp 21 true], some (20, false)⟩,
          ⟨some 23, .fieldAddr 0, [.tmp 3 false], some (20, false)⟩,
          ⟨some 24, .loadF 0 false 1 false, [.tmp 23 true], some (20, false)⟩,
          ⟨some 25, .len .sl, [.tmp 24 true], some (20, false)⟩,
          ⟨some 26, .bin .geq, [.tmp 22 true, .tmp 25 true], some (20, false)⟩,
          ⟨some 27, .pick, [.tmp 20 true, .const (.bool true), .tmp 26 true], none⟩,
          ⟨some 28, .move, [.tmp 27 true], none⟩,
          ⟨some 29, .move, [.tmp 2 false], some (28, false)⟩,
          ⟨some 30, .bin .lss, [.tmp 29 true, .const (.int .i64 0)], some (28, false)⟩,
          ⟨some 31, .pick, [.tmp 28 true, .const (.bool true), .tmp 30 true], none⟩,
          ⟨some 32, .move, [.tmp 31 true], none⟩,
          ⟨some 33, .move, [.tmp 2 false], some (32, false)⟩,
          ⟨some 34, .fieldAddr 0, [.tmp 3 false], some (32, false)⟩,
          ⟨some 35, .loadF 0 false 1 false, [.tmp 34 true], some (32, false)⟩,
          ⟨some 36, .fieldAddr 1, [.tmp 4 false], some (32, false)⟩,
          ⟨some 37, .loadF 1 false 1 false, [.tmp 36 true], some (32, false)⟩,
          ⟨some 38, .indexAddr 2, [.tmp 35 true, .tmp 37 true], some (32, false)⟩,
          ⟨some 39, .fieldAddr 1, [.tmp 38 true], some (32, false)⟩,
          ⟨some 40, .load false 1 false, [.tmp 39 true], some (32, false)⟩,
          ⟨some 41, .len .sl, [.tmp 40 true], some (32, false)⟩,
          ⟨some 42, .bin .geq, [.tmp 33 true, .tmp 41 true], some (32, false)⟩,
          ⟨some 43, .pick, [.tmp 32 true, .const (.bool true), .tmp 42 true], none⟩] none [11, 12, 16, 17, 21, 22, 23, 24, 25, 29, 33, 34, 35, 36, 37, 38, 39, 40, 41])
        (.cond (.tmp 43 true) [2, 3, 4]
          (.seq
            (.region [
              ⟨some 44, .build [.int .i64 0, .int .i64 0, .int .i64 0] [], [], none⟩,
              ⟨none, .storeF 2 3, [.tmp 6 false, .tmp 44 true], none⟩] none [])
            .ret) []
          .skip))
      (.seq
        (.region [
          ⟨some 45, .fieldAddr 0, [.tmp 3 true], none⟩,
          ⟨some 46, .loadF 0 false 1 false, [.tmp 45 true], none⟩,
          ⟨some 47, .fieldAddr 1, [.tmp 4 true], none⟩,
          ⟨some 48, .loadF 1 false 1 false, [.tmp 47 true], none⟩,
          ⟨some 49, .indexAddr 2, [.tmp 46 true, .tmp 48 true], none⟩,
          ⟨some 50, .fieldAddr 1, [.tmp 49 true], none⟩,
          ⟨some 51, .load false 1 false, [.tmp 50 true], none⟩,
          ⟨some 52, .move, [.tmp 2 true], none⟩,
          ⟨some 53, .indexAddr 4, [.tmp 51 true, .tmp 52 true], none⟩,
          ⟨some 54, .fieldAddr 1, [.tmp 53 true], none⟩,
          ⟨some 55, .load true 3 false, [.tmp 54 true], none⟩,
          ⟨none, .storeF 2 3, [.tmp 6 false, .tmp 55 true], none⟩] none [])
        .ret))) }

/-- runrig/runrigref12.less -/

def s31 : SFunc := { fid := 31, mode := .pure, nparams := 1, nboxes := 2, clr := [], results := [.box 2 1 3 true], body :=
  (.seq
    (.region [
      ⟨some 1, .boxF 0 3, [.tmp 0 true], none⟩,
      ⟨some 2, .allocF 1 [.int .i64 0, .int .i64 0, .int .i64 0], [], none⟩] none [])
    (.seq
      (.region [
        ⟨some 3, .fieldAddr 0, [.tmp 1 false], none⟩,
        ⟨some 4, .loadF 0 false 1 false, [.tmp 3 true], none⟩,
        ⟨some 5, .fieldAddr 1, [.tmp 1 false], none⟩,
        ⟨some 6, .loadF 0 false 1 false, [.tmp 5 true], none⟩,
        ⟨some 7, .fieldAddr 2, [.tmp 1 true], none⟩,
        ⟨some 8, .loadF 0 false 1 false, [.tmp 7 true], none⟩,
        ⟨some 9, .bin .sub, [.tmp 8 true, .const (.int .i64 1)], none⟩,
        ⟨some 10, .build [.int .i64 0, .int .i64 0, .int .i64 0] [(0, 1), (1, 1), (2, 1)], [.tmp 4 true, .tmp 6 true, .tmp 9 true], none⟩,
        ⟨none, .storeF 1 3, [.tmp 2 false, .tmp 10 true], none⟩] none [])
      .ret)) }

/-- runrig/runrigref12.allocates -/

def s32 : SFunc := { fid := 32, mode := .pure, nparams := 4, nboxes := 2, clr := [], results := [.tmp 8 false], body :=
  (.seq
    (.region [
      ⟨some 4, .boxF 0 5, [.tmp 0 true], none⟩,
      ⟨some 7, .boxF 1 3, [.tmp 3 true], none⟩,
      ⟨some 8, .move, [.const (.bool false)], none⟩] none [8])
    (.seq
      (.region [
        ⟨some 9, .move, [.tmp 2 false], none⟩,
        ⟨some 10, .bin .geq, [.tmp 9 true, .const (.int .i64 0)], none⟩,
        ⟨some 11, .move, [.tmp 10 true], none⟩,
        ⟨some 12, .move, [.tmp 2 false], some (11, true)⟩,
        ⟨some 13, .fieldAddr 3, [.tmp 4 false], some (11, true)⟩,
        ⟨some 14, .loadF 0 false 1 false, [.tmp 13 true], some (11, true)⟩,
        ⟨some 15, .len .sl, [.tmp 14 true], some (11, true)⟩,
        ⟨some 16, .bin .lss, [.tmp 12 true, .tmp 15 true], some (11, true)⟩,
        ⟨some 17, .pick, [.tmp 11 false, .tmp 16 true, .const (.bool false)], none⟩,
        ⟨some 18, .move, [.tmp 17 true], none⟩,
        ⟨some 19, .fieldAddr 3, [.tmp 4 false], some (18, true)⟩,
        ⟨some 20, .loadF 0 false 1 false, [.tmp 19 true], some (18, true)⟩,
        ⟨some 21, .move, [.tmp 2 false], some (18, true)⟩,
        ⟨some 22, .indexAddr 4, [.tmp 20 true, .tmp 21 true], some (18, true)⟩,
        ⟨some 23, .fieldAddr 0, [.tmp 22 true], some (18, true)⟩,
        ⟨some 24, .load false 1 false, [.tmp 23 true], some (18, true)⟩,
        ⟨some 25, .move, [.tmp 1 true], some (18, true)⟩,
        ⟨some 26, .bin .eql, [.tmp 24 true, .tmp 25 true], some (18, true)⟩,
        ⟨some 27, .pick, [.tmp 18 false, .tmp 26 true, .const (.bool false)], none⟩,
        ⟨some 28, .move, [.tmp 27 true], none⟩,
        ⟨some 29, .fieldAddr 3, [.tmp 4 false], some (28, true)⟩,
        ⟨some 30, .loadF 0 false 1 false, [.tmp 29 true], some (28, true)⟩,
        ⟨some 31, .move, [.tmp 2 false], some (28, true)⟩,
        ⟨some 32, .indexAddr 4, [.tmp 30 true, .tmp 31 true], some (28, true)⟩,
        ⟨some 33, .fieldAddr 1, [.tmp 32 true], some (28, true)⟩,
        ⟨some 34, .load true 3 false, [.tmp 33 true], some (28, true)⟩,
        ⟨some 35, .loadF 1 true 3 false, [.tmp 7 true], some (28, true)⟩,
        ⟨some 36, .eqv (.flat [.int, .int, .int]) false, [.tmp 34 true, .tmp 35 true], some (28, true)⟩,
        ⟨some 37, .pick, [.tmp 28 false, .tmp 36 true, .const (.bool false)], none⟩,
        ⟨some 8, .move, [.tmp 37 true], none⟩] (some []) [1, 2, 4, 7, 11, 12, 13, 14, 15, 18, 19, 20, 21, 22, 23, 24, 25, 28, 29, 30, 31, 32, 33, 34, 35])
      .ret)) }

/-- runrig/runrigref12.calls -/
def s33_l0 : SCode :=
  (.seq
    (.seq
      (.region [
        ⟨some 47, .move, [.tmp 8 false], none⟩,
        ⟨some 48, .fieldAddr 5, [.tmp 5 false], none⟩,
        ⟨some 49, .loadF 2 false 1 false, [.tmp 48 true], none⟩,
        ⟨some 50, .len .sl, [.tmp 49 true], none⟩,
        ⟨some 51, .bin .lss, [.tmp 47 true, .tmp 50 true], none⟩] none [])
      (.cond (.tmp 51 true) []
        .skip [8]
        (.exit 0)))
    (.seq
      (.block 1
        (.seq
          (.region [
            ⟨some 54, .loadF 1 true 7 false, [.tmp 4 false], none⟩,
            ⟨some 55, .fieldAddr 5, [.tmp 5 false], none⟩,
            ⟨some 56, .loadF 2 false 1 false, [.tmp 55 true], none⟩,
            ⟨some 57, .move, [.tmp 8 false], none⟩,
            ⟨some 58, .indexAddr 1, [.tmp 56 true, .tmp 57 true], none⟩,
            ⟨some 59, .load false 1 false, [.tmp 58 true], none⟩,
            ⟨some 60, .call 26, [.tmp 54 true, .tmp 59 true], none⟩,
            ⟨some 9, .allocF 4 [.int .i64 0, .int .i64 0, .int .i64 0], [], none⟩,
            ⟨none, .storeF 4 3, [.tmp 9 false, .tmp 60 true], none⟩] (some []) [])
          (.seq
            (.region [
              ⟨some 61, .loadF 4 true 3 false, [.tmp 9 false], none⟩,
              ⟨some 62, .build [.int .i64 0, .int .i64 0, .int .i64 0] [], [], none⟩,
              ⟨some 63, .eqv (.flat [.int, .int, .int]) false, [.tmp 61 true, .tmp 62 true], none⟩,
              ⟨some 64, .move, [.tmp 63 true], none⟩,
              ⟨some 65, .loadF 4 true 3 false, [.tmp 9 false], some (64, false)⟩,
              ⟨some 66, .fieldAddr 1, [.tmp 7 false], some (64, false)⟩,
              ⟨some 67, .loadF 3 false 1 false, [.tmp 66 true], some (64, false)⟩,
              ⟨some 68, .move, [.tmp 8 false], some (64, false)⟩,
              ⟨some 69, .indexAddr 3, [.tmp 67 true, .tmp 68 true], some (64, false)⟩,
              ⟨some 70, .load true 3 false, [.tmp 69 true], some (64, false)⟩,
              ⟨some 71, .eqv (.flat [.int, .int, .int]) true, [.tmp 65 true, .tmp 70 true], some (64, false)⟩,
              ⟨some 72, .pick, [.tmp 64 false, .const (.bool true), .tmp 71 true], none⟩] (some []) [9, 64, 65, 66, 67, 68, 69, 70])
            (.cond (.tmp 72 true) [4, 5, 7, 8]
              (.seq
                (.region [
                  ⟨some 6, .move, [.const (.bool false)], none⟩] none [])
                .ret) []
              .skip))))
      (.region [
        ⟨some 52, .move, [.tmp 8 true], none⟩,
        ⟨some 53, .bin .add, [.tmp 52 true, .const (.int .i64 1)], none⟩,
        ⟨some 8, .move, [.tmp 53 true], none⟩] none [])))
def s33 : SFunc := { fid := 33, mode := .pure, nparams := 3, nboxes := 6, clr := [], results := [.tmp 6 false], body :=
  (.seq
    (.region [
      ⟨some 3, .boxF 0 5, [.tmp 0 true], none⟩,
      ⟨some 4, .boxF 1 7, [.tmp 1 true], none⟩,
      ⟨some 5, .boxF 2 6, [.tmp 2 true], none⟩,
      ⟨some 6, .move, [.const (.bool false)], none⟩] none [6])
    (.seq
      (.seq
        (.region [
          ⟨some 11, .fieldAddr 3, [.tmp 5 false], none⟩,
          ⟨some 12, .loadF 2 false 1 false, [.tmp 11 true], none⟩,
          ⟨some 13, .bin .lss, [.tmp 12 true, .const (.int .i64 0)], none⟩,
          ⟨some 14, .move, [.tmp 13 true], none⟩,
          ⟨some 15, .fieldAddr 3, [.tmp 5 false], some (14, false)⟩,
          ⟨some 16, .loadF 2 false 1 false, [.tmp 15 true], some (14, false)⟩,
          ⟨some 17, .fieldAddr 2, [.tmp 3 false], some (14, false)⟩,
          ⟨some 18, .loadF 0 false 1 false, [.tmp 17 true], some (14, false)⟩,
          ⟨some 19, .len .sl, [.tmp 18 true], some (14, false)⟩,
          ⟨some 20, .bin .geq, [.tmp 16 true, .tmp 19 true], some (14, false)⟩,
          ⟨some 21, .pick, [.tmp 14 true, .const (.bool true), .tmp 20 true], none⟩] none [15, 16, 17, 18, 19])
        (.cond (.tmp 21 true) [3, 4, 5]
          (.seq
            (.region [
              ⟨some 6, .move, [.const (.bool false)], none⟩] none [])
            .ret) []
          .skip))
      (.seq
        (.region [
          ⟨some 22, .fieldAddr 2, [.tmp 3 true], none⟩,
          ⟨some 23, .loadF 0 false 1 false, [.tmp 22 true], none⟩,
          ⟨some 24, .fieldAddr 3, [.tmp 5 false], none⟩,
          ⟨some 25, .loadF 2 false 1 false, [.tmp 24 true], none⟩,
          ⟨some 26, .indexAddr 7, [.tmp 23 true, .tmp 25 true], none⟩,
          ⟨some 27, .load true 7 false, [.tmp 26 true], none⟩,
          ⟨some 7, .allocF 3 [.int .i64 0, .nilSl, .bool false, .int .i64 0, .int .i64 0, .int .i64 0, .nilSl], [], none⟩,
          ⟨none, .storeF 3 7, [.tmp 7 false, .tmp 27 true], none⟩] none [])
        (.seq
          (.seq
            (.region [
              ⟨some 28, .fieldAddr 0, [.tmp 7 false], none⟩,
              ⟨some 29, .loadF 3 false 1 false, [.tmp 28 true], none⟩,
              ⟨some 30, .bin .lss, [.tmp 29 true, .const (.int .i64 0)], none⟩,
              ⟨some 31, .move, [.tmp 30 true], none⟩,
              ⟨some 32, .fieldAddr 0, [.tmp 7 false], some (31, false)⟩,
              ⟨some 33, .loadF 3 false 1 false, [.tmp 32 true], some (31, false)⟩,
              ⟨some 34, .fieldAddr 1, [.tmp 7 false], some (31, false)⟩,
              ⟨some 35, .loadF 3 false 1 false, [.tmp 34 true], some (31, false)⟩,
              ⟨some 36, .len .sl, [.tmp 35 true], some (31, false)⟩,
              ⟨some 37, .bin .gtr, [.tmp 33 true, .tmp 36 true], some (31, false)⟩,
              ⟨some 38, .pick, [.tmp 31 true, .const (.bool true), .tmp 37 true], none⟩,
              ⟨some 39, .move, [.tmp 38 true], none⟩,
              ⟨some 40, .fieldAddr 5, [.tmp 5 false], some (39, false)⟩,
              ⟨some 41, .loadF 2 false 1 false, [.tmp 40 true], some (39, false)⟩,
              ⟨some 42, .len .sl, [.tmp 41 true], some (39, false)⟩,
              ⟨some 43, .fieldAddr 0, [.tmp 7 false], some (39, false)⟩,
              ⟨some 44, .loadF 3 false 1 false, [.tmp 43 true], some (39, false)⟩,
              ⟨some 45, .bin .neq, [.tmp 42 true, .tmp 44 true], some (39, false)⟩,
              ⟨some 46, .pick, [.tmp 39 true, .const (.bool true), .tmp 45 true], none⟩] none [32, 33, 34, 35, 36, 40, 41, 42, 43, 44])
            (.cond (.tmp 46 true) [4, 5, 7]
              (.seq
                (.region [
                  ⟨some 6, .move, [.const (.bool false)], none⟩] none [])
                .ret) []
              .skip))
          (.seq
            (.seq
              (.region [
                ⟨some 8, .move, [.const (.int .i64 0)], none⟩] none [])
              (.block 0
                (.loop s33_l0)))
            (.seq
              (.seq
                (.region [
                  ⟨some 73, .fieldAddr 1, [.tmp 5 false], none⟩,
                  ⟨some 74, .loadF 2 false 1 false, [.tmp 73 true], none⟩,
                  ⟨some 75, .bin .eql, [.tmp 74 true, .const (.int .i64 (-1))], none⟩] none [])
                (.cond (.tmp 75 true) [4, 5, 7]
                  (.seq
                    (.region [
                      ⟨some 6, .move, [.const (.bool true)], none⟩] none [])
                    .ret) []
                  .skip))
              (.seq
                (.region [
                  ⟨some 76, .loadF 1 true 7 false, [.tmp 4 true], none⟩,
                  ⟨some 77, .fieldAddr 1, [.tmp 5 true], none⟩,
                  ⟨some 78, .loadF 2 false 1 false, [.tmp 77 true], none⟩,
                  ⟨some 79, .call 26, [.tmp 76 true, .tmp 78 true], none⟩,
                  ⟨some 10, .allocF 5 [.int .i64 0, .int .i64 0, .int .i64 0], [], none⟩,
                  ⟨none, .storeF 5 3, [.tmp 10 false, .tmp 79 true], none⟩] none [])
                (.seq
                  (.region [
                    ⟨some 80, .fieldAddr 2, [.tmp 7 false], none⟩,
                    ⟨some 81, .loadF 3 false 1 false, [.tmp 80 true], none⟩,
                    ⟨some 82, .move, [.tmp 81 true], none⟩,
                    ⟨some 83, .loadF 5 true 3 false, [.tmp 10 false], some (82, true)⟩,
                    ⟨some 84, .build [.int .i64 0, .int .i64 0, .int .i64 0] [], [], some (82, true)⟩,
                    ⟨some 85, .eqv (.flat [.int, .int, .int]) true, [.tmp 83 true, .tmp 84 true], some (82, true)⟩,
                    ⟨some 86, .pick, [.tmp 82 true, .tmp 85 true, .const (.bool false)], none⟩,
                    ⟨some 87, .move, [.tmp 86 true], none⟩,
                    ⟨some 88, .loadF 5 true 3 false, [.tmp 10 true], some (87, true)⟩,
                    ⟨some 89, .fieldAddr 3, [.tmp 7 true], some (87, true)⟩,
                    ⟨some 90, .loadF 3 true 3 false, [.tmp 89 true], some (87, true)⟩,
                    ⟨some 91, .eqv (.flat [.int, .int, .int]) false, [.tmp 88 true, .tmp 90 true], some (87, true)⟩,
                    ⟨some 92, .pick, [.tmp 87 true, .tmp 91 true, .const (.bool false)], none⟩,
                    ⟨some 6, .move, [.tmp 92 true], none⟩] none [7, 10, 83, 84, 88, 89, 90])
                  .ret)))))))) }

/-- runrig/runrigref12.CellsOf -/
def s34_l0 : SCode :=
  (.seq
    (.seq
      (.region [
        ⟨some 20, .move, [.tmp 7 false], none⟩,
        ⟨some 21, .fieldAddr 0, [.tmp 2 false], none⟩,
        ⟨some 22, .loadF 0 false 1 false, [.tmp 21 true], none⟩,
        ⟨some 23, .fieldAddr 1, [.tmp 5 false], none⟩,
        ⟨some 24, .loadF 1 false 1 false, [.tmp 23 true], none⟩,
        ⟨some 25, .indexAddr 2, [.tmp 22 true, .tmp 24 true], none⟩,
        ⟨some 26, .fieldAddr 1, [.tmp 25 true], none⟩,
        ⟨some 27, .load false 1 false, [.tmp 26 true], none⟩,
        ⟨some 28, .len .sl, [.tmp 27 true], none⟩,
        ⟨some 29, .bin .lss, [.tmp 20 true, .tmp 28 true], none⟩] none [])
      (.cond (.tmp 29 true) []
        .skip [2, 5, 7]
        (.exit 0)))
    (.seq
      (.block 1
        (.region [
          ⟨some 32, .move, [.tmp 6 true], none⟩,
          ⟨some 33, .fieldAddr 0, [.tmp 2 false], none⟩,
          ⟨some 34, .loadF 0 false 1 false, [.tmp 33 true], none⟩,
          ⟨some 35, .fieldAddr 1, [.tmp 5 false], none⟩,
          ⟨some 36, .loadF 1 false 1 false, [.tmp 35 true], none⟩,
          ⟨some 37, .indexAddr 2, [.tmp 34 true, .tmp 36 true], none⟩,
          ⟨some 38, .fieldAddr 1, [.tmp 37 true], none⟩,
          ⟨some 39, .load false 1 false, [.tmp 38 true], none⟩,
          ⟨some 40, .move, [.tmp 7 false], none⟩,
          ⟨some 41, .indexAddr 4, [.tmp 39 true, .tmp 40 true], none⟩,
          ⟨some 42, .fieldAddr 1, [.tmp 41 true], none⟩,
          ⟨some 43, .load true 3 false, [.tmp 42 true], none⟩,
          ⟨some 44, .lit 3 1 [.int .i64 0, .int .i64 0, .int .i64 0] [0], [.tmp 43 true], none⟩,
          ⟨some 45, .append 3 24, [.tmp 32 true, .tmp 44 true], none⟩,
          ⟨some 6, .move, [.tmp 45 true], none⟩] none []))
      (.region [
        ⟨some 30, .move, [.tmp 7 true], none⟩,
        ⟨some 31, .bin .add, [.tmp 30 true, .const (.int .i64 1)], none⟩,
        ⟨some 7, .move, [.tmp 31 true], none⟩] none [])))
def s34 : SFunc := { fid := 34, mode := .pure, nparams := 2, nboxes := 2, clr := [], results := [.tmp 4 true], body :=
  (.seq
    (.region [
      ⟨some 2, .boxF 0 5, [.tmp 0 true], none⟩,
      ⟨some 4, .move, [.const (.nilSl)], none⟩] none [4])
    (.seq
      (.region [
        ⟨some 8, .fieldAddr 3, [.tmp 2 false], none⟩,
        ⟨some 9, .loadF 0 false 1 false, [.tmp 8 true], none⟩,
        ⟨some 10, .move, [.tmp 1 true], none⟩,
        ⟨some 11, .indexAddr 4, [.tmp 9 true, .tmp 10 true], none⟩,
        ⟨some 12, .fieldAddr 1, [.tmp 11 true], none⟩,
        ⟨some 13, .load true 3 false, [.tmp 12 true], none⟩,
        ⟨some 5, .allocF 1 [.int .i64 0, .int .i64 0, .int .i64 0], [], none⟩,
        ⟨none, .storeF 1 3, [.tmp 5 false, .tmp 13 true], none⟩] none [])
      (.seq
        (.seq
          (.region [
            ⟨some 14, .fieldAddr 2, [.tmp 5 false], none⟩,
            ⟨some 15, .loadF 1 false 1 false, [.tmp 14 true], none⟩,
            ⟨some 16, .bin .gtr, [.tmp 15 true, .const (.int .i64 0)], none⟩] none [])
          (.cond (.tmp 16 true) [2]
            (.seq
              (.region [
                ⟨some 17, .loadF 1 true 3 false, [.tmp 5 true], none⟩,
                ⟨some 18, .call 31, [.tmp 17 true], none⟩,
                ⟨some 19, .lit 3 1 [.int .i64 0, .int .i64 0, .int .i64 0] [0], [.tmp 18 true], none⟩,
                ⟨some 4, .move, [.tmp 19 true], none⟩] none [])
              .ret) []
            .skip))
        (.seq
          (.region [
            ⟨some 6, .move, [.const (.nilSl)], none⟩] none [])
          (.seq
            (.seq
              (.region [
                ⟨some 7, .move, [.const (.int .i64 0)], none⟩] none [])
              (.block 0
                (.loop s34_l0)))
            (.seq
              (.region [
                ⟨some 46, .move, [.tmp 6 true], none⟩,
                ⟨some 4, .move, [.tmp 46 true], none⟩] none [])
              .ret)))))) }

/-- runrig/ir.may -/

def s35 : SFunc := { fid := 35, mode := .pure, nparams := 2, nboxes := 2, clr := [], results := [.tmp 4 false], body :=
  (.seq
    (.region [
      ⟨some 2, .boxF 0 5, [.tmp 0 true], none⟩,
      ⟨some 3, .boxF 1 3, [.tmp 1 true], none⟩,
      ⟨some 4, .move, [.const (.bool false)], none⟩] none [4])
    (.seq
      (.seq
        (.region [
          ⟨some 5, .fieldAddr 2, [.tmp 3 false], none⟩,
          ⟨some 6, .loadF 1 false 1 false, [.tmp 5 true], none⟩,
          ⟨some 7, .bin .lss, [.tmp 6 true, .const (.int .i64 0)], none⟩,
          ⟨some 8, .move, [.tmp 7 true], none⟩,
          ⟨some 9, .fieldAddr 2, [.tmp 3 false], some (8, false)⟩,
          ⟨some 10, .loadF 1 false 1 false, [.tmp 9 true], some (8, false)⟩,
          ⟨some 11, .bin .gtr, [.tmp 10 true, .const (.int .i64 3)], some (8, false)⟩,
          ⟨some 12, .pick, [.tmp 8 true, .const (.bool true), .tmp 11 true], none⟩] none [9, 10])
        (.cond (.tmp 12 true) [2, 3]
          (.seq
            (.region [
              ⟨some 4, .move, [.const (.bool false)], none⟩] none [])
            .ret) []
          .skip))
      (.seq
        (.seq
          (.region [
            ⟨some 13, .fieldAddr 0, [.tmp 3 false], none⟩,
            ⟨some 14, .loadF 1 false 1 false, [.tmp 13 true], none⟩] none [])
          (.block 0
            (.seq
              (.seq
                (.region [
                  ⟨some 16, .bin .eql, [.tmp 14 false, .const (.int .i64 1)], none⟩,
                  ⟨some 15, .move, [.tmp 16 true], none⟩] none [])
                (.cond (.tmp 15 false) [14]
                  .skip [15]
                  (.region [
                    ⟨some 17, .bin .eql, [.tmp 14 true, .const (.int .i64 2)], none⟩,
                    ⟨some 15, .move, [.tmp 17 true], none⟩] none [])))
              (.cond (.tmp 15 true) [2]
                (.seq
                  (.region [
                    ⟨some 18, .fieldAddr 1, [.tmp 3 true], none⟩,
                    ⟨some 19, .loadF 1 false 1 false, [.tmp 18 true], none⟩,
                    ⟨some 20, .bin .eql, [.tmp 19 true, .const (.int .i64 0)], none⟩,
                    ⟨some 4, .move, [.tmp 20 true], none⟩] none [])
                  .ret) []
                .skip))))
        (.seq
          (.region [
            ⟨some 21, .fieldAddr 0, [.tmp 3 false], none⟩,
            ⟨some 22, .loadF 1 false 1 false, [.tmp 21 true], none⟩,
            ⟨some 23, .bin .eql, [.tmp 22 true, .const (.int .i64 3)], none⟩,
            ⟨some 24, .move, [.tmp 23 true], none⟩,
            ⟨some 25, .fieldAddr 1, [.tmp 3 false], some (24, true)⟩,
            ⟨some 26, .loadF 1 false 1 false, [.tmp 25 true], some (24, true)⟩,
            ⟨some 27, .bin .geq, [.tmp 26 true, .const (.int .i64 0)], some (24, true)⟩,
            ⟨some 28, .pick, [.tmp 24 true, .tmp 27 true, .const (.bool false)], none⟩,
            ⟨some 29, .move, [.tmp 28 true], none⟩,
            ⟨some 30, .fieldAddr 1, [.tmp 3 true], some (29, true)⟩,
            ⟨some 31, .loadF 1 false 1 false, [.tmp 30 true], some (29, true)⟩,
            ⟨some 32, .fieldAddr 0, [.tmp 2 true], some (29, true)⟩,
            ⟨some 33, .loadF 0 false 1 false, [.tmp 32 true], some (29, true)⟩,
            ⟨some 34, .len .sl, [.tmp 33 true], some (29, true)⟩,
            ⟨some 35, .bin .lss, [.tmp 31 true, .tmp 34 true], some (29, true)⟩,
            ⟨some 36, .pick, [.tmp 29 true, .tmp 35 true, .const (.bool false)], none⟩,
            ⟨some 4, .move, [.tmp 36 true], none⟩] none [2, 3, 25, 26, 30, 31, 32, 33, 34])
          .ret)))) }

/-- runrig/heads.Ref -/

def s36 : SFunc := { fid := 36, mode := .pure, nparams := 1, nboxes := 1, clr := [], results := [.tmp 2 false], body :=
  (.seq
    (.region [
      ⟨some 1, .boxF 0 3, [.tmp 0 true], none⟩,
      ⟨some 2, .move, [.const (.bool false)], none⟩] none [2])
    (.seq
      (.region [
        ⟨some 3, .fieldAddr 0, [.tmp 1 false], none⟩,
        ⟨some 4, .loadF 0 false 1 false, [.tmp 3 true], none⟩,
        ⟨some 5, .bin .eql, [.tmp 4 true, .const (.int .i64 3)], none⟩,
        ⟨some 6, .move, [.tmp 5 true], none⟩,
        ⟨some 7, .fieldAddr 2, [.tmp 1 true], some (6, false)⟩,
        ⟨some 8, .loadF 0 false 1 false, [.tmp 7 true], some (6, false)⟩,
        ⟨some 9, .bin .gtr, [.tmp 8 true, .const (.int .i64 0)], some (6, false)⟩,
        ⟨some 10, .pick, [.tmp 6 true, .const (.bool true), .tmp 9 true], none⟩,
        ⟨some 2, .move, [.tmp 10 true], none⟩] none [1, 7, 8])
      .ret)) }

/-- runrig/ir.code -/
def s37_l0 : SCode :=
  (.seq
    (.region [
      ⟨some 73, .bin .lss, [.tmp 72 false, .tmp 71 false], none⟩] none [])
    (.seq
      (.cond (.tmp 73 true) []
        .skip [1, 2, 70, 71, 72]
        (.exit 0))
      (.seq
        (.block 1
          (.seq
            (.region [
              ⟨some 74, .indexAddr 6, [.tmp 70 false, .tmp 72 false], none⟩,
              ⟨some 75, .load true 6 false, [.tmp 74 true], none⟩,
              ⟨some 7, .allocF 2 [.int .i64 0, .int .i64 0, .int .i64 0, .int .i64 0, .int .i64 0, .nilSl], [], none⟩,
              ⟨none, .storeF 2 6, [.tmp 7 false, .tmp 75 true], none⟩] none [])
            (.seq
              (.region [
                ⟨some 76, .loadF 0 true 5 false, [.tmp 2 false], none⟩,
                ⟨some 77, .move, [.tmp 1 false], none⟩,
                ⟨some 78, .loadF 2 true 6 false, [.tmp 7 true], none⟩,
                ⟨some 79, .call 12, [.tmp 76 true, .tmp 77 true, .tmp 78 true], none⟩,
                ⟨some 80, .un .not, [.tmp 79 true], none⟩] none [])
              (.cond (.tmp 80 true) [1, 2, 5, 70, 71, 72]
                (.seq
                  (.region [
                    ⟨some 4, .move, [.const (.bool false)], none⟩] none [])
                  .ret) []
                .skip))))
        (.region [
          ⟨some 81, .bin .add, [.tmp 72 true, .const (.int .i64 1)], none⟩,
          ⟨some 72, .move, [.tmp 81 true], none⟩] none []))))
def s37 : SFunc := { fid := 37, mode := .pure, nparams := 2, nboxes := 3, clr := [], results := [.tmp 4 false], body :=
  (.seq
    (.region [
      ⟨some 2, .boxF 0 5, [.tmp 0 true], none⟩,
      ⟨some 4, .move, [.const (.bool false)], none⟩] none [4])
    (.seq
      (.region [
        ⟨some 9, .fieldAddr 2, [.tmp 2 false], none⟩,
        ⟨some 10, .loadF 0 false 1 false, [.tmp 9 true], none⟩,
        ⟨some 11, .move, [.tmp 1 false], none⟩,
        ⟨some 12, .indexAddr 7, [.tmp 10 true, .tmp 11 true], none⟩,
        ⟨some 13, .load true 7 false, [.tmp 12 true], none⟩,
        ⟨some 5, .allocF 1 [.int .i64 0, .nilSl, .bool false, .int .i64 0, .int .i64 0, .int .i64 0, .nilSl], [], none⟩,
        ⟨none, .storeF 1 7, [.tmp 5 false, .tmp 13 true], none⟩] none [])
      (.seq
        (.seq
          (.region [
            ⟨some 14, .fieldAddr 0, [.tmp 5 false], none⟩,
            ⟨some 15, .loadF 1 false 1 false, [.tmp 14 true], none⟩,
            ⟨some 16, .bin .lss, [.tmp 15 true, .const (.int .i64 0)], none⟩,
            ⟨some 17, .move, [.tmp 16 true], none⟩,
            ⟨some 18, .fieldAddr 0, [.tmp 5 false], some (17, false)⟩,
            ⟨some 19, .loadF 1 false 1 false, [.tmp 18 true], some (17, false)⟩,
            ⟨some 20, .bin .gtr, [.tmp 19 true, .const (.int .i64 6)], some (17, false)⟩,
            ⟨some 21, .pick, [.tmp 17 true, .const (.bool true), .tmp 20 true], none⟩,
            ⟨some 22, .move, [.tmp 21 true], none⟩,
            ⟨some 23, .fieldAddr 0, [.tmp 5 false], some (22, false)⟩,
            ⟨some 24, .loadF 1 false 1 false, [.tmp 23 true], some (22, false)⟩,
            ⟨some 25, .fieldAddr 1, [.tmp 5 false], some (22, false)⟩,
            ⟨some 26, .loadF 1 false 1 false, [.tmp 25 true], some (22, false)⟩,
            ⟨some 27, .len .sl, [.tmp 26 true], some (22, false)⟩,
            ⟨some 28, .bin .gtr, [.tmp 24 true, .tmp 27 true], some (22, false)⟩,
            ⟨some 29, .pick, [.tmp 22 true, .const (.bool true), .tmp 28 true], none⟩,
            ⟨some 30, .move, [.tmp 29 true], none⟩,
            ⟨some 31, .fieldAddr 1, [.tmp 5 false], some (30, false)⟩,
            ⟨some 32, .loadF 1 false 1 false, [.tmp 31 true], some (30, false)⟩,
            ⟨some 33, .len .sl, [.tmp 32 true], some (30, false)⟩,
            ⟨some 34, .bin .gtr, [.tmp 33 true, .const (.int .i64 4000)], some (30, false)⟩,
            ⟨some 35, .pick, [.tmp 30 true, .const (.bool true), .tmp 34 true], none⟩,
            ⟨some 36, .move, [.tmp 35 true], none⟩,
            ⟨some 37, .fieldAddr 6, [.tmp 5 false], some (36, false)⟩,
            ⟨some 38, .loadF 1 false 1 false, [.tmp 37 true], some (36, false)⟩,
            ⟨some 39, .len .sl, [.tmp 38 true], some (36, false)⟩,
            ⟨some 40, .bin .eql, [.tmp 39 true, .const (.int .i64 0)], some (36, false)⟩,
            ⟨some 41, .pick, [.tmp 36 true, .const (.bool true), .tmp 40 true], none⟩,
            ⟨some 42, .move, [.tmp 41 true], none⟩,
            ⟨some 43, .loadF 0 true 5 false, [.tmp 2 false], some (42, false)⟩,
            ⟨some 44, .fieldAddr 1, [.tmp 5 false], some (42, false)⟩,
            ⟨some 45, .loadF 1 false 1 false, [.tmp 44 true], some (42, false)⟩,
            ⟨some 46, .call 18, [.tmp 43 true, .tmp 45 true], some (42, false)⟩,
            ⟨some 47, .un .not, [.tmp 46 true], some (42, false)⟩,
            ⟨some 48, .pick, [.tmp 42 true, .const (.bool true), .tmp 47 true], none⟩] none [18, 19, 23, 24, 25, 26, 27, 31, 32, 33, 37, 38, 39, 43, 44, 45, 46])
          (.cond (.tmp 48 true) [1, 2, 5]
            (.seq
              (.region [
                ⟨some 4, .move, [.const (.bool false)], none⟩] none [])
              .ret) []
            .skip))
        (.seq
          (.seq
            (.region [
              ⟨some 49, .fieldAddr 2, [.tmp 5 false], none⟩,
              ⟨some 50, .loadF 1 false 1 false, [.tmp 49 true], none⟩,
              ⟨some 51, .move, [.tmp 50 true], none⟩,
              ⟨some 52, .loadF 0 true 5 false, [.tmp 2 false], some (51, true)⟩,
              ⟨some 53, .fieldAddr 3, [.tmp 5 false], some (51, true)⟩,
              ⟨some 54, .loadF 1 true 3 false, [.tmp 53 true], some (51, true)⟩,
              ⟨some 55, .call 35, [.tmp 52 true, .tmp 54 true], some (51, true)⟩,
              ⟨some 56, .un .not, [.tmp 55 true], some (51, true)⟩,
              ⟨some 57, .pick, [.tmp 51 false, .tmp 56 true, .const (.bool false)], none⟩,
              ⟨some 58, .move, [.tmp 57 true], none⟩,
              ⟨some 59, .fieldAddr 2, [.tmp 5 false], some (58, false)⟩,
              ⟨some 60, .loadF 1 false 1 false, [.tmp 59 true], some (58, false)⟩,
              ⟨some 61, .un .not, [.tmp 60 true], some (58, false)⟩,
              ⟨some 62, .move, [.tmp 61 true], some (58, false)⟩,
              ⟨some 63, .fieldAddr 3, [.tmp 5 false], some (62, true)⟩,
              ⟨some 64, .loadF 1 true 3 false, [.tmp 63 true], some (62, true)⟩,
              ⟨some 65, .call 48, [], some (62, true)⟩,
              ⟨some 66, .eqv (.flat [.int, .int, .int]) true, [.tmp 64 true, .tmp 65 true], some (62, true)⟩,
              ⟨some 67, .pick, [.tmp 62 false, .tmp 66 true, .const (.bool false)], some (58, false)⟩,
              ⟨some 68, .pick, [.tmp 58 false, .const (.bool true), .tmp 67 true], none⟩] (some []) [51, 52, 53, 54, 55, 58, 59, 60, 61, 62, 63, 64, 65, 66])
            (.cond (.tmp 68 true) [1, 2, 5]
              (.seq
                (.region [
                  ⟨some 4, .move, [.const (.bool false)], none⟩] none [])
                .ret) []
              .skip))
          (.seq
            (.seq
              (.region [
                ⟨some 69, .fieldAddr 6, [.tmp 5 false], none⟩,
                ⟨some 70, .loadF 1 false 1 false, [.tmp 69 true], none⟩,
                ⟨some 71, .len .sl, [.tmp 70 false], none⟩,
                ⟨some 72, .move, [.const (.int .i64 0)], none⟩] none [])
              (.block 0
                (.loop s37_l0)))
            (.seq
              (.region [
                ⟨some 82, .fieldAddr 6, [.tmp 5 false], none⟩,
                ⟨some 83, .loadF 1 false 1 false, [.tmp 82 true], none⟩,
                ⟨some 84, .fieldAddr 6, [.tmp 5 true], none⟩,
                ⟨some 85, .loadF 1 false 1 false, [.tmp 84 true], none⟩,
                ⟨some 86, .len .sl, [.tmp 85 true], none⟩,
                ⟨some 87, .bin .sub, [.tmp 86 true, .const (.int .i64 1)], none⟩,
                ⟨some 88, .indexAddr 6, [.tmp 83 true, .tmp 87 true], none⟩,
                ⟨some 89, .fieldAddr 0, [.tmp 88 true], none⟩,
                ⟨some 90, .load false 1 false, [.tmp 89 true], none⟩,
                ⟨some 8, .move, [.tmp 90 true], none⟩] none [])
              (.seq
                (.region [
                  ⟨some 91, .move, [.tmp 8 false], none⟩,
                  ⟨some 92, .bin .eql, [.tmp 91 true, .const (.int .i64 16)], none⟩,
                  ⟨some 93, .move, [.tmp 92 true], none⟩,
                  ⟨some 94, .move, [.tmp 8 false], some (93, false)⟩,
                  ⟨some 95, .bin .eql, [.tmp 94 true, .const (.int .i64 17)], some (93, false)⟩,
                  ⟨some 96, .pick, [.tmp 93 true, .const (.bool true), .tmp 95 true], none⟩,
                  ⟨some 97, .move, [.tmp 96 true], none⟩,
                  ⟨some 98, .move, [.tmp 8 true], some (97, false)⟩,
                  ⟨some 99, .bin .eql, [.tmp 98 true, .const (.int .i64 18)], some (97, false)⟩,
                  ⟨some 100, .pick, [.tmp 97 true, .const (.bool true), .tmp 99 true], none⟩,
                  ⟨some 4, .move, [.tmp 100 true], none⟩] none [8, 94, 98])
                .ret))))))) }

/-- runrig/ir.only -/

def s38 : SFunc := { fid := 38, mode := .pure, nparams := 5, nboxes := 1, clr := [], results := [.tmp 10 false], body :=
  (.seq
    (.region [
      ⟨some 5, .boxF 0 6, [.tmp 0 true], none⟩,
      ⟨some 10, .move, [.const (.bool false)], none⟩] none [10])
    (.seq
      (.region [
        ⟨some 11, .move, [.tmp 1 true], none⟩,
        ⟨some 12, .move, [.tmp 11 true], none⟩,
        ⟨some 13, .fieldAddr 1, [.tmp 5 false], some (12, false)⟩,
        ⟨some 14, .loadF 0 false 1 false, [.tmp 13 true], some (12, false)⟩,
        ⟨some 15, .bin .eql, [.tmp 14 true, .const (.int .i64 0)], some (12, false)⟩,
        ⟨some 16, .pick, [.tmp 12 true, .const (.bool true), .tmp 15 true], none⟩,
        ⟨some 17, .move, [.tmp 16 true], none⟩,
        ⟨some 18, .move, [.tmp 2 true], some (17, true)⟩,
        ⟨some 19, .move, [.tmp 18 true], some (17, true)⟩,
        ⟨some 20, .fieldAddr 2, [.tmp 5 false], some (19, false)⟩,
        ⟨some 21, .loadF 0 false 1 false, [.tmp 20 true], some (19, false)⟩,
        ⟨some 22, .bin .eql, [.tmp 21 true, .const (.int .i64 0)], some (19, false)⟩,
        ⟨some 23, .pick, [.tmp 19 true, .const (.bool true), .tmp 22 true], some (17, true)⟩,
        ⟨some 24, .pick, [.tmp 17 true, .tmp 23 true, .const (.bool false)], none⟩,
        ⟨some 25, .move, [.tmp 24 true], none⟩,
        ⟨some 26, .move, [.tmp 3 true], some (25, true)⟩,
        ⟨some 27, .move, [.tmp 26 true], some (25, true)⟩,
        ⟨some 28, .fieldAddr 3, [.tmp 5 false], some (27, false)⟩,
        ⟨some 29, .loadF 0 false 1 false, [.tmp 28 true], some (27, false)⟩,
        ⟨some 30, .bin .eql, [.tmp 29 true, .const (.int .i64 0)], some (27, false)⟩,
        ⟨some 31, .pick, [.tmp 27 true, .const (.bool true), .tmp 30 true], some (25, true)⟩,
        ⟨some 32, .pick, [.tmp 25 true, .tmp 31 true, .const (.bool false)], none⟩,
        ⟨some 33, .move, [.tmp 32 true], none⟩,
        ⟨some 34, .move, [.tmp 4 true], some (33, true)⟩,
        ⟨some 35, .move, [.tmp 34 true], some (33, true)⟩,
        ⟨some 36, .fieldAddr 4, [.tmp 5 false], some (35, false)⟩,
        ⟨some 37, .loadF 0 false 1 false, [.tmp 36 true], some (35, false)⟩,
        ⟨some 38, .bin .eql, [.tmp 37 true, .const (.int .i64 0)], some (35, false)⟩,
        ⟨some 39, .pick, [.tmp 35 true, .const (.bool true), .tmp 38 true], some (33, true)⟩,
        ⟨some 40, .pick, [.tmp 33 true, .tmp 39 true, .const (.bool false)], none⟩,
        ⟨some 41, .move, [.tmp 40 true], none⟩,
        ⟨some 42, .fieldAddr 0, [.tmp 5 false], some (41, true)⟩,
        ⟨some 43, .loadF 0 false 1 false, [.tmp 42 true], some (41, true)⟩,
        ⟨some 44, .bin .eql, [.tmp 43 true, .const (.int .i64 13)], some (41, true)⟩,
        ⟨some 45, .move, [.tmp 44 true], some (41, true)⟩,
        ⟨some 46, .fieldAddr 5, [.tmp 5 true], some (45, false)⟩,
        ⟨some 47, .loadF 0 false 1 false, [.tmp 46 true], some (45, false)⟩,
        ⟨some 48, .len .sl, [.tmp 47 true], some (45, false)⟩,
        ⟨some 49, .bin .eql, [.tmp 48 true, .const (.int .i64 0)], some (45, false)⟩,
        ⟨some 50, .pick, [.tmp 45 true, .const (.bool true), .tmp 49 true], some (41, true)⟩,
        ⟨some 51, .pick, [.tmp 41 true, .tmp 50 true, .const (.bool false)], none⟩,
        ⟨some 10, .move, [.tmp 51 true], none⟩] none [2, 3, 4, 5, 13, 14, 18, 19, 20, 21, 22, 26, 27, 28, 29, 30, 34, 35, 36, 37, 38, 42, 43, 44, 45, 46, 47, 48, 49])
      .ret)) }

/-- (runrig/ir.view).ints -/

def s39 : SFunc := { fid := 39, mode := .pure, nparams := 2, nboxes := 1, clr := [], results := [.tmp 4 false], body :=
  (.seq
    (.region [
      ⟨some 2, .boxF 0 19, [.tmp 0 true], none⟩,
      ⟨some 4, .move, [.const (.bool false)], none⟩] none [4])
    (.seq
      (.region [
        ⟨some 5, .loadF 0 true 19 false, [.tmp 2 true], none⟩,
        ⟨some 6, .build [.int .i64 0, .int .i64 0, .int .i64 0] [(0, 1)], [.const (.int .i64 1)], none⟩,
        ⟨some 7, .move, [.tmp 1 true], none⟩,
        ⟨some 8, .call 42, [.tmp 5 true, .tmp 6 true, .tmp 7 true], none⟩,
        ⟨some 4, .move, [.tmp 8 true], none⟩] none [])
      .ret)) }

/-- (runrig/ir.view).bools -/

def s40 : SFunc := { fid := 40, mode := .pure, nparams := 2, nboxes := 1, clr := [], results := [.tmp 4 false], body :=
  (.seq
    (.region [
      ⟨some 2, .boxF 0 19, [.tmp 0 true], none⟩,
      ⟨some 4, .move, [.const (.bool false)], none⟩] none [4])
    (.seq
      (.region [
        ⟨some 5, .loadF 0 true 19 false, [.tmp 2 true], none⟩,
        ⟨some 6, .build [.int .i64 0, .int .i64 0, .int .i64 0] [(0, 1)], [.const (.int .i64 2)], none⟩,
        ⟨some 7, .move, [.tmp 1 true], none⟩,
        ⟨some 8, .call 42, [.tmp 5 true, .tmp 6 true, .tmp 7 true], none⟩,
        ⟨some 4, .move, [.tmp 8 true], none⟩] none [])
      .ret)) }

/-- (runrig/ir.view).of -/

def s41 : SFunc := { fid := 41, mode := .pure, nparams := 2, nboxes := 2, clr := [], results := [.box 4 1 3 true], body :=
  (.seq
    (.region [
      ⟨some 2, .boxF 0 19, [.tmp 0 true], none⟩,
      ⟨some 4, .allocF 1 [.int .i64 0, .int .i64 0, .int .i64 0], [], none⟩] none [])
    (.seq
      (.seq
        (.region [
          ⟨some 5, .move, [.tmp 1 false], none⟩,
          ⟨some 6, .bin .lss, [.tmp 5 true, .const (.int .i64 0)], none⟩,
          ⟨some 7, .move, [.tmp 6 true], none⟩,
          ⟨some 8, .move, [.tmp 1 false], some (7, false)⟩,
          ⟨some 9, .fieldAddr 6, [.tmp 2 false], some (7, false)⟩,
          ⟨some 10, .fieldAddr 1, [.tmp 9 true], some (7, false)⟩,
          ⟨some 11, .loadF 0 false 1 false, [.tmp 10 true], some (7, false)⟩,
          ⟨some 12, .len .sl, [.tmp 11 true], some (7, false)⟩,
          ⟨some 13, .bin .geq, [.tmp 8 true, .tmp 12 true], some (7, false)⟩,
          ⟨some 14, .pick, [.tmp 7 true, .const (.bool true), .tmp 13 true], none⟩] none [8, 9, 10, 11, 12])
        (.cond (.tmp 14 true) [1, 2]
          (.seq
            (.region [
              ⟨some 15, .call 48, [], none⟩,
              ⟨none, .storeF 1 3, [.tmp 4 false, .tmp 15 true], none⟩] none [])
            .ret) []
          .skip))
      (.seq
        (.region [
          ⟨some 16, .fieldAddr 6, [.tmp 2 true], none⟩,
          ⟨some 17, .fieldAddr 1, [.tmp 16 true], none⟩,
          ⟨some 18, .loadF 0 false 1 false, [.tmp 17 true], none⟩,
          ⟨some 19, .move, [.tmp 1 true], none⟩,
          ⟨some 20, .indexAddr 3, [.tmp 18 true, .tmp 19 true], none⟩,
          ⟨some 21, .load true 3 false, [.tmp 20 true], none⟩,
          ⟨none, .storeF 1 3, [.tmp 4 false, .tmp 21 true], none⟩] none [])
        .ret))) }

/-- (runrig/ir.view).is -/
def s42_l0 : SCode :=
  (.seq
    (.region [
      ⟨some 12, .bin .lss, [.tmp 11 false, .tmp 10 false], none⟩] none [])
    (.seq
      (.cond (.tmp 12 true) []
        .skip [3, 9, 10, 11]
        (.exit 0))
      (.seq
        (.block 1
          (.seq
            (.region [
              ⟨some 13, .indexAddr 1, [.tmp 9 false, .tmp 11 false], none⟩,
              ⟨some 14, .load false 1 false, [.tmp 13 true], none⟩,
              ⟨some 8, .move, [.tmp 14 true], none⟩] none [])
            (.seq
              (.region [
                ⟨some 15, .loadF 0 true 19 false, [.tmp 3 false], none⟩,
                ⟨some 16, .move, [.tmp 8 true], none⟩,
                ⟨some 17, .call 41, [.tmp 15 true, .tmp 16 true], none⟩,
                ⟨some 18, .loadF 1 true 3 false, [.tmp 4 false], none⟩,
                ⟨some 19, .eqv (.flat [.int, .int, .int]) true, [.tmp 17 true, .tmp 18 true], none⟩] (some []) [])
              (.cond (.tmp 19 true) [3, 4, 9, 10, 11]
                (.seq
                  (.region [
                    ⟨some 6, .move, [.const (.bool false)], none⟩] none [])
                  .ret) []
                .skip))))
        (.region [
          ⟨some 20, .bin .add, [.tmp 11 true, .const (.int .i64 1)], none⟩,
          ⟨some 11, .move, [.tmp 20 true], none⟩] none []))))
def s42 : SFunc := { fid := 42, mode := .pure, nparams := 3, nboxes := 2, clr := [], results := [.tmp 6 false], body :=
  (.seq
    (.region [
      ⟨some 3, .boxF 0 19, [.tmp 0 true], none⟩,
      ⟨some 4, .boxF 1 3, [.tmp 1 true], none⟩,
      ⟨some 6, .move, [.const (.bool false)], none⟩] none [6])
    (.seq
      (.seq
        (.region [
          ⟨some 9, .move, [.tmp 2 true], none⟩,
          ⟨some 10, .len .sl, [.tmp 9 false], none⟩,
          ⟨some 11, .move, [.const (.int .i64 0)], none⟩] none [])
        (.block 0
          (.loop s42_l0)))
      (.seq
        (.region [
          ⟨some 21, .loadF 1 true 3 false, [.tmp 4 true], none⟩,
          ⟨some 22, .call 48, [], none⟩,
          ⟨some 23, .eqv (.flat [.int, .int, .int]) true, [.tmp 21 true, .tmp 22 true], none⟩,
          ⟨some 6, .move, [.tmp 23 true], none⟩] (some []) [])
        .ret))) }

/-- (runrig/ir.view).two -/

def s43 : SFunc := { fid := 43, mode := .pure, nparams := 1, nboxes := 2, clr := [], results := [.tmp 2 false], body :=
  (.seq
    (.region [
      ⟨some 1, .boxF 0 19, [.tmp 0 true], none⟩,
      ⟨some 2, .move, [.const (.bool false)], none⟩] none [2])
    (.seq
      (.region [
        ⟨some 4, .fieldAddr 13, [.tmp 1 false], none⟩,
        ⟨some 5, .loadF 0 true 6 false, [.tmp 4 true], none⟩,
        ⟨some 3, .allocF 1 [.int .i64 0, .int .i64 0, .int .i64 0, .int .i64 0, .int .i64 0, .nilSl], [], none⟩,
        ⟨none, .storeF 1 6, [.tmp 3 false, .tmp 5 true], none⟩] none [])
      (.seq
        (.seq
          (.region [
            ⟨some 6, .fieldAddr 4, [.tmp 3 false], none⟩,
            ⟨some 7, .loadF 1 false 1 false, [.tmp 6 true], none⟩] none [])
          (.block 0
            (.seq
              (.seq
                (.region [
                  ⟨some 9, .bin .eql, [.tmp 7 false, .const (.int .i64 14)], none⟩,
                  ⟨some 8, .move, [.tmp 9 true], none⟩] none [])
                (.cond (.tmp 8 false) []
                  .skip [8]
                  (.seq
                    (.region [
                      ⟨some 10, .bin .eql, [.tmp 7 false, .const (.int .i64 15)], none⟩,
                      ⟨some 8, .move, [.tmp 10 true], none⟩] none [])
                    (.cond (.tmp 8 false) []
                      .skip [8]
                      (.seq
                        (.region [
                          ⟨some 11, .bin .eql, [.tmp 7 false, .const (.int .i64 16)], none⟩,
                          ⟨some 8, .move, [.tmp 11 true], none⟩] none [])
                        (.cond (.tmp 8 false) []
                          .skip [8]
                          (.seq
                            (.region [
                              ⟨some 12, .bin .eql, [.tmp 7 false, .const (.int .i64 17)], none⟩,
                              ⟨some 8, .move, [.tmp 12 true], none⟩] none [])
                            (.cond (.tmp 8 false) []
                              .skip [8]
                              (.region [
                                ⟨some 13, .bin .eql, [.tmp 7 false, .const (.int .i64 18)], none⟩,
                                ⟨some 8, .move, [.tmp 13 true], none⟩] none [])))))))))
              (.cond (.tmp 8 true) [7]
                (.seq
                  (.region [
                    ⟨some 14, .loadF 0 true 19 false, [.tmp 1 true], none⟩,
                    ⟨some 15, .fieldAddr 1, [.tmp 3 false], none⟩,
                    ⟨some 16, .loadF 1 false 1 false, [.tmp 15 true], none⟩,
                    ⟨some 17, .fieldAddr 2, [.tmp 3 false], none⟩,
                    ⟨some 18, .loadF 1 false 1 false, [.tmp 17 true], none⟩,
                    ⟨some 19, .fieldAddr 3, [.tmp 3 true], none⟩,
                    ⟨some 20, .loadF 1 false 1 false, [.tmp 19 true], none⟩,
                    ⟨some 21, .lit 1 3 [.int .i64 0] [0, 1, 2], [.tmp 16 true, .tmp 18 true, .tmp 20 true], none⟩,
                    ⟨some 22, .call 39, [.tmp 14 true, .tmp 21 true], none⟩,
                    ⟨some 2, .move, [.tmp 22 true], none⟩] none [])
                  .ret) []
                (.seq
                  (.seq
                    (.region [
                      ⟨some 24, .bin .eql, [.tmp 7 false, .const (.int .i64 19)], none⟩,
                      ⟨some 23, .move, [.tmp 24 true], none⟩] none [])
                    (.cond (.tmp 23 false) []
                      .skip [23]
                      (.region [
                        ⟨some 25, .bin .eql, [.tmp 7 false, .const (.int .i64 20)], none⟩,
                        ⟨some 23, .move, [.tmp 25 true], none⟩] none [])))
                  (.cond (.tmp 23 true) [7]
                    (.seq
                      (.region [
                        ⟨some 26, .loadF 0 true 19 false, [.tmp 1 false], none⟩,
                        ⟨some 27, .fieldAddr 1, [.tmp 3 false], none⟩,
                        ⟨some 28, .loadF 1 false 1 false, [.tmp 27 true], none⟩,
                        ⟨some 29, .lit 1 1 [.int .i64 0] [0], [.tmp 28 true], none⟩,
                        ⟨some 30, .call 40, [.tmp 26 true, .tmp 29 true], none⟩,
                        ⟨some 31, .move, [.tmp 30 true], none⟩,
                        ⟨some 32, .loadF 0 true 19 false, [.tmp 1 true], some (31, true)⟩,
                        ⟨some 33, .fieldAddr 2, [.tmp 3 false], some (31, true)⟩,
                        ⟨some 34, .loadF 1 false 1 false, [.tmp 33 true], some (31, true)⟩,
                        ⟨some 35, .fieldAddr 3, [.tmp 3 true], some (31, true)⟩,
                        ⟨some 36, .loadF 1 false 1 false, [.tmp 35 true], some (31, true)⟩,
                        ⟨some 37, .lit 1 2 [.int .i64 0] [0, 1], [.tmp 34 true, .tmp 36 true], some (31, true)⟩,
                        ⟨some 38, .call 39, [.tmp 32 true, .tmp 37 true], some (31, true)⟩,
                        ⟨some 39, .pick, [.tmp 31 true, .tmp 38 true, .const (.bool false)], none⟩,
                        ⟨some 2, .move, [.tmp 39 true], none⟩] none [1, 3, 32, 33, 34, 35, 36, 37])
                      .ret) []
                    (.seq
                      (.seq
                        (.region [
                          ⟨some 41, .bin .eql, [.tmp 7 false, .const (.int .i64 21)], none⟩,
                          ⟨some 40, .move, [.tmp 41 true], none⟩] none [])
                        (.cond (.tmp 40 false) []
                          .skip [40]
                          (.region [
                            ⟨some 42, .bin .eql, [.tmp 7 false, .const (.int .i64 22)], none⟩,
                            ⟨some 40, .move, [.tmp 42 true], none⟩] none [])))
                      (.cond (.tmp 40 true) [7]
                        (.seq
                          (.region [
                            ⟨some 43, .loadF 0 true 19 false, [.tmp 1 false], none⟩,
                            ⟨some 44, .fieldAddr 1, [.tmp 3 false], none⟩,
                            ⟨some 45, .loadF 1 false 1 false, [.tmp 44 true], none⟩,
                            ⟨some 46, .lit 1 1 [.int .i64 0] [0], [.tmp 45 true], none⟩,
                            ⟨some 47, .call 40, [.tmp 43 true, .tmp 46 true], none⟩,
                            ⟨some 48, .move, [.tmp 47 true], none⟩,
                            ⟨some 49, .loadF 0 true 19 false, [.tmp 1 false], some (48, true)⟩,
                            ⟨some 50, .loadF 0 true 19 false, [.tmp 1 false], some (48, true)⟩,
                            ⟨some 51, .fieldAddr 2, [.tmp 3 false], some (48, true)⟩,
                            ⟨some 52, .loadF 1 false 1 false, [.tmp 51 true], some (48, true)⟩,
                            ⟨some 53, .call 41, [.tmp 50 true, .tmp 52 true], some (48, true)⟩,
                            ⟨some 54, .fieldAddr 3, [.tmp 3 false], some (48, true)⟩,
                            ⟨some 55, .loadF 1 false 1 false, [.tmp 54 true], some (48, true)⟩,
                            ⟨some 56, .lit 1 1 [.int .i64 0] [0], [.tmp 55 true], some (48, true)⟩,
                            ⟨some 57, .call 42, [.tmp 49 true, .tmp 53 true, .tmp 56 true], some (48, true)⟩,
                            ⟨some 58, .pick, [.tmp 48 false, .tmp 57 true, .const (.bool false)], none⟩,
                            ⟨some 2, .move, [.tmp 58 true], none⟩] (some []) [1, 3, 48, 49, 50, 51, 52, 53, 54, 55, 56])
                          .ret) []
                        (.seq
                          (.seq
                            (.region [
                              ⟨some 60, .bin .eql, [.tmp 7 false, .const (.int .i64 23)], none⟩,
                              ⟨some 59, .move, [.tmp 60 true], none⟩] none [])
                            (.cond (.tmp 59 false) [7]
                              .skip [59]
                              (.region [
                                ⟨some 61, .bin .eql, [.tmp 7 true, .const (.int .i64 24)], none⟩,
                                ⟨some 59, .move, [.tmp 61 true], none⟩] none [])))
                          (.cond (.tmp 59 true) []
                            (.seq
                              (.region [
                                ⟨some 62, .loadF 0 true 19 false, [.tmp 1 true], none⟩,
                                ⟨some 63, .fieldAddr 1, [.tmp 3 false], none⟩,
                                ⟨some 64, .loadF 1 false 1 false, [.tmp 63 true], none⟩,
                                ⟨some 65, .fieldAddr 2, [.tmp 3 false], none⟩,
                                ⟨some 66, .loadF 1 false 1 false, [.tmp 65 true], none⟩,
                                ⟨some 67, .fieldAddr 3, [.tmp 3 true], none⟩,
                                ⟨some 68, .loadF 1 false 1 false, [.tmp 67 true], none⟩,
                                ⟨some 69, .lit 1 3 [.int .i64 0] [0, 1, 2], [.tmp 64 true, .tmp 66 true, .tmp 68 true], none⟩,
                                ⟨some 70, .call 40, [.tmp 62 true, .tmp 69 true], none⟩,
                                ⟨some 2, .move, [.tmp 70 true], none⟩] none [])
                              .ret) [1, 3]
                            .skip))))))))))
        (.seq
          (.region [
            ⟨some 2, .move, [.const (.bool false)], none⟩] none [])
          .ret)))) }

/-- (runrig/ir.view).field -/

def s44 : SFunc := { fid := 44, mode := .pure, nparams := 4, nboxes := 2, clr := [], results := [.tmp 8 false], body :=
  (.seq
    (.region [
      ⟨some 4, .boxF 0 19, [.tmp 0 true], none⟩,
      ⟨some 8, .move, [.const (.bool false)], none⟩] none [8])
    (.seq
      (.region [
        ⟨some 11, .loadF 0 true 19 false, [.tmp 4 false], none⟩,
        ⟨some 12, .move, [.tmp 1 true], none⟩,
        ⟨some 13, .call 41, [.tmp 11 true, .tmp 12 true], none⟩,
        ⟨some 9, .allocF 1 [.int .i64 0, .int .i64 0, .int .i64 0], [], none⟩,
        ⟨none, .storeF 1 3, [.tmp 9 false, .tmp 13 true], none⟩] none [])
      (.seq
        (.seq
          (.region [
            ⟨some 14, .fieldAddr 0, [.tmp 9 false], none⟩,
            ⟨some 15, .loadF 1 false 1 false, [.tmp 14 true], none⟩,
            ⟨some 16, .bin .neq, [.tmp 15 true, .const (.int .i64 3)], none⟩,
            ⟨some 17, .move, [.tmp 16 true], none⟩,
            ⟨some 18, .fieldAddr 2, [.tmp 9 false], some (17, false)⟩,
            ⟨some 19, .loadF 1 false 1 false, [.tmp 18 true], some (17, false)⟩,
            ⟨some 20, .bin .neq, [.tmp 19 true, .const (.int .i64 0)], some (17, false)⟩,
            ⟨some 21, .pick, [.tmp 17 true, .const (.bool true), .tmp 20 true], none⟩,
            ⟨some 22, .move, [.tmp 21 true], none⟩,
            ⟨some 23, .fieldAddr 1, [.tmp 9 false], some (22, false)⟩,
            ⟨some 24, .loadF 1 false 1 false, [.tmp 23 true], some (22, false)⟩,
            ⟨some 25, .bin .lss, [.tmp 24 true, .const (.int .i64 0)], some (22, false)⟩,
            ⟨some 26, .pick, [.tmp 22 true, .const (.bool true), .tmp 25 true], none⟩,
            ⟨some 27, .move, [.tmp 26 true], none⟩,
            ⟨some 28, .fieldAddr 1, [.tmp 9 false], some (27, false)⟩,
            ⟨some 29, .loadF 1 false 1 false, [.tmp 28 true], some (27, false)⟩,
            ⟨some 30, .fieldAddr 0, [.tmp 4 false], some (27, false)⟩,
            ⟨some 31, .fieldAddr 0, [.tmp 30 true], some (27, false)⟩,
            ⟨some 32, .loadF 0 false 1 false, [.tmp 31 true], some (27, false)⟩,
            ⟨some 33, .len .sl, [.tmp 32 true], some (27, false)⟩,
            ⟨some 34, .bin .geq, [.tmp 29 true, .tmp 33 true], some (27, false)⟩,
            ⟨some 35, .pick, [.tmp 27 true, .const (.bool true), .tmp 34 true], none⟩] none [18, 19, 23, 24, 28, 29, 30, 31, 32, 33])
          (.cond (.tmp 35 true) [2, 3, 4, 9]
            (.seq
              (.region [
                ⟨some 8, .move, [.const (.bool false)], none⟩] none [])
              .ret) []
            .skip))
        (.seq
          (.region [
            ⟨some 36, .fieldAddr 0, [.tmp 4 false], none⟩,
            ⟨some 37, .fieldAddr 0, [.tmp 36 true], none⟩,
            ⟨some 38, .loadF 0 false 1 false, [.tmp 37 true], none⟩,
            ⟨some 39, .fieldAddr 1, [.tmp 9 true], none⟩,
            ⟨some 40, .loadF 1 false 1 false, [.tmp 39 true], none⟩,
            ⟨some 41, .indexAddr 2, [.tmp 38 true, .tmp 40 true], none⟩,
            ⟨some 42, .fieldAddr 1, [.tmp 41 true], none⟩,
            ⟨some 43, .load false 1 false, [.tmp 42 true], none⟩,
            ⟨some 10, .move, [.tmp 43 true], none⟩] none [])
          (.seq
            (.region [
              ⟨some 44, .move, [.tmp 2 false], none⟩,
              ⟨some 45, .bin .geq, [.tmp 44 true, .const (.int .i64 0)], none⟩,
              ⟨some 46, .move, [.tmp 45 true], none⟩,
              ⟨some 47, .move, [.tmp 2 false], some (46, true)⟩,
              ⟨some 48, .move, [.tmp 10 false], some (46, true)⟩,
              ⟨some 49, .len .sl, [.tmp 48 true], some (46, true)⟩,
              ⟨some 50, .bin .lss, [.tmp 47 true, .tmp 49 true], some (46, true)⟩,
              ⟨some 51, .pick, [.tmp 46 false, .tmp 50 true, .const (.bool false)], none⟩,
              ⟨some 52, .move, [.tmp 51 true], none⟩,
              ⟨some 53, .loadF 0 true 19 false, [.tmp 4 true], some (52, true)⟩,
              ⟨some 54, .move, [.tmp 10 false], some (52, true)⟩,
              ⟨some 55, .move, [.tmp 2 false], some (52, true)⟩,
              ⟨some 56, .indexAddr 4, [.tmp 54 true, .tmp 55 true], some (52, true)⟩,
              ⟨some 57, .fieldAddr 1, [.tmp 56 true], some (52, true)⟩,
              ⟨some 58, .load true 3 false, [.tmp 57 true], some (52, true)⟩,
              ⟨some 59, .move, [.tmp 3 true], some (52, true)⟩,
              ⟨some 60, .lit 1 1 [.int .i64 0] [0], [.tmp 59 true], some (52, true)⟩,
              ⟨some 61, .call 42, [.tmp 53 true, .tmp 58 true, .tmp 60 true], some (52, true)⟩,
              ⟨some 62, .pick, [.tmp 52 false, .tmp 61 true, .const (.bool false)], none⟩,
              ⟨some 8, .move, [.tmp 62 true], none⟩] (some []) [2, 3, 4, 10, 46, 47, 48, 49, 52, 53, 54, 55, 56, 57, 58, 59, 60])
            .ret))))) }

/-- (runrig/ir.view).array -/

def s45 : SFunc := { fid := 45, mode := .pure, nparams := 3, nboxes := 2, clr := [], results := [.tmp 6 false], body :=
  (.seq
    (.region [
      ⟨some 3, .boxF 0 19, [.tmp 0 true], none⟩,
      ⟨some 6, .move, [.const (.bool false)], none⟩] none [6])
    (.seq
      (.region [
        ⟨some 8, .loadF 0 true 19 false, [.tmp 3 false], none⟩,
        ⟨some 9, .move, [.tmp 1 true], none⟩,
        ⟨some 10, .call 41, [.tmp 8 true, .tmp 9 true], none⟩,
        ⟨some 7, .allocF 1 [.int .i64 0, .int .i64 0, .int .i64 0], [], none⟩,
        ⟨none, .storeF 1 3, [.tmp 7 false, .tmp 10 true], none⟩] none [])
      (.seq
        (.seq
          (.region [
            ⟨some 11, .fieldAddr 2, [.tmp 7 false], none⟩,
            ⟨some 12, .loadF 1 false 1 false, [.tmp 11 true], none⟩,
            ⟨some 13, .bin .leq, [.tmp 12 true, .const (.int .i64 0)], none⟩] none [])
          (.cond (.tmp 13 true) [2, 3, 7]
            (.seq
              (.region [
                ⟨some 6, .move, [.const (.bool false)], none⟩] none [])
              .ret) []
            .skip))
        (.seq
          (.region [
            ⟨some 14, .fieldAddr 2, [.tmp 7 false], none⟩,
            ⟨some 15, .loadF 1 false 1 false, [.tmp 14 true], none⟩,
            ⟨some 16, .bin .sub, [.tmp 15 true, .const (.int .i64 1)], none⟩,
            ⟨some 17, .fieldAddr 2, [.tmp 7 false], none⟩,
            ⟨none, .storeF 1 1, [.tmp 17 true, .tmp 16 true], none⟩] none [])
          (.seq
            (.region [
              ⟨some 18, .loadF 0 true 19 false, [.tmp 3 true], none⟩,
              ⟨some 19, .loadF 1 true 3 false, [.tmp 7 true], none⟩,
              ⟨some 20, .move, [.tmp 2 true], none⟩,
              ⟨some 21, .lit 1 1 [.int .i64 0] [0], [.tmp 20 true], none⟩,
              ⟨some 22, .call 42, [.tmp 18 true, .tmp 19 true, .tmp 21 true], none⟩,
              ⟨some 6, .move, [.tmp 22 true], none⟩] none [])
            .ret))))) }

/-- (runrig/ir.view).site -/

def s46 : SFunc := { fid := 46, mode := .pure, nparams := 3, nboxes := 1, clr := [], results := [.tmp 6 false], body :=
  (.seq
    (.region [
      ⟨some 3, .boxF 0 19, [.tmp 0 true], none⟩,
      ⟨some 6, .move, [.const (.bool false)], none⟩] none [6])
    (.seq
      (.region [
        ⟨some 7, .move, [.tmp 1 false], none⟩,
        ⟨some 8, .bin .geq, [.tmp 7 true, .const (.int .i64 0)], none⟩,
        ⟨some 9, .move, [.tmp 8 true], none⟩,
        ⟨some 10, .move, [.tmp 1 false], some (9, true)⟩,
        ⟨some 11, .fieldAddr 0, [.tmp 3 false], some (9, true)⟩,
        ⟨some 12, .fieldAddr 3, [.tmp 11 true], some (9, true)⟩,
        ⟨some 13, .loadF 0 false 1 false, [.tmp 12 true], some (9, true)⟩,
        ⟨some 14, .len .sl, [.tmp 13 true], some (9, true)⟩,
        ⟨some 15, .bin .lss, [.tmp 10 true, .tmp 14 true], some (9, true)⟩,
        ⟨some 16, .pick, [.tmp 9 false, .tmp 15 true, .const (.bool false)], none⟩,
        ⟨some 17, .move, [.tmp 16 true], none⟩,
        ⟨some 18, .fieldAddr 0, [.tmp 3 false], some (17, true)⟩,
        ⟨some 19, .fieldAddr 3, [.tmp 18 true], some (17, true)⟩,
        ⟨some 20, .loadF 0 false 1 false, [.tmp 19 true], some (17, true)⟩,
        ⟨some 21, .move, [.tmp 1 false], some (17, true)⟩,
        ⟨some 22, .indexAddr 4, [.tmp 20 true, .tmp 21 true], some (17, true)⟩,
        ⟨some 23, .fieldAddr 0, [.tmp 22 true], some (17, true)⟩,
        ⟨some 24, .load false 1 false, [.tmp 23 true], some (17, true)⟩,
        ⟨some 25, .fieldAddr 5, [.tmp 3 false], some (17, true)⟩,
        ⟨some 26, .loadF 0 false 1 false, [.tmp 25 true], some (17, true)⟩,
        ⟨some 27, .bin .eql, [.tmp 24 true, .tmp 26 true], some (17, true)⟩,
        ⟨some 28, .pick, [.tmp 17 false, .tmp 27 true, .const (.bool false)], none⟩,
        ⟨some 29, .move, [.tmp 28 true], none⟩,
        ⟨some 30, .loadF 0 true 19 false, [.tmp 3 false], some (29, true)⟩,
        ⟨some 31, .fieldAddr 0, [.tmp 3 false], some (29, true)⟩,
        ⟨some 32, .fieldAddr 3, [.tmp 31 true], some (29, true)⟩,
        ⟨some 33, .loadF 0 false 1 false, [.tmp 32 true], some (29, true)⟩,
        ⟨some 34, .move, [.tmp 1 false], some (29, true)⟩,
        ⟨some 35, .indexAddr 4, [.tmp 33 true, .tmp 34 true], some (29, true)⟩,
        ⟨some 36, .fieldAddr 1, [.tmp 35 true], some (29, true)⟩,
        ⟨some 37, .load true 3 false, [.tmp 36 true], some (29, true)⟩,
        ⟨some 38, .move, [.tmp 2 true], some (29, true)⟩,
        ⟨some 39, .lit 1 1 [.int .i64 0] [0], [.tmp 38 true], some (29, true)⟩,
        ⟨some 40, .call 42, [.tmp 30 true, .tmp 37 true, .tmp 39 true], some (29, true)⟩,
        ⟨some 41, .pick, [.tmp 29 false, .tmp 40 true, .const (.bool false)], none⟩,
        ⟨some 6, .move, [.tmp 41 true], none⟩] (some []) [1, 2, 3, 9, 10, 11, 12, 13, 14, 17, 18, 19, 20, 21, 22, 23, 24, 25, 26, 29, 30, 31, 32, 33, 34, 35, 36, 37, 38, 39])
      .ret)) }

/-- (runrig/ir.view).goes -/

def s47 : SFunc := { fid := 47, mode := .pure, nparams := 1, nboxes := 2, clr := [], results := [.tmp 2 false], body :=
  (.seq
    (.region [
      ⟨some 1, .boxF 0 19, [.tmp 0 true], none⟩,
      ⟨some 2, .move, [.const (.bool false)], none⟩] none [2])
    (.seq
      (.region [
        ⟨some 4, .fieldAddr 13, [.tmp 1 false], none⟩,
        ⟨some 5, .loadF 0 true 6 false, [.tmp 4 true], none⟩,
        ⟨some 3, .allocF 1 [.int .i64 0, .int .i64 0, .int .i64 0, .int .i64 0, .int .i64 0, .nilSl], [], none⟩,
        ⟨none, .storeF 1 6, [.tmp 3 false, .tmp 5 true], none⟩] none [])
      (.seq
        (.seq
          (.region [
            ⟨some 6, .fieldAddr 0, [.tmp 3 false], none⟩,
            ⟨some 7, .loadF 1 false 1 false, [.tmp 6 true], none⟩] none [])
          (.block 0
            (.seq
              (.region [
                ⟨some 9, .bin .eql, [.tmp 7 false, .const (.int .i64 13)], none⟩,
                ⟨some 8, .move, [.tmp 9 true], none⟩] none [])
              (.cond (.tmp 8 true) [3, 7]
                (.seq
                  (.region [
                    ⟨some 10, .loadF 0 true 19 false, [.tmp 1 true], none⟩,
                    ⟨some 11, .call 49, [.tmp 10 true], none⟩,
                    ⟨some 2, .move, [.tmp 11 true], none⟩] none [])
                  .ret) []
                (.seq
                  (.seq
                    (.region [
                      ⟨some 13, .bin .eql, [.tmp 7 false, .const (.int .i64 14)], none⟩,
                      ⟨some 12, .move, [.tmp 13 true], none⟩] none [])
                    (.cond (.tmp 12 false) []
                      .skip [12]
                      (.region [
                        ⟨some 14, .bin .eql, [.tmp 7 false, .const (.int .i64 15)], none⟩,
                        ⟨some 12, .move, [.tmp 14 true], none⟩] none [])))
                  (.cond (.tmp 12 true) [7]
                    (.seq
                      (.region [
                        ⟨some 15, .loadF 0 true 19 false, [.tmp 1 true], none⟩,
                        ⟨some 16, .fieldAddr 1, [.tmp 3 true], none⟩,
                        ⟨some 17, .loadF 1 false 1 false, [.tmp 16 true], none⟩,
                        ⟨some 18, .lit 1 1 [.int .i64 0] [0], [.tmp 17 true], none⟩,
                        ⟨some 19, .call 39, [.tmp 15 true, .tmp 18 true], none⟩,
                        ⟨some 2, .move, [.tmp 19 true], none⟩] none [])
                      .ret) []
                    (.seq
                      (.region [
                        ⟨some 21, .bin .eql, [.tmp 7 false, .const (.int .i64 16)], none⟩,
                        ⟨some 20, .move, [.tmp 21 true], none⟩] none [])
                      (.cond (.tmp 20 true) [7]
                        (.seq
                          (.region [
                            ⟨some 22, .loadF 0 true 19 false, [.tmp 1 true], none⟩,
                            ⟨some 23, .fieldAddr 4, [.tmp 3 true], none⟩,
                            ⟨some 24, .loadF 1 false 1 false, [.tmp 23 true], none⟩,
                            ⟨some 25, .call 50, [.tmp 22 true, .tmp 24 true], none⟩,
                            ⟨some 2, .move, [.tmp 25 true], none⟩] none [])
                          .ret) []
                        (.seq
                          (.region [
                            ⟨some 27, .bin .eql, [.tmp 7 false, .const (.int .i64 17)], none⟩,
                            ⟨some 26, .move, [.tmp 27 true], none⟩] none [])
                          (.cond (.tmp 26 true) [7]
                            (.seq
                              (.region [
                                ⟨some 28, .loadF 0 true 19 false, [.tmp 1 false], none⟩,
                                ⟨some 29, .fieldAddr 1, [.tmp 3 false], none⟩,
                                ⟨some 30, .loadF 1 false 1 false, [.tmp 29 true], none⟩,
                                ⟨some 31, .lit 1 1 [.int .i64 0] [0], [.tmp 30 true], none⟩,
                                ⟨some 32, .call 40, [.tmp 28 true, .tmp 31 true], none⟩,
                                ⟨some 33, .move, [.tmp 32 true], none⟩,
                                ⟨some 34, .loadF 0 true 19 false, [.tmp 1 false], some (33, true)⟩,
                                ⟨some 35, .fieldAddr 4, [.tmp 3 false], some (33, true)⟩,
                                ⟨some 36, .loadF 1 false 1 false, [.tmp 35 true], some (33, true)⟩,
                                ⟨some 37, .call 50, [.tmp 34 true, .tmp 36 true], some (33, true)⟩,
                                ⟨some 38, .pick, [.tmp 33 true, .tmp 37 true, .const (.bool false)], none⟩,
                                ⟨some 39, .move, [.tmp 38 true], none⟩,
                                ⟨some 40, .loadF 0 true 19 false, [.tmp 1 true], some (39, true)⟩,
                                ⟨some 41, .fieldAddr 3, [.tmp 3 true], some (39, true)⟩,
                                ⟨some 42, .loadF 1 false 1 false, [.tmp 41 true], some (39, true)⟩,
                                ⟨some 43, .call 50, [.tmp 40 true, .tmp 42 true], some (39, true)⟩,
                                ⟨some 44, .pick, [.tmp 39 true, .tmp 43 true, .const (.bool false)], none⟩,
                                ⟨some 2, .move, [.tmp 44 true], none⟩] none [1, 3, 34, 35, 36, 40, 41, 42])
                              .ret) []
                            (.seq
                              (.region [
                                ⟨some 46, .bin .eql, [.tmp 7 true, .const (.int .i64 18)], none⟩,
                                ⟨some 45, .move, [.tmp 46 true], none⟩] none [])
                              (.cond (.tmp 45 true) []
                                (.seq
                                  (.region [
                                    ⟨some 47, .fieldAddr 6, [.tmp 1 false], none⟩,
                                    ⟨some 48, .fieldAddr 2, [.tmp 47 true], none⟩,
                                    ⟨some 49, .loadF 0 false 1 false, [.tmp 48 true], none⟩,
                                    ⟨some 50, .move, [.tmp 49 true], none⟩,
                                    ⟨some 51, .loadF 0 true 19 false, [.tmp 1 false], some (50, true)⟩,
                                    ⟨some 52, .fieldAddr 6, [.tmp 1 false], some (50, true)⟩,
                                    ⟨some 53, .fieldAddr 3, [.tmp 52 true], some (50, true)⟩,
                                    ⟨some 54, .loadF 0 true 3 false, [.tmp 53 true], some (50, true)⟩,
                                    ⟨some 55, .fieldAddr 1, [.tmp 3 false], some (50, true)⟩,
                                    ⟨some 56, .loadF 1 false 1 false, [.tmp 55 true], some (50, true)⟩,
                                    ⟨some 57, .lit 1 1 [.int .i64 0] [0], [.tmp 56 true], some (50, true)⟩,
                                    ⟨some 58, .call 42, [.tmp 51 true, .tmp 54 true, .tmp 57 true], some (50, true)⟩,
                                    ⟨some 59, .pick, [.tmp 50 true, .tmp 58 true, .const (.bool false)], none⟩,
                                    ⟨some 60, .move, [.tmp 59 true], none⟩,
                                    ⟨some 61, .fieldAddr 6, [.tmp 1 true], some (60, false)⟩,
                                    ⟨some 62, .fieldAddr 2, [.tmp 61 true], some (60, false)⟩,
                                    ⟨some 63, .loadF 0 false 1 false, [.tmp 62 true], some (60, false)⟩,
                                    ⟨some 64, .un .not, [.tmp 63 true], some (60, false)⟩,
                                    ⟨some 65, .move, [.tmp 64 true], some (60, false)⟩,
                                    ⟨some 66, .fieldAddr 1, [.tmp 3 true], some (65, true)⟩,
                                    ⟨some 67, .loadF 1 false 1 false, [.tmp 66 true], some (65, true)⟩,
                                    ⟨some 68, .bin .eql, [.tmp 67 true, .const (.int .i64 (-1))], some (65, true)⟩,
                                    ⟨some 69, .pick, [.tmp 65 true, .tmp 68 true, .const (.bool false)], some (60, false)⟩,
                                    ⟨some 70, .pick, [.tmp 60 true, .const (.bool true), .tmp 69 true], none⟩,
                                    ⟨some 2, .move, [.tmp 70 true], none⟩] none [1, 3, 51, 52, 53, 54, 55, 56, 57, 61, 62, 63, 64, 65, 66, 67, 68])
                                  .ret) []
                                .skip))))))))))))
        (.seq
          (.region [
            ⟨some 71, .loadF 0 true 19 false, [.tmp 1 true], none⟩,
            ⟨some 72, .fieldAddr 4, [.tmp 3 false], none⟩,
            ⟨some 73, .loadF 1 false 1 false, [.tmp 72 true], none⟩,
            ⟨some 74, .fieldAddr 1, [.tmp 3 true], none⟩,
            ⟨some 75, .loadF 1 false 1 false, [.tmp 74 true], none⟩,
            ⟨some 76, .call 51, [.tmp 71 true, .tmp 73 true, .tmp 75 true], none⟩,
            ⟨some 2, .move, [.tmp 76 true], none⟩] none [])
          .ret)))) }

/-- runrig/ir.none -/

def s48 : SFunc := { fid := 48, mode := .pure, nparams := 0, nboxes := 1, clr := [], results := [.box 0 0 3 true], body :=
  (.seq
    (.region [
      ⟨some 0, .allocF 0 [.int .i64 0, .int .i64 0, .int .i64 0], [], none⟩] none [])
    (.seq
      (.region [
        ⟨some 1, .build [.int .i64 0, .int .i64 0, .int .i64 0] [], [], none⟩,
        ⟨none, .storeF 0 3, [.tmp 0 false, .tmp 1 true], none⟩] none [])
      .ret)) }

/-- (runrig/ir.view).call -/
def s49_l0 : SCode :=
  (.seq
    (.region [
      ⟨some 46, .bin .lss, [.tmp 45 false, .tmp 44 false], none⟩] none [])
    (.seq
      (.cond (.tmp 46 true) []
        .skip [43, 44, 45]
        (.exit 0))
      (.seq
        (.block 1
          (.seq
            (.region [
              ⟨some 47, .move, [.tmp 45 false], none⟩,
              ⟨some 48, .indexAddr 1, [.tmp 43 false, .tmp 45 false], none⟩,
              ⟨some 49, .load false 1 false, [.tmp 48 true], none⟩,
              ⟨some 5, .move, [.tmp 47 true], none⟩,
              ⟨some 6, .move, [.tmp 49 true], none⟩] none [])
            (.seq
              (.region [
                ⟨some 50, .loadF 0 true 19 false, [.tmp 1 false], none⟩,
                ⟨some 51, .fieldAddr 1, [.tmp 4 false], none⟩,
                ⟨some 52, .loadF 2 false 1 false, [.tmp 51 true], none⟩,
                ⟨some 53, .move, [.tmp 5 true], none⟩,
                ⟨some 54, .indexAddr 3, [.tmp 52 true, .tmp 53 true], none⟩,
                ⟨some 55, .load true 3 false, [.tmp 54 true], none⟩,
                ⟨some 56, .move, [.tmp 6 true], none⟩,
                ⟨some 57, .lit 1 1 [.int .i64 0] [0], [.tmp 56 true], none⟩,
                ⟨some 58, .call 42, [.tmp 50 true, .tmp 55 true, .tmp 57 true], none⟩,
                ⟨some 59, .un .not, [.tmp 58 true], none⟩] (some []) [])
              (.cond (.tmp 59 true) [1, 3, 4, 43, 44, 45]
                (.seq
                  (.region [
                    ⟨some 2, .move, [.const (.bool false)], none⟩] none [])
                  .ret) []
                .skip))))
        (.region [
          ⟨some 60, .bin .add, [.tmp 45 true, .const (.int .i64 1)], none⟩,
          ⟨some 45, .move, [.tmp 60 true], none⟩] none []))))
def s49 : SFunc := { fid := 49, mode := .pure, nparams := 1, nboxes := 3, clr := [], results := [.tmp 2 false], body :=
  (.seq
    (.region [
      ⟨some 1, .boxF 0 19, [.tmp 0 true], none⟩,
      ⟨some 2, .move, [.const (.bool false)], none⟩] none [2])
    (.seq
      (.region [
        ⟨some 7, .fieldAddr 13, [.tmp 1 false], none⟩,
        ⟨some 8, .loadF 0 true 6 false, [.tmp 7 true], none⟩,
        ⟨some 3, .allocF 1 [.int .i64 0, .int .i64 0, .int .i64 0, .int .i64 0, .int .i64 0, .nilSl], [], none⟩,
        ⟨none, .storeF 1 6, [.tmp 3 false, .tmp 8 true], none⟩] none [])
      (.seq
        (.seq
          (.region [
            ⟨some 9, .fieldAddr 3, [.tmp 3 false], none⟩,
            ⟨some 10, .loadF 1 false 1 false, [.tmp 9 true], none⟩,
            ⟨some 11, .bin .lss, [.tmp 10 true, .const (.int .i64 0)], none⟩,
            ⟨some 12, .move, [.tmp 11 true], none⟩,
            ⟨some 13, .fieldAddr 3, [.tmp 3 false], some (12, false)⟩,
            ⟨some 14, .loadF 1 false 1 false, [.tmp 13 true], some (12, false)⟩,
            ⟨some 15, .fieldAddr 0, [.tmp 1 false], some (12, false)⟩,
            ⟨some 16, .fieldAddr 2, [.tmp 15 true], some (12, false)⟩,
            ⟨some 17, .loadF 0 false 1 false, [.tmp 16 true], some (12, false)⟩,
            ⟨some 18, .len .sl, [.tmp 17 true], some (12, false)⟩,
            ⟨some 19, .bin .geq, [.tmp 14 true, .tmp 18 true], some (12, false)⟩,
            ⟨some 20, .pick, [.tmp 12 true, .const (.bool true), .tmp 19 true], none⟩] none [13, 14, 15, 16, 17, 18])
          (.cond (.tmp 20 true) [1, 3]
            (.seq
              (.region [
                ⟨some 2, .move, [.const (.bool false)], none⟩] none [])
              .ret) []
            .skip))
        (.seq
          (.region [
            ⟨some 21, .fieldAddr 0, [.tmp 1 false], none⟩,
            ⟨some 22, .fieldAddr 2, [.tmp 21 true], none⟩,
            ⟨some 23, .loadF 0 false 1 false, [.tmp 22 true], none⟩,
            ⟨some 24, .fieldAddr 3, [.tmp 3 false], none⟩,
            ⟨some 25, .loadF 1 false 1 false, [.tmp 24 true], none⟩,
            ⟨some 26, .indexAddr 7, [.tmp 23 true, .tmp 25 true], none⟩,
            ⟨some 27, .load true 7 false, [.tmp 26 true], none⟩,
            ⟨some 4, .allocF 2 [.int .i64 0, .nilSl, .bool false, .int .i64 0, .int .i64 0, .int .i64 0, .nilSl], [], none⟩,
            ⟨none, .storeF 2 7, [.tmp 4 false, .tmp 27 true], none⟩] none [])
          (.seq
            (.seq
              (.region [
                ⟨some 28, .fieldAddr 5, [.tmp 3 false], none⟩,
                ⟨some 29, .loadF 1 false 1 false, [.tmp 28 true], none⟩,
                ⟨some 30, .len .sl, [.tmp 29 true], none⟩,
                ⟨some 31, .fieldAddr 0, [.tmp 4 false], none⟩,
                ⟨some 32, .loadF 2 false 1 false, [.tmp 31 true], none⟩,
                ⟨some 33, .bin .neq, [.tmp 30 true, .tmp 32 true], none⟩,
                ⟨some 34, .move, [.tmp 33 true], none⟩,
                ⟨some 35, .fieldAddr 0, [.tmp 4 false], some (34, false)⟩,
                ⟨some 36, .loadF 2 false 1 false, [.tmp 35 true], some (34, false)⟩,
                ⟨some 37, .fieldAddr 1, [.tmp 4 false], some (34, false)⟩,
                ⟨some 38, .loadF 2 false 1 false, [.tmp 37 true], some (34, false)⟩,
                ⟨some 39, .len .sl, [.tmp 38 true], some (34, false)⟩,
                ⟨some 40, .bin .gtr, [.tmp 36 true, .tmp 39 true], some (34, false)⟩,
                ⟨some 41, .pick, [.tmp 34 true, .const (.bool true), .tmp 40 true], none⟩] none [35, 36, 37, 38, 39])
              (.cond (.tmp 41 true) [1, 3, 4]
                (.seq
                  (.region [
                    ⟨some 2, .move, [.const (.bool false)], none⟩] none [])
                  .ret) []
                .skip))
            (.seq
              (.seq
                (.region [
                  ⟨some 42, .fieldAddr 5, [.tmp 3 false], none⟩,
                  ⟨some 43, .loadF 1 false 1 false, [.tmp 42 true], none⟩,
                  ⟨some 44, .len .sl, [.tmp 43 false], none⟩,
                  ⟨some 45, .move, [.const (.int .i64 0)], none⟩] none [])
                (.block 0
                  (.loop s49_l0)))
              (.seq
                (.region [
                  ⟨some 61, .fieldAddr 1, [.tmp 3 false], none⟩,
                  ⟨some 62, .loadF 1 false 1 false, [.tmp 61 true], none⟩,
                  ⟨some 63, .bin .eql, [.tmp 62 true, .const (.int .i64 (-1))], none⟩,
                  ⟨some 64, .move, [.tmp 63 true], none⟩,
                  ⟨some 65, .fieldAddr 2, [.tmp 4 false], some (64, false)⟩,
                  ⟨some 66, .loadF 2 false 1 false, [.tmp 65 true], some (64, false)⟩,
                  ⟨some 67, .move, [.tmp 66 true], some (64, false)⟩,
                  ⟨some 68, .loadF 0 true 19 false, [.tmp 1 true], some (67, true)⟩,
                  ⟨some 69, .fieldAddr 3, [.tmp 4 true], some (67, true)⟩,
                  ⟨some 70, .loadF 2 true 3 false, [.tmp 69 true], some (67, true)⟩,
                  ⟨some 71, .fieldAddr 1, [.tmp 3 true], some (67, true)⟩,
                  ⟨some 72, .loadF 1 false 1 false, [.tmp 71 true], some (67, true)⟩,
                  ⟨some 73, .lit 1 1 [.int .i64 0] [0], [.tmp 72 true], some (67, true)⟩,
                  ⟨some 74, .call 42, [.tmp 68 true, .tmp 70 true, .tmp 73 true], some (67, true)⟩,
                  ⟨some 75, .pick, [.tmp 67 true, .tmp 74 true, .const (.bool false)], some (64, false)⟩,
                  ⟨some 76, .pick, [.tmp 64 true, .const (.bool true), .tmp 75 true], none⟩,
                  ⟨some 2, .move, [.tmp 76 true], none⟩] none [1, 3, 4, 65, 66, 67, 68, 69, 70, 71, 72, 73, 74])
                .ret))))))) }

/-- (runrig/ir.view).place -/

def s50 : SFunc := { fid := 50, mode := .pure, nparams := 2, nboxes := 1, clr := [], results := [.tmp 4 false], body :=
  (.seq
    (.region [
      ⟨some 2, .boxF 0 19, [.tmp 0 true], none⟩,
      ⟨some 4, .move, [.const (.bool false)], none⟩] none [4])
    (.seq
      (.region [
        ⟨some 5, .move, [.tmp 1 false], none⟩,
        ⟨some 6, .bin .geq, [.tmp 5 true, .const (.int .i64 0)], none⟩,
        ⟨some 7, .move, [.tmp 6 true], none⟩,
        ⟨some 8, .move, [.tmp 1 true], some (7, true)⟩,
        ⟨some 9, .fieldAddr 6, [.tmp 2 true], some (7, true)⟩,
        ⟨some 10, .fieldAddr 6, [.tmp 9 true], some (7, true)⟩,
        ⟨some 11, .loadF 0 false 1 false, [.tmp 10 true], some (7, true)⟩,
        ⟨some 12, .len .sl, [.tmp 11 true], some (7, true)⟩,
        ⟨some 13, .bin .lss, [.tmp 8 true, .tmp 12 true], some (7, true)⟩,
        ⟨some 14, .pick, [.tmp 7 true, .tmp 13 true, .const (.bool false)], none⟩,
        ⟨some 4, .move, [.tmp 14 true], none⟩] none [1, 2, 8, 9, 10, 11, 12])
      .ret)) }

/-- (runrig/ir.view).global -/

def s51 : SFunc := { fid := 51, mode := .pure, nparams := 3, nboxes := 1, clr := [], results := [.tmp 6 false], body :=
  (.seq
    (.region [
      ⟨some 3, .boxF 0 19, [.tmp 0 true], none⟩,
      ⟨some 6, .move, [.const (.bool false)], none⟩] none [6])
    (.seq
      (.region [
        ⟨some 7, .move, [.tmp 1 false], none⟩,
        ⟨some 8, .bin .geq, [.tmp 7 true, .const (.int .i64 0)], none⟩,
        ⟨some 9, .move, [.tmp 8 true], none⟩,
        ⟨some 10, .move, [.tmp 1 false], some (9, true)⟩,
        ⟨some 11, .fieldAddr 0, [.tmp 3 false], some (9, true)⟩,
        ⟨some 12, .fieldAddr 1, [.tmp 11 true], some (9, true)⟩,
        ⟨some 13, .loadF 0 false 1 false, [.tmp 12 true], some (9, true)⟩,
        ⟨some 14, .len .sl, [.tmp 13 true], some (9, true)⟩,
        ⟨some 15, .bin .lss, [.tmp 10 true, .tmp 14 true], some (9, true)⟩,
        ⟨some 16, .pick, [.tmp 9 false, .tmp 15 true, .const (.bool false)], none⟩,
        ⟨some 17, .move, [.tmp 16 true], none⟩,
        ⟨some 18, .loadF 0 true 19 false, [.tmp 3 false], some (17, true)⟩,
        ⟨some 19, .fieldAddr 0, [.tmp 3 false], some (17, true)⟩,
        ⟨some 20, .fieldAddr 1, [.tmp 19 true], some (17, true)⟩,
        ⟨some 21, .loadF 0 false 1 false, [.tmp 20 true], some (17, true)⟩,
        ⟨some 22, .move, [.tmp 1 false], some (17, true)⟩,
        ⟨some 23, .indexAddr 3, [.tmp 21 true, .tmp 22 true], some (17, true)⟩,
        ⟨some 24, .load true 3 false, [.tmp 23 true], some (17, true)⟩,
        ⟨some 25, .move, [.tmp 2 true], some (17, true)⟩,
        ⟨some 26, .lit 1 1 [.int .i64 0] [0], [.tmp 25 true], some (17, true)⟩,
        ⟨some 27, .call 42, [.tmp 18 true, .tmp 24 true, .tmp 26 true], some (17, true)⟩,
        ⟨some 28, .pick, [.tmp 17 false, .tmp 27 true, .const (.bool false)], none⟩,
        ⟨some 6, .move, [.tmp 28 true], none⟩] (some []) [1, 2, 3, 9, 10, 11, 12, 13, 14, 17, 18, 19, 20, 21, 22, 23, 24, 25, 26])
      .ret)) }

def tbl : List (Option SFunc) := [none, none, none, some s3, some s4, some s5, some s6, some s7, some s8, some s9, some s10, some s11, some s12, some s13, some s14, some s15, some s16, some s17, some s18, some s19, some s20, some s21, some s22, some s23, some s24, some s25, some s26, some s27, some s28, some s29, some s30, some s31, some s32, some s33, some s34, some s35, some s36, some s37, some s38, some s39, some s40, some s41, some s42, some s43, some s44, some s45, some s46, some s47, some s48, some s49, some s50, some s51, none, none, none, none, none, none, none, none, none, none, none, none, none, none, none, none]
def vtbl : List (Option SFunc) := []
def S : Nat → Option SFunc := tabS tbl vtbl
end Code12
