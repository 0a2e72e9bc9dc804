/- The annotated code of the loaded program, printed by wip/tools/gen.py. -/
import Derived.Test.YtkjajfhgdlhhhaaA1

set_option maxRecDepth 100000
namespace Code10
open Ax Go

/-- runrig/runriglaw10.StorePlays -/
def s3_l0 : SCode :=
  (.seq
    (.seq
      (.region [
        ⟨some 16, .move, [.tmp 5 false], none⟩,
        ⟨some 17, .move, [.tmp 0 false], none⟩,
        ⟨some 18, .len .sl, [.tmp 17 true], none⟩,
        ⟨some 19, .bin .lss, [.tmp 16 true, .tmp 18 true], none⟩,
        ⟨some 20, .move, [.tmp 19 true], none⟩,
        ⟨some 21, .move, [.tmp 5 false], some (20, true)⟩,
        ⟨some 22, .bin .lss, [.tmp 21 true, .const (.int .i64 200)], some (20, true)⟩,
        ⟨some 23, .pick, [.tmp 20 true, .tmp 22 true, .const (.bool false)], none⟩] none [21])
      (.cond (.tmp 23 true) []
        .skip [0, 3, 4, 5]
        (.exit 0)))
    (.seq
      (.block 1
        (.seq
          (.region [
            ⟨some 26, .move, [.tmp 0 false], none⟩,
            ⟨some 27, .move, [.tmp 5 false], none⟩,
            ⟨some 28, .indexAddr 4, [.tmp 26 true, .tmp 27 true], none⟩,
            ⟨some 29, .load true 4 false, [.tmp 28 true], none⟩,
            ⟨some 6, .allocF 0 [.int .i64 0, .int .i64 0, .int .i64 0, .int .i64 0], [], none⟩,
            ⟨none, .storeF 0 4, [.tmp 6 false, .tmp 29 true], none⟩] none [])
          (.seq
            (.region [
              ⟨some 7, .move, [.const (.int .i64 0)], none⟩,
              ⟨some 8, .move, [.const (.int .i64 0)], none⟩,
              ⟨some 9, .move, [.const (.int .i64 0)], none⟩,
              ⟨some 10, .move, [.const (.int .i64 0)], none⟩] none [])
            (.seq
              (.seq
                (.region [
                  ⟨some 30, .fieldAddr 0, [.tmp 6 false], none⟩,
                  ⟨some 31, .loadF 0 false 1 false, [.tmp 30 true], none⟩] none [])
                (.block 2
                  (.seq
                    (.region [
                      ⟨some 47, .bin .eql, [.tmp 31 false, .const (.int .i64 0)], none⟩,
                      ⟨some 46, .move, [.tmp 47 true], none⟩] none [])
                    (.cond (.tmp 46 true) [7, 9, 31]
                      (.region [
                        ⟨some 48, .move, [.tmp 3 false], none⟩,
                        ⟨some 49, .fieldAddr 1, [.tmp 6 false], none⟩,
                        ⟨some 50, .loadF 0 false 1 false, [.tmp 49 true], none⟩,
                        ⟨some 51, .call 9, [.tmp 48 true, .tmp 50 true], none⟩,
                        ⟨some 52, .move, [.tmp 4 false], none⟩,
                        ⟨some 53, .fieldAddr 1, [.tmp 6 false], none⟩,
                        ⟨some 54, .loadF 0 false 1 false, [.tmp 53 true], none⟩,
                        ⟨some 55, .call 10, [.tmp 52 true, .tmp 54 true], none⟩,
                        ⟨some 7, .move, [.tmp 51 true], none⟩,
                        ⟨some 9, .move, [.tmp 55 true], none⟩] (some []) [6]) [8, 10]
                      (.seq
                        (.region [
                          ⟨some 57, .bin .eql, [.tmp 31 false, .const (.int .i64 1)], none⟩,
                          ⟨some 56, .move, [.tmp 57 true], none⟩] none [])
                        (.cond (.tmp 56 true) [7, 9, 31]
                          (.seq
                            (.region [
                              ⟨some 59, .move, [.tmp 3 false], none⟩,
                              ⟨some 60, .fieldAddr 1, [.tmp 6 false], none⟩,
                              ⟨some 61, .loadF 0 false 1 false, [.tmp 60 true], none⟩,
                              ⟨some 62, .call 11, [.tmp 59 true, .tmp 61 true], none⟩,
                              ⟨some 58, .move, [.tmp 62 true], none⟩,
                              ⟨some 63, .extract 0, [.tmp 58 false], none⟩,
                              ⟨some 64, .extract 1, [.tmp 58 true], none⟩,
                              ⟨some 7, .move, [.tmp 63 true], none⟩,
                              ⟨some 8, .move, [.tmp 64 true], none⟩] none [])
                            (.region [
                              ⟨some 66, .move, [.tmp 4 false], none⟩,
                              ⟨some 67, .fieldAddr 1, [.tmp 6 true], none⟩,
                              ⟨some 68, .loadF 0 false 1 false, [.tmp 67 true], none⟩,
                              ⟨some 69, .call 12, [.tmp 66 true, .tmp 68 true], none⟩,
                              ⟨some 65, .move, [.tmp 69 true], none⟩,
                              ⟨some 70, .extract 0, [.tmp 65 false], none⟩,
                              ⟨some 71, .extract 1, [.tmp 65 true], none⟩,
                              ⟨some 9, .move, [.tmp 70 true], none⟩,
                              ⟨some 10, .move, [.tmp 71 true], none⟩] none [])) []
                          (.seq
                            (.region [
                              ⟨some 73, .bin .eql, [.tmp 31 false, .const (.int .i64 2)], none⟩,
                              ⟨some 72, .move, [.tmp 73 true], none⟩] none [])
                            (.cond (.tmp 72 true) [7, 9, 31]
                              (.seq
                                (.region [
                                  ⟨some 75, .move, [.tmp 3 false], none⟩,
                                  ⟨some 76, .fieldAddr 1, [.tmp 6 false], none⟩,
                                  ⟨some 77, .loadF 0 false 1 false, [.tmp 76 true], none⟩,
                                  ⟨some 78, .fieldAddr 2, [.tmp 6 false], none⟩,
                                  ⟨some 79, .loadF 0 false 1 false, [.tmp 78 true], none⟩,
                                  ⟨some 80, .call 13, [.tmp 75 true, .tmp 77 true, .tmp 79 true], none⟩,
                                  ⟨some 74, .move, [.tmp 80 true], none⟩,
                                  ⟨some 81, .extract 0, [.tmp 74 false], none⟩,
                                  ⟨some 82, .extract 1, [.tmp 74 true], none⟩,
                                  ⟨some 7, .move, [.tmp 81 true], none⟩,
                                  ⟨some 8, .move, [.tmp 82 true], none⟩] none [])
                                (.region [
                                  ⟨some 84, .move, [.tmp 4 false], none⟩,
                                  ⟨some 85, .fieldAddr 1, [.tmp 6 false], none⟩,
                                  ⟨some 86, .loadF 0 false 1 false, [.tmp 85 true], none⟩,
                                  ⟨some 87, .fieldAddr 2, [.tmp 6 true], none⟩,
                                  ⟨some 88, .loadF 0 false 1 false, [.tmp 87 true], none⟩,
                                  ⟨some 89, .call 14, [.tmp 84 true, .tmp 86 true, .tmp 88 true], none⟩,
                                  ⟨some 83, .move, [.tmp 89 true], none⟩,
                                  ⟨some 90, .extract 0, [.tmp 83 false], none⟩,
                                  ⟨some 91, .extract 1, [.tmp 83 true], none⟩,
                                  ⟨some 9, .move, [.tmp 90 true], none⟩,
                                  ⟨some 10, .move, [.tmp 91 true], none⟩] none [])) []
                              (.seq
                                (.region [
                                  ⟨some 93, .bin .eql, [.tmp 31 true, .const (.int .i64 3)], none⟩,
                                  ⟨some 92, .move, [.tmp 93 true], none⟩] none [])
                                (.cond (.tmp 92 true) []
                                  (.region [
                                    ⟨some 94, .move, [.tmp 3 false], none⟩,
                                    ⟨some 95, .fieldAddr 1, [.tmp 6 false], none⟩,
                                    ⟨some 96, .loadF 0 false 1 false, [.tmp 95 true], none⟩,
                                    ⟨some 97, .fieldAddr 2, [.tmp 6 false], none⟩,
                                    ⟨some 98, .loadF 0 false 1 false, [.tmp 97 true], none⟩,
                                    ⟨some 99, .fieldAddr 3, [.tmp 6 false], none⟩,
                                    ⟨some 100, .loadF 0 false 1 false, [.tmp 99 true], none⟩,
                                    ⟨some 101, .call 15, [.tmp 94 true, .tmp 96 true, .tmp 98 true, .tmp 100 true], none⟩,
                                    ⟨some 102, .move, [.tmp 4 false], none⟩,
                                    ⟨some 103, .fieldAddr 1, [.tmp 6 false], none⟩,
                                    ⟨some 104, .loadF 0 false 1 false, [.tmp 103 true], none⟩,
                                    ⟨some 105, .fieldAddr 2, [.tmp 6 false], none⟩,
                                    ⟨some 106, .loadF 0 false 1 false, [.tmp 105 true], none⟩,
                                    ⟨some 107, .fieldAddr 3, [.tmp 6 false], none⟩,
                                    ⟨some 108, .loadF 0 false 1 false, [.tmp 107 true], none⟩,
                                    ⟨some 109, .call 16, [.tmp 102 true, .tmp 104 true, .tmp 106 true, .tmp 108 true], none⟩,
                                    ⟨some 8, .move, [.tmp 101 true], none⟩,
                                    ⟨some 10, .move, [.tmp 109 true], none⟩] (some []) [6]) [7, 9]
                                  (.seq
                                    (.region [
                                      ⟨some 33, .move, [.tmp 3 false], none⟩,
                                      ⟨some 34, .fieldAddr 1, [.tmp 6 false], none⟩,
                                      ⟨some 35, .loadF 0 false 1 false, [.tmp 34 true], none⟩,
                                      ⟨some 36, .call 17, [.tmp 33 true, .tmp 35 true], none⟩,
                                      ⟨some 32, .move, [.tmp 36 true], none⟩,
                                      ⟨some 37, .extract 0, [.tmp 32 false], none⟩,
                                      ⟨some 38, .extract 1, [.tmp 32 true], none⟩,
                                      ⟨some 7, .move, [.tmp 37 true], none⟩,
                                      ⟨some 8, .move, [.tmp 38 true], none⟩] none [])
                                    (.region [
                                      ⟨some 40, .move, [.tmp 4 false], none⟩,
                                      ⟨some 41, .fieldAddr 1, [.tmp 6 true], none⟩,
                                      ⟨some 42, .loadF 0 false 1 false, [.tmp 41 true], none⟩,
                                      ⟨some 43, .call 18, [.tmp 40 true, .tmp 42 true], none⟩,
                                      ⟨some 39, .move, [.tmp 43 true], none⟩,
                                      ⟨some 44, .extract 0, [.tmp 39 false], none⟩,
                                      ⟨some 45, .extract 1, [.tmp 39 true], none⟩,
                                      ⟨some 9, .move, [.tmp 44 true], none⟩,
                                      ⟨some 10, .move, [.tmp 45 true], none⟩] none []))))))))))))
              (.seq
                (.region [
                  ⟨some 110, .move, [.tmp 7 true], none⟩,
                  ⟨some 111, .move, [.tmp 9 true], none⟩,
                  ⟨some 112, .bin .neq, [.tmp 110 true, .tmp 111 true], none⟩,
                  ⟨some 113, .move, [.tmp 112 true], none⟩,
                  ⟨some 114, .move, [.tmp 8 true], some (113, false)⟩,
                  ⟨some 115, .move, [.tmp 10 true], some (113, false)⟩,
                  ⟨some 116, .bin .neq, [.tmp 114 true, .tmp 115 true], some (113, false)⟩,
                  ⟨some 117, .pick, [.tmp 113 false, .const (.bool true), .tmp 116 true], none⟩,
                  ⟨some 118, .move, [.tmp 117 true], none⟩,
                  ⟨some 119, .move, [.tmp 3 false], some (118, false)⟩,
                  ⟨some 120, .call 19, [.tmp 119 true], some (118, false)⟩,
                  ⟨some 121, .move, [.tmp 4 false], some (118, false)⟩,
                  ⟨some 122, .nilCheck, [.tmp 121 true], some (118, false)⟩,
                  ⟨some 123, .fieldAddr 0, [.tmp 122 true], some (118, false)⟩,
                  ⟨some 124, .load false 1 false, [.tmp 123 true], some (118, false)⟩,
                  ⟨some 125, .len .sl, [.tmp 124 true], some (118, false)⟩,
                  ⟨some 126, .bin .neq, [.tmp 120 true, .tmp 125 true], some (118, false)⟩,
                  ⟨some 127, .pick, [.tmp 118 false, .const (.bool true), .tmp 126 true], none⟩] (some [(14, 10), (15, 10)]) [8, 10, 113, 114, 115, 118, 119, 120, 121, 122, 123, 124, 125])
                (.cond (.tmp 127 true) [0, 3, 4, 5]
                  (.seq
                    (.region [
                      ⟨some 2, .move, [.const (.bool false)], none⟩] none [])
                    .ret) []
                  .skip))))))
      (.region [
        ⟨some 24, .move, [.tmp 5 true], none⟩,
        ⟨some 25, .bin .add, [.tmp 24 true, .const (.int .i64 1)], none⟩,
        ⟨some 5, .move, [.tmp 25 true], none⟩] none [])))
def s3 : SFunc := { fid := 3, mode := .pure, nparams := 1, nboxes := 1, clr := [], results := [.tmp 2 false], body :=
  (.seq
    (.region [
      ⟨some 2, .move, [.const (.bool false)], none⟩] none [2])
    (.seq
      (.region [
        ⟨some 11, .call 8, [], none⟩,
        ⟨some 12, .build [.nilSl] [], [], none⟩,
        ⟨some 13, .box 1, [.tmp 12 true], none⟩,
        ⟨some 3, .move, [.tmp 11 true], none⟩,
        ⟨some 4, .move, [.tmp 13 true], none⟩] none [])
      (.seq
        (.seq
          (.region [
            ⟨some 14, .move, [.tmp 3 false], none⟩,
            ⟨some 15, .eqv (.ptr) false, [.tmp 14 true, .const (.nilPtr)], none⟩] none [])
          (.cond (.tmp 15 true) [0, 3, 4]
            (.seq
              (.region [
                ⟨some 2, .move, [.const (.bool false)], none⟩] none [])
              .ret) []
            .skip))
        (.seq
          (.seq
            (.region [
              ⟨some 5, .move, [.const (.int .i64 0)], none⟩] none [])
            (.block 0
              (.loop s3_l0)))
          (.seq
            (.region [
              ⟨some 128, .call 20, [], none⟩,
              ⟨some 2, .move, [.tmp 128 true], none⟩] none [])
            .ret))))) }

/-- runrig/runriglaw10.StoreApart -/
def s4_l0 : SCode :=
  (.seq
    (.seq
      (.region [
        ⟨some 22, .move, [.tmp 7 false], none⟩,
        ⟨some 23, .move, [.tmp 0 false], none⟩,
        ⟨some 24, .len .sl, [.tmp 23 true], none⟩,
        ⟨some 25, .bin .lss, [.tmp 22 true, .tmp 24 true], none⟩] none [])
      (.cond (.tmp 25 true) []
        .skip [7]
        (.exit 0)))
    (.seq
      (.block 1
        (.seq
          (.region [
            ⟨some 29, .move, [.tmp 5 false], none⟩,
            ⟨some 30, .move, [.tmp 0 false], none⟩,
            ⟨some 31, .move, [.tmp 7 false], none⟩,
            ⟨some 32, .indexAddr 1, [.tmp 30 true, .tmp 31 true], none⟩,
            ⟨some 33, .load false 1 false, [.tmp 32 true], none⟩,
            ⟨some 34, .bin .and, [.tmp 33 true, .const (.int .i64 15)], none⟩,
            ⟨some 35, .call 11, [.tmp 29 true, .tmp 34 true], none⟩,
            ⟨some 28, .move, [.tmp 35 true], none⟩,
            ⟨some 36, .extract 0, [.tmp 28 false], none⟩,
            ⟨some 37, .extract 1, [.tmp 28 true], none⟩,
            ⟨some 8, .move, [.tmp 36 true], none⟩,
            ⟨some 9, .move, [.tmp 37 true], none⟩] none [])
          (.seq
            (.seq
              (.region [
                ⟨some 38, .move, [.tmp 9 true], none⟩,
                ⟨some 39, .bin .neq, [.tmp 38 true, .const (.int .i64 0)], none⟩,
                ⟨some 40, .move, [.tmp 39 true], none⟩,
                ⟨some 41, .move, [.tmp 8 false], some (40, false)⟩,
                ⟨some 42, .move, [.tmp 7 false], some (40, false)⟩,
                ⟨some 43, .bin .add, [.tmp 42 true, .const (.int .i64 1)], some (40, false)⟩,
                ⟨some 44, .bin .neq, [.tmp 41 true, .tmp 43 true], some (40, false)⟩,
                ⟨some 45, .pick, [.tmp 40 true, .const (.bool true), .tmp 44 true], none⟩] none [41, 42, 43])
              (.cond (.tmp 45 true) [0, 1, 5, 6, 7, 8]
                (.seq
                  (.region [
                    ⟨some 4, .move, [.const (.bool false)], none⟩] none [])
                  .ret) []
                .skip))
            (.region [
              ⟨some 46, .move, [.tmp 6 true], none⟩,
              ⟨some 47, .move, [.tmp 8 true], none⟩,
              ⟨some 48, .lit 1 1 [.int .i64 0] [0], [.tmp 47 true], none⟩,
              ⟨some 49, .append 1 8, [.tmp 46 true, .tmp 48 true], none⟩,
              ⟨some 6, .move, [.tmp 49 true], none⟩] none []))))
      (.region [
        ⟨some 26, .move, [.tmp 7 true], none⟩,
        ⟨some 27, .bin .add, [.tmp 26 true, .const (.int .i64 1)], none⟩,
        ⟨some 7, .move, [.tmp 27 true], none⟩] none [])))
def s4_l1 : SCode :=
  (.seq
    (.seq
      (.region [
        ⟨some 56, .move, [.tmp 11 false], none⟩,
        ⟨some 57, .move, [.tmp 0 false], none⟩,
        ⟨some 58, .move, [.tmp 10 false], none⟩,
        ⟨some 59, .indexAddr 1, [.tmp 57 true, .tmp 58 true], none⟩,
        ⟨some 60, .load false 1 false, [.tmp 59 true], none⟩,
        ⟨some 61, .bin .and, [.tmp 60 true, .const (.int .i64 15)], none⟩,
        ⟨some 62, .bin .lss, [.tmp 56 true, .tmp 61 true], none⟩] none [])
      (.cond (.tmp 62 true) []
        .skip [11]
        (.exit 4)))
    (.seq
      (.block 5
        (.seq
          (.region [
            ⟨some 65, .move, [.tmp 5 false], none⟩,
            ⟨some 66, .move, [.tmp 6 false], none⟩,
            ⟨some 67, .move, [.tmp 10 false], none⟩,
            ⟨some 68, .indexAddr 1, [.tmp 66 true, .tmp 67 true], none⟩,
            ⟨some 69, .load false 1 false, [.tmp 68 true], none⟩,
            ⟨some 70, .move, [.tmp 11 false], none⟩,
            ⟨some 71, .move, [.tmp 1 false], none⟩,
            ⟨some 72, .move, [.tmp 10 false], none⟩,
            ⟨some 73, .bin .mul, [.const (.int .i64 100), .tmp 72 true], none⟩,
            ⟨some 74, .bin .add, [.tmp 71 true, .tmp 73 true], none⟩,
            ⟨some 75, .move, [.tmp 11 false], none⟩,
            ⟨some 76, .bin .add, [.tmp 74 true, .tmp 75 true], none⟩,
            ⟨some 77, .call 15, [.tmp 65 true, .tmp 69 true, .tmp 70 true, .tmp 76 true], none⟩,
            ⟨some 78, .bin .neq, [.tmp 77 true, .const (.int .i64 0)], none⟩] none [])
          (.cond (.tmp 78 true) [0, 1, 5, 6, 10, 11]
            (.seq
              (.region [
                ⟨some 4, .move, [.const (.bool false)], none⟩] none [])
              .ret) []
            .skip)))
      (.region [
        ⟨some 63, .move, [.tmp 11 true], none⟩,
        ⟨some 64, .bin .add, [.tmp 63 true, .const (.int .i64 1)], none⟩,
        ⟨some 11, .move, [.tmp 64 true], none⟩] none [])))
def s4_l2 : SCode :=
  (.seq
    (.seq
      (.region [
        ⟨some 50, .move, [.tmp 10 false], none⟩,
        ⟨some 51, .move, [.tmp 6 false], none⟩,
        ⟨some 52, .len .sl, [.tmp 51 true], none⟩,
        ⟨some 53, .bin .lss, [.tmp 50 true, .tmp 52 true], none⟩] none [])
      (.cond (.tmp 53 true) []
        .skip [10]
        (.exit 2)))
    (.seq
      (.block 3
        (.seq
          (.region [
            ⟨some 11, .move, [.const (.int .i64 0)], none⟩] none [])
          (.block 4
            (.loop s4_l1))))
      (.region [
        ⟨some 54, .move, [.tmp 10 true], none⟩,
        ⟨some 55, .bin .add, [.tmp 54 true, .const (.int .i64 1)], none⟩,
        ⟨some 10, .move, [.tmp 55 true], none⟩] none [])))
def s4_l3 : SCode :=
  (.seq
    (.seq
      (.region [
        ⟨some 85, .move, [.tmp 13 false], none⟩,
        ⟨some 86, .move, [.tmp 0 false], none⟩,
        ⟨some 87, .move, [.tmp 12 false], none⟩,
        ⟨some 88, .indexAddr 1, [.tmp 86 true, .tmp 87 true], none⟩,
        ⟨some 89, .load false 1 false, [.tmp 88 true], none⟩,
        ⟨some 90, .bin .and, [.tmp 89 true, .const (.int .i64 15)], none⟩,
        ⟨some 91, .bin .lss, [.tmp 85 true, .tmp 90 true], none⟩] none [])
      (.cond (.tmp 91 true) []
        .skip [13]
        (.exit 8)))
    (.seq
      (.block 9
        (.seq
          (.region [
            ⟨some 95, .move, [.tmp 5 false], none⟩,
            ⟨some 96, .move, [.tmp 6 false], none⟩,
            ⟨some 97, .move, [.tmp 12 false], none⟩,
            ⟨some 98, .indexAddr 1, [.tmp 96 true, .tmp 97 true], none⟩,
            ⟨some 99, .load false 1 false, [.tmp 98 true], none⟩,
            ⟨some 100, .move, [.tmp 13 false], none⟩,
            ⟨some 101, .call 13, [.tmp 95 true, .tmp 99 true, .tmp 100 true], none⟩,
            ⟨some 94, .move, [.tmp 101 true], none⟩,
            ⟨some 102, .extract 0, [.tmp 94 false], none⟩,
            ⟨some 103, .extract 1, [.tmp 94 true], none⟩,
            ⟨some 14, .move, [.tmp 102 true], none⟩,
            ⟨some 15, .move, [.tmp 103 true], none⟩] none [])
          (.seq
            (.region [
              ⟨some 104, .move, [.tmp 15 true], none⟩,
              ⟨some 105, .bin .neq, [.tmp 104 true, .const (.int .i64 0)], none⟩,
              ⟨some 106, .move, [.tmp 105 true], none⟩,
              ⟨some 107, .move, [.tmp 14 true], some (106, false)⟩,
              ⟨some 108, .move, [.tmp 1 false], some (106, false)⟩,
              ⟨some 109, .move, [.tmp 12 false], some (106, false)⟩,
              ⟨some 110, .bin .mul, [.const (.int .i64 100), .tmp 109 true], some (106, false)⟩,
              ⟨some 111, .bin .add, [.tmp 108 true, .tmp 110 true], some (106, false)⟩,
              ⟨some 112, .move, [.tmp 13 false], some (106, false)⟩,
              ⟨some 113, .bin .add, [.tmp 111 true, .tmp 112 true], some (106, false)⟩,
              ⟨some 114, .bin .neq, [.tmp 107 true, .tmp 113 true], some (106, false)⟩,
              ⟨some 115, .pick, [.tmp 106 true, .const (.bool true), .tmp 114 true], none⟩] none [14, 107, 108, 109, 110, 111, 112, 113])
            (.cond (.tmp 115 true) [0, 1, 5, 6, 12, 13]
              (.seq
                (.region [
                  ⟨some 4, .move, [.const (.bool false)], none⟩] none [])
                .ret) []
              .skip))))
      (.region [
        ⟨some 92, .move, [.tmp 13 true], none⟩,
        ⟨some 93, .bin .add, [.tmp 92 true, .const (.int .i64 1)], none⟩,
        ⟨some 13, .move, [.tmp 93 true], none⟩] none [])))
def s4_l4 : SCode :=
  (.seq
    (.seq
      (.region [
        ⟨some 79, .move, [.tmp 12 false], none⟩,
        ⟨some 80, .move, [.tmp 6 false], none⟩,
        ⟨some 81, .len .sl, [.tmp 80 true], none⟩,
        ⟨some 82, .bin .lss, [.tmp 79 true, .tmp 81 true], none⟩] none [])
      (.cond (.tmp 82 true) []
        .skip [1, 6, 12]
        (.exit 6)))
    (.seq
      (.block 7
        (.seq
          (.region [
            ⟨some 13, .move, [.const (.int .i64 0)], none⟩] none [])
          (.block 8
            (.loop s4_l3))))
      (.region [
        ⟨some 83, .move, [.tmp 12 true], none⟩,
        ⟨some 84, .bin .add, [.tmp 83 true, .const (.int .i64 1)], none⟩,
        ⟨some 12, .move, [.tmp 84 true], none⟩] none [])))
def s4 : SFunc := { fid := 4, mode := .pure, nparams := 2, nboxes := 0, clr := [], results := [.tmp 4 false], body :=
  (.seq
    (.region [
      ⟨some 4, .move, [.const (.bool false)], none⟩] none [4])
    (.seq
      (.seq
        (.region [
          ⟨some 16, .move, [.tmp 0 false], none⟩,
          ⟨some 17, .len .sl, [.tmp 16 true], none⟩,
          ⟨some 18, .bin .gtr, [.tmp 17 true, .const (.int .i64 30)], none⟩] none [])
        (.cond (.tmp 18 true) [0, 1]
          (.seq
            (.region [
              ⟨some 4, .move, [.const (.bool true)], none⟩] none [])
            .ret) []
          .skip))
      (.seq
        (.region [
          ⟨some 19, .call 8, [], none⟩,
          ⟨some 5, .move, [.tmp 19 true], none⟩] none [])
        (.seq
          (.seq
            (.region [
              ⟨some 20, .move, [.tmp 5 false], none⟩,
              ⟨some 21, .eqv (.ptr) false, [.tmp 20 true, .const (.nilPtr)], none⟩] none [])
            (.cond (.tmp 21 true) [0, 1, 5]
              (.seq
                (.region [
                  ⟨some 4, .move, [.const (.bool false)], none⟩] none [])
                .ret) []
              .skip))
          (.seq
            (.region [
              ⟨some 6, .move, [.const (.nilSl)], none⟩] none [])
            (.seq
              (.seq
                (.region [
                  ⟨some 7, .move, [.const (.int .i64 0)], none⟩] none [])
                (.block 0
                  (.loop s4_l0)))
              (.seq
                (.seq
                  (.region [
                    ⟨some 10, .move, [.const (.int .i64 0)], none⟩] none [])
                  (.block 2
                    (.loop s4_l2)))
                (.seq
                  (.seq
                    (.region [
                      ⟨some 12, .move, [.const (.int .i64 0)], none⟩] none [])
                    (.block 6
                      (.loop s4_l4)))
                  (.seq
                    (.region [
                      ⟨some 116, .move, [.tmp 5 true], none⟩,
                      ⟨some 117, .call 19, [.tmp 116 true], none⟩,
                      ⟨some 118, .move, [.tmp 0 true], none⟩,
                      ⟨some 119, .len .sl, [.tmp 118 true], none⟩,
                      ⟨some 120, .bin .eql, [.tmp 117 true, .tmp 119 true], none⟩,
                      ⟨some 121, .move, [.tmp 120 true], none⟩,
                      ⟨some 122, .call 20, [], some (121, true)⟩,
                      ⟨some 123, .pick, [.tmp 121 true, .tmp 122 true, .const (.bool false)], none⟩,
                      ⟨some 4, .move, [.tmp 123 true], none⟩] none [])
                    .ret))))))))) }

/-- runrig/runriglaw10.StoreNil -/

def s5 : SFunc := { fid := 5, mode := .pure, nparams := 3, nboxes := 0, clr := [], results := [.tmp 6 false], body :=
  (.seq
    (.region [
      ⟨some 6, .move, [.const (.bool false)], none⟩] none [6])
    (.seq
      (.region [
        ⟨some 7, .move, [.const (.nilPtr)], none⟩] none [])
      (.seq
        (.region [
          ⟨some 15, .move, [.tmp 7 false], none⟩,
          ⟨some 16, .move, [.tmp 0 false], none⟩,
          ⟨some 17, .call 11, [.tmp 15 true, .tmp 16 true], none⟩,
          ⟨some 14, .move, [.tmp 17 true], none⟩,
          ⟨some 18, .extract 0, [.tmp 14 false], none⟩,
          ⟨some 19, .extract 1, [.tmp 14 true], none⟩,
          ⟨some 8, .move, [.tmp 18 true], none⟩,
          ⟨some 9, .move, [.tmp 19 true], none⟩] none [])
        (.seq
          (.region [
            ⟨some 21, .move, [.tmp 7 false], none⟩,
            ⟨some 22, .move, [.tmp 0 false], none⟩,
            ⟨some 23, .call 17, [.tmp 21 true, .tmp 22 true], none⟩,
            ⟨some 20, .move, [.tmp 23 true], none⟩,
            ⟨some 24, .extract 0, [.tmp 20 false], none⟩,
            ⟨some 25, .extract 1, [.tmp 20 true], none⟩,
            ⟨some 10, .move, [.tmp 24 true], none⟩,
            ⟨some 11, .move, [.tmp 25 true], none⟩] none [])
          (.seq
            (.region [
              ⟨some 27, .move, [.tmp 7 false], none⟩,
              ⟨some 28, .move, [.tmp 0 false], none⟩,
              ⟨some 29, .move, [.tmp 1 false], none⟩,
              ⟨some 30, .call 13, [.tmp 27 true, .tmp 28 true, .tmp 29 true], none⟩,
              ⟨some 26, .move, [.tmp 30 true], none⟩,
              ⟨some 31, .extract 0, [.tmp 26 false], none⟩,
              ⟨some 32, .extract 1, [.tmp 26 true], none⟩,
              ⟨some 12, .move, [.tmp 31 true], none⟩,
              ⟨some 13, .move, [.tmp 32 true], none⟩] none [])
            (.seq
              (.region [
                ⟨some 33, .move, [.tmp 7 false], none⟩,
                ⟨some 34, .move, [.tmp 0 false], none⟩,
                ⟨some 35, .call 9, [.tmp 33 true, .tmp 34 true], none⟩,
                ⟨some 36, .bin .eql, [.tmp 35 true, .const (.int .i64 0)], none⟩,
                ⟨some 37, .move, [.tmp 36 true], none⟩,
                ⟨some 38, .move, [.tmp 8 true], some (37, true)⟩,
                ⟨some 39, .bin .eql, [.tmp 38 true, .const (.int .i64 0)], some (37, true)⟩,
                ⟨some 40, .pick, [.tmp 37 true, .tmp 39 true, .const (.bool false)], none⟩,
                ⟨some 41, .move, [.tmp 40 true], none⟩,
                ⟨some 42, .move, [.tmp 9 true], some (41, true)⟩,
                ⟨some 43, .bin .eql, [.tmp 42 true, .const (.int .i64 1)], some (41, true)⟩,
                ⟨some 44, .pick, [.tmp 41 true, .tmp 43 true, .const (.bool false)], none⟩,
                ⟨some 45, .move, [.tmp 44 true], none⟩,
                ⟨some 46, .move, [.tmp 10 true], some (45, true)⟩,
                ⟨some 47, .bin .eql, [.tmp 46 true, .const (.int .i64 0)], some (45, true)⟩,
                ⟨some 48, .pick, [.tmp 45 true, .tmp 47 true, .const (.bool false)], none⟩,
                ⟨some 49, .move, [.tmp 48 true], none⟩,
                ⟨some 50, .move, [.tmp 11 true], some (49, true)⟩,
                ⟨some 51, .bin .eql, [.tmp 50 true, .const (.int .i64 1)], some (49, true)⟩,
                ⟨some 52, .pick, [.tmp 49 true, .tmp 51 true, .const (.bool false)], none⟩,
                ⟨some 53, .move, [.tmp 52 true], none⟩,
                ⟨some 54, .move, [.tmp 12 true], some (53, true)⟩,
                ⟨some 55, .bin .eql, [.tmp 54 true, .const (.int .i64 0)], some (53, true)⟩,
                ⟨some 56, .pick, [.tmp 53 true, .tmp 55 true, .const (.bool false)], none⟩,
                ⟨some 57, .move, [.tmp 56 true], none⟩,
                ⟨some 58, .move, [.tmp 13 true], some (57, true)⟩,
                ⟨some 59, .bin .eql, [.tmp 58 true, .const (.int .i64 1)], some (57, true)⟩,
                ⟨some 60, .pick, [.tmp 57 true, .tmp 59 true, .const (.bool false)], none⟩,
                ⟨some 61, .move, [.tmp 60 true], none⟩,
                ⟨some 62, .move, [.tmp 7 false], some (61, true)⟩,
                ⟨some 63, .move, [.tmp 0 true], some (61, true)⟩,
                ⟨some 64, .move, [.tmp 1 true], some (61, true)⟩,
                ⟨some 65, .move, [.tmp 2 true], some (61, true)⟩,
                ⟨some 66, .call 15, [.tmp 62 true, .tmp 63 true, .tmp 64 true, .tmp 65 true], some (61, true)⟩,
                ⟨some 67, .bin .eql, [.tmp 66 true, .const (.int .i64 1)], some (61, true)⟩,
                ⟨some 68, .pick, [.tmp 61 true, .tmp 67 true, .const (.bool false)], none⟩,
                ⟨some 69, .move, [.tmp 68 true], none⟩,
                ⟨some 70, .move, [.tmp 7 true], some (69, true)⟩,
                ⟨some 71, .call 19, [.tmp 70 true], some (69, true)⟩,
                ⟨some 72, .bin .eql, [.tmp 71 true, .const (.int .i64 0)], some (69, true)⟩,
                ⟨some 73, .pick, [.tmp 69 true, .tmp 72 true, .const (.bool false)], none⟩,
                ⟨some 74, .move, [.tmp 73 true], none⟩,
                ⟨some 75, .call 20, [], some (74, true)⟩,
                ⟨some 76, .pick, [.tmp 74 true, .tmp 75 true, .const (.bool false)], none⟩,
                ⟨some 6, .move, [.tmp 76 true], none⟩] none [0, 1, 2, 7, 8, 9, 10, 11, 12, 13, 38, 42, 46, 50, 54, 58, 62, 63, 64, 65, 66, 70, 71])
              .ret)))))) }

/-- runrig/runriglaw10.StoreSizes -/

def s6 : SFunc := { fid := 6, mode := .pure, nparams := 2, nboxes := 0, clr := [], results := [.tmp 4 false], body :=
  (.seq
    (.region [
      ⟨some 4, .move, [.const (.bool false)], none⟩] none [4])
    (.seq
      (.region [
        ⟨some 13, .call 8, [], none⟩,
        ⟨some 5, .move, [.tmp 13 true], none⟩] none [])
      (.seq
        (.seq
          (.region [
            ⟨some 14, .move, [.tmp 5 false], none⟩,
            ⟨some 15, .eqv (.ptr) false, [.tmp 14 true, .const (.nilPtr)], none⟩] none [])
          (.cond (.tmp 15 true) [0, 1, 5]
            (.seq
              (.region [
                ⟨some 4, .move, [.const (.bool false)], none⟩] none [])
              .ret) []
            .skip))
        (.seq
          (.region [
            ⟨some 16, .move, [.tmp 5 false], none⟩,
            ⟨some 17, .move, [.tmp 0 false], none⟩,
            ⟨some 18, .call 9, [.tmp 16 true, .tmp 17 true], none⟩,
            ⟨some 6, .move, [.tmp 18 true], none⟩] none [])
          (.seq
            (.region [
              ⟨some 20, .move, [.tmp 5 false], none⟩,
              ⟨some 21, .move, [.tmp 6 true], none⟩,
              ⟨some 22, .call 17, [.tmp 20 true, .tmp 21 true], none⟩,
              ⟨some 19, .move, [.tmp 22 true], none⟩,
              ⟨some 23, .extract 0, [.tmp 19 false], none⟩,
              ⟨some 24, .extract 1, [.tmp 19 true], none⟩,
              ⟨some 7, .move, [.tmp 23 true], none⟩,
              ⟨some 8, .move, [.tmp 24 true], none⟩] none [])
            (.seq
              (.region [
                ⟨some 26, .move, [.tmp 5 false], none⟩,
                ⟨some 27, .move, [.tmp 1 false], none⟩,
                ⟨some 28, .call 11, [.tmp 26 true, .tmp 27 true], none⟩,
                ⟨some 25, .move, [.tmp 28 true], none⟩,
                ⟨some 29, .extract 0, [.tmp 25 false], none⟩,
                ⟨some 30, .extract 1, [.tmp 25 true], none⟩,
                ⟨some 9, .move, [.tmp 29 true], none⟩,
                ⟨some 10, .move, [.tmp 30 true], none⟩] none [])
              (.seq
                (.seq
                  (.region [
                    ⟨some 31, .move, [.tmp 7 true], none⟩,
                    ⟨some 32, .move, [.tmp 0 true], none⟩,
                    ⟨some 33, .minmax false, [.tmp 32 true, .const (.int .i64 8)], none⟩,
                    ⟨some 34, .minmax true, [.const (.int .i64 0), .tmp 33 true], none⟩,
                    ⟨some 35, .bin .neq, [.tmp 31 true, .tmp 34 true], none⟩,
                    ⟨some 36, .move, [.tmp 35 true], none⟩,
                    ⟨some 37, .move, [.tmp 8 true], some (36, false)⟩,
                    ⟨some 38, .bin .neq, [.tmp 37 true, .const (.int .i64 0)], some (36, false)⟩,
                    ⟨some 39, .pick, [.tmp 36 true, .const (.bool true), .tmp 38 true], none⟩] none [8, 37])
                  (.cond (.tmp 39 true) [1, 5, 9, 10]
                    (.seq
                      (.region [
                        ⟨some 4, .move, [.const (.bool false)], none⟩] none [])
                      .ret) []
                    .skip))
                (.seq
                  (.seq
                    (.region [
                      ⟨some 40, .move, [.tmp 1 false], none⟩,
                      ⟨some 41, .bin .lss, [.tmp 40 true, .const (.int .i64 0)], none⟩,
                      ⟨some 42, .move, [.tmp 41 true], none⟩,
                      ⟨some 43, .move, [.tmp 1 false], some (42, false)⟩,
                      ⟨some 44, .bin .gtr, [.tmp 43 true, .const (.int .i64 50)], some (42, false)⟩,
                      ⟨some 45, .pick, [.tmp 42 true, .const (.bool true), .tmp 44 true], none⟩] none [43])
                    (.cond (.tmp 45 true) [1]
                      (.seq
                        (.region [
                          ⟨some 46, .move, [.tmp 9 true], none⟩,
                          ⟨some 47, .bin .eql, [.tmp 46 true, .const (.int .i64 0)], none⟩,
                          ⟨some 48, .move, [.tmp 47 true], none⟩,
                          ⟨some 49, .move, [.tmp 10 true], some (48, true)⟩,
                          ⟨some 50, .bin .eql, [.tmp 49 true, .const (.int .i64 4)], some (48, true)⟩,
                          ⟨some 51, .pick, [.tmp 48 true, .tmp 50 true, .const (.bool false)], none⟩,
                          ⟨some 52, .move, [.tmp 51 true], none⟩,
                          ⟨some 53, .move, [.tmp 5 true], some (52, true)⟩,
                          ⟨some 54, .call 19, [.tmp 53 true], some (52, true)⟩,
                          ⟨some 55, .bin .eql, [.tmp 54 true, .const (.int .i64 1)], some (52, true)⟩,
                          ⟨some 56, .pick, [.tmp 52 true, .tmp 55 true, .const (.bool false)], none⟩,
                          ⟨some 57, .move, [.tmp 56 true], none⟩,
                          ⟨some 58, .call 20, [], some (57, true)⟩,
                          ⟨some 59, .pick, [.tmp 57 true, .tmp 58 true, .const (.bool false)], none⟩,
                          ⟨some 4, .move, [.tmp 59 true], none⟩] none [5, 10, 49, 53, 54])
                        .ret) []
                      .skip))
                  (.seq
                    (.region [
                      ⟨some 61, .move, [.tmp 5 false], none⟩,
                      ⟨some 62, .move, [.tmp 9 false], none⟩,
                      ⟨some 63, .call 17, [.tmp 61 true, .tmp 62 true], none⟩,
                      ⟨some 60, .move, [.tmp 63 true], none⟩,
                      ⟨some 64, .extract 0, [.tmp 60 false], none⟩,
                      ⟨some 65, .extract 1, [.tmp 60 true], none⟩,
                      ⟨some 11, .move, [.tmp 64 true], none⟩,
                      ⟨some 12, .move, [.tmp 65 true], none⟩] none [])
                    (.seq
                      (.region [
                        ⟨some 66, .move, [.tmp 9 true], none⟩,
                        ⟨some 67, .bin .eql, [.tmp 66 true, .const (.int .i64 2)], none⟩,
                        ⟨some 68, .move, [.tmp 67 true], none⟩,
                        ⟨some 69, .move, [.tmp 10 true], some (68, true)⟩,
                        ⟨some 70, .bin .eql, [.tmp 69 true, .const (.int .i64 0)], some (68, true)⟩,
                        ⟨some 71, .pick, [.tmp 68 true, .tmp 70 true, .const (.bool false)], none⟩,
                        ⟨some 72, .move, [.tmp 71 true], none⟩,
                        ⟨some 73, .move, [.tmp 11 true], some (72, true)⟩,
                        ⟨some 74, .move, [.tmp 1 true], some (72, true)⟩,
                        ⟨some 75, .bin .eql, [.tmp 73 true, .tmp 74 true], some (72, true)⟩,
                        ⟨some 76, .pick, [.tmp 72 true, .tmp 75 true, .const (.bool false)], none⟩,
                        ⟨some 77, .move, [.tmp 76 true], none⟩,
                        ⟨some 78, .move, [.tmp 12 true], some (77, true)⟩,
                        ⟨some 79, .bin .eql, [.tmp 78 true, .const (.int .i64 0)], some (77, true)⟩,
                        ⟨some 80, .pick, [.tmp 77 true, .tmp 79 true, .const (.bool false)], none⟩,
                        ⟨some 81, .move, [.tmp 80 true], none⟩,
                        ⟨some 82, .move, [.tmp 5 true], some (81, true)⟩,
                        ⟨some 83, .call 19, [.tmp 82 true], some (81, true)⟩,
                        ⟨some 84, .bin .eql, [.tmp 83 true, .const (.int .i64 2)], some (81, true)⟩,
                        ⟨some 85, .pick, [.tmp 81 true, .tmp 84 true, .const (.bool false)], none⟩,
                        ⟨some 86, .move, [.tmp 85 true], none⟩,
                        ⟨some 87, .call 20, [], some (86, true)⟩,
                        ⟨some 88, .pick, [.tmp 86 true, .tmp 87 true, .const (.bool false)], none⟩,
                        ⟨some 4, .move, [.tmp 88 true], none⟩] none [1, 5, 10, 11, 12, 69, 73, 74, 78, 82, 83])
                      .ret)))))))))) }

/-- runrig/runriglaw10.StoreEdges -/

def s7 : SFunc := { fid := 7, mode := .pure, nparams := 2, nboxes := 0, clr := [], results := [.tmp 4 false], body :=
  (.seq
    (.region [
      ⟨some 4, .move, [.const (.bool false)], none⟩] none [4])
    (.seq
      (.seq
        (.region [
          ⟨some 16, .move, [.tmp 0 false], none⟩,
          ⟨some 17, .bin .lss, [.tmp 16 true, .const (.int .i64 0)], none⟩,
          ⟨some 18, .move, [.tmp 17 true], none⟩,
          ⟨some 19, .move, [.tmp 0 false], some (18, false)⟩,
          ⟨some 20, .bin .gtr, [.tmp 19 true, .const (.int .i64 50)], some (18, false)⟩,
          ⟨some 21, .pick, [.tmp 18 true, .const (.bool true), .tmp 20 true], none⟩] none [19])
        (.cond (.tmp 21 true) [0, 1]
          (.seq
            (.region [
              ⟨some 4, .move, [.const (.bool true)], none⟩] none [])
            .ret) []
          .skip))
      (.seq
        (.region [
          ⟨some 22, .call 8, [], none⟩,
          ⟨some 5, .move, [.tmp 22 true], none⟩] none [])
        (.seq
          (.seq
            (.region [
              ⟨some 23, .move, [.tmp 5 false], none⟩,
              ⟨some 24, .eqv (.ptr) false, [.tmp 23 true, .const (.nilPtr)], none⟩] none [])
            (.cond (.tmp 24 true) [0, 1, 5]
              (.seq
                (.region [
                  ⟨some 4, .move, [.const (.bool false)], none⟩] none [])
                .ret) []
              .skip))
          (.seq
            (.region [
              ⟨some 26, .move, [.tmp 5 false], none⟩,
              ⟨some 27, .move, [.tmp 0 false], none⟩,
              ⟨some 28, .call 11, [.tmp 26 true, .tmp 27 true], none⟩,
              ⟨some 25, .move, [.tmp 28 true], none⟩,
              ⟨some 29, .extract 0, [.tmp 25 false], none⟩,
              ⟨some 30, .extract 1, [.tmp 25 true], none⟩,
              ⟨some 6, .move, [.tmp 29 true], none⟩,
              ⟨some 7, .move, [.tmp 30 true], none⟩] none [7])
            (.seq
              (.region [
                ⟨some 32, .move, [.tmp 5 false], none⟩,
                ⟨some 33, .move, [.tmp 6 false], none⟩,
                ⟨some 34, .move, [.tmp 1 false], none⟩,
                ⟨some 35, .call 13, [.tmp 32 true, .tmp 33 true, .tmp 34 true], none⟩,
                ⟨some 31, .move, [.tmp 35 true], none⟩,
                ⟨some 36, .extract 0, [.tmp 31 false], none⟩,
                ⟨some 37, .extract 1, [.tmp 31 true], none⟩,
                ⟨some 8, .move, [.tmp 36 true], none⟩,
                ⟨some 9, .move, [.tmp 37 true], none⟩] none [8])
              (.seq
                (.region [
                  ⟨some 38, .move, [.tmp 5 false], none⟩,
                  ⟨some 39, .move, [.tmp 6 false], none⟩,
                  ⟨some 40, .move, [.tmp 1 false], none⟩,
                  ⟨some 41, .call 15, [.tmp 38 true, .tmp 39 true, .tmp 40 true, .const (.int .i64 5)], none⟩,
                  ⟨some 10, .move, [.tmp 41 true], none⟩] none [])
                (.seq
                  (.region [
                    ⟨some 11, .move, [.const (.int .i64 2)], none⟩] none [])
                  (.seq
                    (.seq
                      (.region [
                        ⟨some 42, .move, [.tmp 1 false], none⟩,
                        ⟨some 43, .bin .geq, [.tmp 42 true, .const (.int .i64 0)], none⟩,
                        ⟨some 44, .move, [.tmp 43 true], none⟩,
                        ⟨some 45, .move, [.tmp 1 false], some (44, true)⟩,
                        ⟨some 46, .move, [.tmp 0 true], some (44, true)⟩,
                        ⟨some 47, .bin .lss, [.tmp 45 true, .tmp 46 true], some (44, true)⟩,
                        ⟨some 48, .pick, [.tmp 44 true, .tmp 47 true, .const (.bool false)], none⟩] none [0, 45, 46])
                      (.cond (.tmp 48 true) [11]
                        (.region [
                          ⟨some 11, .move, [.const (.int .i64 0)], none⟩] none []) []
                        .skip))
                    (.seq
                      (.region [
                        ⟨some 50, .move, [.tmp 5 false], none⟩,
                        ⟨some 51, .move, [.tmp 1 false], none⟩,
                        ⟨some 52, .call 13, [.tmp 50 true, .const (.int .i64 0), .tmp 51 true], none⟩,
                        ⟨some 49, .move, [.tmp 52 true], none⟩,
                        ⟨some 53, .extract 0, [.tmp 49 false], none⟩,
                        ⟨some 54, .extract 1, [.tmp 49 true], none⟩,
                        ⟨some 12, .move, [.tmp 53 true], none⟩,
                        ⟨some 13, .move, [.tmp 54 true], none⟩] none [12])
                      (.seq
                        (.region [
                          ⟨some 56, .move, [.tmp 5 false], none⟩,
                          ⟨some 57, .move, [.tmp 6 true], none⟩,
                          ⟨some 58, .bin .add, [.tmp 57 true, .const (.int .i64 1)], none⟩,
                          ⟨some 59, .move, [.tmp 1 false], none⟩,
                          ⟨some 60, .call 13, [.tmp 56 true, .tmp 58 true, .tmp 59 true], none⟩,
                          ⟨some 55, .move, [.tmp 60 true], none⟩,
                          ⟨some 61, .extract 0, [.tmp 55 false], none⟩,
                          ⟨some 62, .extract 1, [.tmp 55 true], none⟩,
                          ⟨some 14, .move, [.tmp 61 true], none⟩,
                          ⟨some 15, .move, [.tmp 62 true], none⟩] none [14])
                        (.seq
                          (.region [
                            ⟨some 63, .move, [.tmp 9 true], none⟩,
                            ⟨some 64, .move, [.tmp 11 false], none⟩,
                            ⟨some 65, .bin .eql, [.tmp 63 true, .tmp 64 true], none⟩,
                            ⟨some 66, .move, [.tmp 65 true], none⟩,
                            ⟨some 67, .move, [.tmp 10 true], some (66, true)⟩,
                            ⟨some 68, .move, [.tmp 11 true], some (66, true)⟩,
                            ⟨some 69, .bin .eql, [.tmp 67 true, .tmp 68 true], some (66, true)⟩,
                            ⟨some 70, .pick, [.tmp 66 true, .tmp 69 true, .const (.bool false)], none⟩,
                            ⟨some 71, .move, [.tmp 70 true], none⟩,
                            ⟨some 72, .move, [.tmp 13 true], some (71, true)⟩,
                            ⟨some 73, .bin .eql, [.tmp 72 true, .const (.int .i64 1)], some (71, true)⟩,
                            ⟨some 74, .pick, [.tmp 71 true, .tmp 73 true, .const (.bool false)], none⟩,
                            ⟨some 75, .move, [.tmp 74 true], none⟩,
                            ⟨some 76, .move, [.tmp 15 true], some (75, true)⟩,
                            ⟨some 77, .bin .eql, [.tmp 76 true, .const (.int .i64 1)], some (75, true)⟩,
                            ⟨some 78, .pick, [.tmp 75 true, .tmp 77 true, .const (.bool false)], none⟩,
                            ⟨some 79, .move, [.tmp 78 true], none⟩,
                            ⟨some 80, .move, [.tmp 5 true], some (79, true)⟩,
                            ⟨some 81, .move, [.tmp 1 true], some (79, true)⟩,
                            ⟨some 82, .call 15, [.tmp 80 true, .const (.int .i64 (-1)), .tmp 81 true, .const (.int .i64 1)], some (79, true)⟩,
                            ⟨some 83, .bin .eql, [.tmp 82 true, .const (.int .i64 1)], some (79, true)⟩,
                            ⟨some 84, .pick, [.tmp 79 true, .tmp 83 true, .const (.bool false)], none⟩,
                            ⟨some 85, .move, [.tmp 84 true], none⟩,
                            ⟨some 86, .call 20, [], some (85, true)⟩,
                            ⟨some 87, .pick, [.tmp 85 true, .tmp 86 true, .const (.bool false)], none⟩,
                            ⟨some 4, .move, [.tmp 87 true], none⟩] none [1, 5, 10, 11, 13, 15, 67, 68, 72, 76, 80, 81, 82])
                          .ret)))))))))))) }

/-- runrig/store.New -/

def s8 : SFunc := { fid := 8, mode := .opn, nparams := 0, nboxes := 0, clr := [], results := [.tmp 0 false], body :=
  (.seq
    (.region [
      ⟨some 0, .move, [.const (.nilPtr)], none⟩] none [0])
    (.seq
      (.region [
        ⟨some 1, .build [.nilSl] [], [], none⟩,
        ⟨some 2, .box 1, [.tmp 1 true], none⟩,
        ⟨some 0, .move, [.tmp 2 true], none⟩] none [])
      .ret)) }

/-- (*runrig/store.Store).Rec -/

def s9 : SFunc := { fid := 9, mode := .opn, nparams := 2, nboxes := 0, clr := [], results := [.tmp 4 false], body :=
  (.seq
    (.region [
      ⟨some 4, .move, [.const (.int .i64 0)], none⟩] none [4])
    (.seq
      (.seq
        (.region [
          ⟨some 5, .move, [.tmp 0 false], none⟩,
          ⟨some 6, .eqv (.ptr) false, [.tmp 5 true, .const (.nilPtr)], none⟩] none [])
        (.cond (.tmp 6 true) [0, 1]
          (.seq
            (.region [
              ⟨some 4, .move, [.const (.int .i64 0)], none⟩] none [])
            .ret) []
          .skip))
      (.seq
        (.region [
          ⟨some 7, .move, [.tmp 0 true], none⟩,
          ⟨some 8, .move, [.tmp 1 true], none⟩,
          ⟨some 9, .minmax true, [.tmp 8 true, .const (.int .i64 0)], none⟩,
          ⟨some 10, .minmax false, [.tmp 9 true, .const (.int .i64 8)], none⟩,
          ⟨some 11, .call 21, [.tmp 7 true, .tmp 10 true], none⟩,
          ⟨some 4, .move, [.tmp 11 true], none⟩] none [])
        .ret))) }

/-- (*runrig/runrigref10.Store).Rec -/

def s10 : SFunc := { fid := 10, mode := .opn, nparams := 2, nboxes := 0, clr := [], results := [.tmp 4 false], body :=
  (.seq
    (.region [
      ⟨some 4, .move, [.const (.int .i64 0)], none⟩] none [4])
    (.seq
      (.region [
        ⟨some 5, .move, [.tmp 0 false], none⟩,
        ⟨some 6, .move, [.tmp 0 false], none⟩,
        ⟨some 7, .nilCheck, [.tmp 6 true], none⟩,
        ⟨some 8, .fieldAddr 0, [.tmp 7 true], none⟩,
        ⟨some 9, .load false 1 false, [.tmp 8 true], none⟩,
        ⟨some 10, .move, [.tmp 1 true], none⟩,
        ⟨some 11, .minmax false, [.tmp 10 true, .const (.int .i64 8)], none⟩,
        ⟨some 12, .minmax true, [.const (.int .i64 0), .tmp 11 true], none⟩,
        ⟨some 13, .makeSl 1 8 [.int .i64 0] true, [.tmp 12 false, .tmp 12 false], none⟩,
        ⟨some 14, .litM 1 1 [.nilSl] [0], [.tmp 13 true], none⟩,
        ⟨some 15, .appendM 1 24, [.tmp 9 true, .tmp 14 true], none⟩,
        ⟨some 16, .nilCheck, [.tmp 5 true], none⟩,
        ⟨some 17, .fieldAddr 0, [.tmp 16 true], none⟩,
        ⟨none, .store 1, [.tmp 17 true, .tmp 15 true], none⟩] (some [(4, 8), (4, 9)]) [12])
      (.seq
        (.region [
          ⟨some 18, .move, [.tmp 0 true], none⟩,
          ⟨some 19, .nilCheck, [.tmp 18 true], none⟩,
          ⟨some 20, .fieldAddr 0, [.tmp 19 true], none⟩,
          ⟨some 21, .load false 1 false, [.tmp 20 true], none⟩,
          ⟨some 22, .len .sl, [.tmp 21 true], none⟩,
          ⟨some 4, .move, [.tmp 22 true], none⟩] none [])
        .ret))) }

/-- (*runrig/store.Store).Arr -/

def s11 : SFunc := { fid := 11, mode := .opn, nparams := 2, nboxes := 0, clr := [], results := [.tmp 4 false, .tmp 5 false], body :=
  (.seq
    (.region [
      ⟨some 4, .move, [.const (.int .i64 0)], none⟩,
      ⟨some 5, .move, [.const (.int .i64 0)], none⟩] none [4, 5])
    (.seq
      (.block 0
        (.seq
          (.region [
            ⟨some 7, .move, [.tmp 0 false], none⟩,
            ⟨some 8, .eqv (.ptr) false, [.tmp 7 true, .const (.nilPtr)], none⟩,
            ⟨some 6, .move, [.tmp 8 true], none⟩] none [])
          (.cond (.tmp 6 true) [0, 1]
            (.seq
              (.region [
                ⟨some 4, .move, [.const (.int .i64 0)], none⟩,
                ⟨some 5, .move, [.const (.int .i64 1)], none⟩] none [])
              .ret) []
            (.seq
              (.region [
                ⟨some 10, .move, [.tmp 1 false], none⟩,
                ⟨some 11, .bin .lss, [.tmp 10 true, .const (.int .i64 0)], none⟩,
                ⟨some 12, .move, [.tmp 11 true], none⟩,
                ⟨some 13, .move, [.tmp 1 false], some (12, false)⟩,
                ⟨some 14, .bin .gtr, [.tmp 13 true, .const (.int .i64 50)], some (12, false)⟩,
                ⟨some 15, .pick, [.tmp 12 true, .const (.bool true), .tmp 14 true], none⟩,
                ⟨some 9, .move, [.tmp 15 true], none⟩] none [13])
              (.cond (.tmp 9 true) [0, 1]
                (.seq
                  (.region [
                    ⟨some 4, .move, [.const (.int .i64 0)], none⟩,
                    ⟨some 5, .move, [.const (.int .i64 4)], none⟩] none [])
                  .ret) []
                .skip)))))
      (.seq
        (.region [
          ⟨some 16, .move, [.tmp 0 true], none⟩,
          ⟨some 17, .move, [.tmp 1 true], none⟩,
          ⟨some 18, .call 21, [.tmp 16 true, .tmp 17 true], none⟩,
          ⟨some 4, .move, [.tmp 18 true], none⟩,
          ⟨some 5, .move, [.const (.int .i64 0)], none⟩] none [])
        .ret))) }

/-- (*runrig/runrigref10.Store).Arr -/

def s12 : SFunc := { fid := 12, mode := .opn, nparams := 2, nboxes := 0, clr := [], results := [.tmp 4 false, .tmp 5 false], body :=
  (.seq
    (.region [
      ⟨some 4, .move, [.const (.int .i64 0)], none⟩,
      ⟨some 5, .move, [.const (.int .i64 0)], none⟩] none [4, 5])
    (.seq
      (.seq
        (.region [
          ⟨some 6, .move, [.tmp 1 false], none⟩,
          ⟨some 7, .bin .lss, [.tmp 6 true, .const (.int .i64 0)], none⟩,
          ⟨some 8, .move, [.tmp 7 true], none⟩,
          ⟨some 9, .move, [.tmp 1 false], some (8, false)⟩,
          ⟨some 10, .bin .gtr, [.tmp 9 true, .const (.int .i64 50)], some (8, false)⟩,
          ⟨some 11, .pick, [.tmp 8 true, .const (.bool true), .tmp 10 true], none⟩] none [9])
        (.cond (.tmp 11 true) [0, 1]
          (.seq
            (.region [
              ⟨some 4, .move, [.const (.int .i64 0)], none⟩,
              ⟨some 5, .move, [.const (.int .i64 4)], none⟩] none [])
            .ret) []
          .skip))
      (.seq
        (.region [
          ⟨some 12, .move, [.tmp 0 false], none⟩,
          ⟨some 13, .move, [.tmp 0 false], none⟩,
          ⟨some 14, .nilCheck, [.tmp 13 true], none⟩,
          ⟨some 15, .fieldAddr 0, [.tmp 14 true], none⟩,
          ⟨some 16, .load false 1 false, [.tmp 15 true], none⟩,
          ⟨some 17, .move, [.tmp 1 true], none⟩,
          ⟨some 18, .makeSl 1 8 [.int .i64 0] true, [.tmp 17 false, .tmp 17 false], none⟩,
          ⟨some 19, .litM 1 1 [.nilSl] [0], [.tmp 18 true], none⟩,
          ⟨some 20, .appendM 1 24, [.tmp 16 true, .tmp 19 true], none⟩,
          ⟨some 21, .nilCheck, [.tmp 12 true], none⟩,
          ⟨some 22, .fieldAddr 0, [.tmp 21 true], none⟩,
          ⟨none, .store 1, [.tmp 22 true, .tmp 20 true], none⟩] (some [(4, 6), (4, 7)]) [17])
        (.seq
          (.region [
            ⟨some 23, .move, [.tmp 0 true], none⟩,
            ⟨some 24, .nilCheck, [.tmp 23 true], none⟩,
            ⟨some 25, .fieldAddr 0, [.tmp 24 true], none⟩,
            ⟨some 26, .load false 1 false, [.tmp 25 true], none⟩,
            ⟨some 27, .len .sl, [.tmp 26 true], none⟩,
            ⟨some 4, .move, [.tmp 27 true], none⟩,
            ⟨some 5, .move, [.const (.int .i64 0)], none⟩] none [])
          .ret)))) }

/-- (*runrig/store.Store).Load -/

def s13 : SFunc := { fid := 13, mode := .scp, nparams := 3, nboxes := 0, clr := [], results := [.tmp 6 false, .tmp 7 false], body :=
  (.seq
    (.region [
      ⟨some 6, .move, [.const (.int .i64 0)], none⟩,
      ⟨some 7, .move, [.const (.int .i64 0)], none⟩] none [6, 7])
    (.seq
      (.region [
        ⟨some 11, .move, [.tmp 0 true], none⟩,
        ⟨some 12, .move, [.tmp 1 true], none⟩,
        ⟨some 13, .move, [.tmp 2 true], none⟩,
        ⟨some 14, .call 22, [.tmp 11 true, .tmp 12 true, .tmp 13 true], none⟩,
        ⟨some 10, .move, [.tmp 14 true], none⟩,
        ⟨some 15, .extract 0, [.tmp 10 false], none⟩,
        ⟨some 16, .extract 1, [.tmp 10 true], none⟩,
        ⟨some 8, .move, [.tmp 15 true], none⟩,
        ⟨some 9, .move, [.tmp 16 true], none⟩] none [])
      (.seq
        (.seq
          (.region [
            ⟨some 17, .move, [.tmp 9 false], none⟩,
            ⟨some 18, .bin .neq, [.tmp 17 true, .const (.int .i64 0)], none⟩] none [])
          (.cond (.tmp 18 true) [8]
            (.seq
              (.region [
                ⟨some 19, .move, [.tmp 9 true], none⟩,
                ⟨some 6, .move, [.const (.int .i64 0)], none⟩,
                ⟨some 7, .move, [.tmp 19 true], none⟩] none [])
              .ret) [9]
            .skip))
        (.seq
          (.region [
            ⟨some 20, .move, [.tmp 8 true], none⟩,
            ⟨some 21, .nilCheck, [.tmp 20 true], none⟩,
            ⟨some 22, .load false 1 false, [.tmp 21 true], none⟩,
            ⟨some 6, .move, [.tmp 22 true], none⟩,
            ⟨some 7, .move, [.const (.int .i64 0)], none⟩] none [])
          .ret)))) }

/-- (*runrig/runrigref10.Store).Load -/

def s14 : SFunc := { fid := 14, mode := .scp, nparams := 3, nboxes := 0, clr := [], results := [.tmp 6 false, .tmp 7 false], body :=
  (.seq
    (.region [
      ⟨some 6, .move, [.const (.int .i64 0)], none⟩,
      ⟨some 7, .move, [.const (.int .i64 0)], none⟩] none [6, 7])
    (.seq
      (.region [
        ⟨some 11, .move, [.tmp 0 false], none⟩,
        ⟨some 12, .move, [.tmp 1 false], none⟩,
        ⟨some 13, .call 18, [.tmp 11 true, .tmp 12 true], none⟩,
        ⟨some 10, .move, [.tmp 13 true], none⟩,
        ⟨some 14, .extract 0, [.tmp 10 false], none⟩,
        ⟨some 15, .extract 1, [.tmp 10 true], none⟩,
        ⟨some 8, .move, [.tmp 14 true], none⟩,
        ⟨some 9, .move, [.tmp 15 true], none⟩] none [])
      (.seq
        (.block 0
          (.seq
            (.region [
              ⟨some 17, .move, [.tmp 9 false], none⟩,
              ⟨some 18, .bin .neq, [.tmp 17 true, .const (.int .i64 0)], none⟩,
              ⟨some 16, .move, [.tmp 18 true], none⟩] none [])
            (.cond (.tmp 16 true) [0, 1, 2, 8]
              (.seq
                (.region [
                  ⟨some 19, .move, [.tmp 9 true], none⟩,
                  ⟨some 6, .move, [.const (.int .i64 0)], none⟩,
                  ⟨some 7, .move, [.tmp 19 true], none⟩] none [])
                .ret) [9]
              (.seq
                (.region [
                  ⟨some 21, .move, [.tmp 2 false], none⟩,
                  ⟨some 22, .bin .lss, [.tmp 21 true, .const (.int .i64 0)], none⟩,
                  ⟨some 23, .move, [.tmp 22 true], none⟩,
                  ⟨some 24, .move, [.tmp 2 false], some (23, false)⟩,
                  ⟨some 25, .move, [.tmp 8 true], some (23, false)⟩,
                  ⟨some 26, .bin .geq, [.tmp 24 true, .tmp 25 true], some (23, false)⟩,
                  ⟨some 27, .pick, [.tmp 23 true, .const (.bool true), .tmp 26 true], none⟩,
                  ⟨some 20, .move, [.tmp 27 true], none⟩] none [8, 24, 25])
                (.cond (.tmp 20 true) [0, 1, 2]
                  (.seq
                    (.region [
                      ⟨some 6, .move, [.const (.int .i64 0)], none⟩,
                      ⟨some 7, .move, [.const (.int .i64 2)], none⟩] none [])
                    .ret) []
                  .skip)))))
        (.seq
          (.region [
            ⟨some 28, .move, [.tmp 0 true], none⟩,
            ⟨some 29, .nilCheck, [.tmp 28 true], none⟩,
            ⟨some 30, .fieldAddr 0, [.tmp 29 true], none⟩,
            ⟨some 31, .load false 1 false, [.tmp 30 true], none⟩,
            ⟨some 32, .move, [.tmp 1 true], none⟩,
            ⟨some 33, .bin .sub, [.tmp 32 true, .const (.int .i64 1)], none⟩,
            ⟨some 34, .indexAddr 1, [.tmp 31 true, .tmp 33 true], none⟩,
            ⟨some 35, .load false 1 false, [.tmp 34 true], none⟩,
            ⟨some 36, .move, [.tmp 2 true], none⟩,
            ⟨some 37, .indexAddr 1, [.tmp 35 true, .tmp 36 true], none⟩,
            ⟨some 38, .load false 1 false, [.tmp 37 true], none⟩,
            ⟨some 6, .move, [.tmp 38 true], none⟩,
            ⟨some 7, .move, [.const (.int .i64 0)], none⟩] none [])
          .ret)))) }

/-- (*runrig/store.Store).Put -/

def s15 : SFunc := { fid := 15, mode := .scp, nparams := 4, nboxes := 0, clr := [], results := [.tmp 8 false], body :=
  (.seq
    (.region [
      ⟨some 8, .move, [.const (.int .i64 0)], none⟩] none [8])
    (.seq
      (.region [
        ⟨some 12, .move, [.tmp 0 true], none⟩,
        ⟨some 13, .move, [.tmp 1 true], none⟩,
        ⟨some 14, .move, [.tmp 2 true], none⟩,
        ⟨some 15, .call 22, [.tmp 12 true, .tmp 13 true, .tmp 14 true], none⟩,
        ⟨some 11, .move, [.tmp 15 true], none⟩,
        ⟨some 16, .extract 0, [.tmp 11 false], none⟩,
        ⟨some 17, .extract 1, [.tmp 11 true], none⟩,
        ⟨some 9, .move, [.tmp 16 true], none⟩,
        ⟨some 10, .move, [.tmp 17 true], none⟩] none [])
      (.seq
        (.seq
          (.region [
            ⟨some 18, .move, [.tmp 10 false], none⟩,
            ⟨some 19, .bin .eql, [.tmp 18 true, .const (.int .i64 0)], none⟩] none [])
          (.cond (.tmp 19 true) []
            (.region [
              ⟨some 20, .move, [.tmp 9 true], none⟩,
              ⟨some 21, .move, [.tmp 3 true], none⟩,
              ⟨some 22, .nilCheck, [.tmp 20 true], none⟩,
              ⟨none, .store 1, [.tmp 22 true, .tmp 21 true], none⟩] none []) [3, 9]
            .skip))
        (.seq
          (.region [
            ⟨some 23, .move, [.tmp 10 true], none⟩,
            ⟨some 8, .move, [.tmp 23 true], none⟩] none [])
          .ret)))) }

/-- (*runrig/runrigref10.Store).Put -/

def s16 : SFunc := { fid := 16, mode := .scp, nparams := 4, nboxes := 0, clr := [], results := [.tmp 8 false], body :=
  (.seq
    (.region [
      ⟨some 8, .move, [.const (.int .i64 0)], none⟩] none [8])
    (.seq
      (.region [
        ⟨some 12, .move, [.tmp 0 false], none⟩,
        ⟨some 13, .move, [.tmp 1 false], none⟩,
        ⟨some 14, .move, [.tmp 2 false], none⟩,
        ⟨some 15, .call 14, [.tmp 12 true, .tmp 13 true, .tmp 14 true], none⟩,
        ⟨some 11, .move, [.tmp 15 true], none⟩,
        ⟨some 16, .extract 0, [.tmp 11 false], none⟩,
        ⟨some 17, .extract 1, [.tmp 11 true], none⟩,
        ⟨some 9, .move, [.tmp 16 true], none⟩,
        ⟨some 10, .move, [.tmp 17 true], none⟩] none [9])
      (.seq
        (.seq
          (.region [
            ⟨some 18, .move, [.tmp 10 false], none⟩,
            ⟨some 19, .bin .eql, [.tmp 18 true, .const (.int .i64 0)], none⟩] none [])
          (.cond (.tmp 19 true) []
            (.region [
              ⟨some 20, .move, [.tmp 0 true], none⟩,
              ⟨some 21, .nilCheck, [.tmp 20 true], none⟩,
              ⟨some 22, .fieldAddr 0, [.tmp 21 true], none⟩,
              ⟨some 23, .load false 1 false, [.tmp 22 true], none⟩,
              ⟨some 24, .move, [.tmp 1 true], none⟩,
              ⟨some 25, .bin .sub, [.tmp 24 true, .const (.int .i64 1)], none⟩,
              ⟨some 26, .indexAddr 1, [.tmp 23 true, .tmp 25 true], none⟩,
              ⟨some 27, .load false 1 false, [.tmp 26 true], none⟩,
              ⟨some 28, .move, [.tmp 2 true], none⟩,
              ⟨some 29, .move, [.tmp 3 true], none⟩,
              ⟨some 30, .indexAddr 1, [.tmp 27 true, .tmp 28 true], none⟩,
              ⟨none, .store 1, [.tmp 30 true, .tmp 29 true], none⟩] none []) [0, 1, 2, 3]
            .skip))
        (.seq
          (.region [
            ⟨some 31, .move, [.tmp 10 true], none⟩,
            ⟨some 8, .move, [.tmp 31 true], none⟩] none [])
          .ret)))) }

/-- (*runrig/store.Store).Len -/

def s17 : SFunc := { fid := 17, mode := .scp, nparams := 2, nboxes := 0, clr := [], results := [.tmp 4 false, .tmp 5 false], body :=
  (.seq
    (.region [
      ⟨some 4, .move, [.const (.int .i64 0)], none⟩,
      ⟨some 5, .move, [.const (.int .i64 0)], none⟩] none [4, 5])
    (.seq
      (.region [
        ⟨some 9, .move, [.tmp 0 true], none⟩,
        ⟨some 10, .move, [.tmp 1 true], none⟩,
        ⟨some 11, .call 23, [.tmp 9 true, .tmp 10 true], none⟩,
        ⟨some 8, .move, [.tmp 11 true], none⟩,
        ⟨some 12, .extract 0, [.tmp 8 false], none⟩,
        ⟨some 13, .extract 1, [.tmp 8 true], none⟩,
        ⟨some 6, .move, [.tmp 12 true], none⟩,
        ⟨some 7, .move, [.tmp 13 true], none⟩] none [])
      (.seq
        (.seq
          (.region [
            ⟨some 14, .move, [.tmp 7 true], none⟩,
            ⟨some 15, .un .not, [.tmp 14 true], none⟩] none [])
          (.cond (.tmp 15 true) [6]
            (.seq
              (.region [
                ⟨some 4, .move, [.const (.int .i64 0)], none⟩,
                ⟨some 5, .move, [.const (.int .i64 1)], none⟩] none [])
              .ret) []
            .skip))
        (.seq
          (.region [
            ⟨some 16, .move, [.tmp 6 true], none⟩,
            ⟨some 17, .len .sl, [.tmp 16 true], none⟩,
            ⟨some 4, .move, [.tmp 17 true], none⟩,
            ⟨some 5, .move, [.const (.int .i64 0)], none⟩] none [])
          .ret)))) }

/-- (*runrig/runrigref10.Store).Len -/

def s18 : SFunc := { fid := 18, mode := .scp, nparams := 2, nboxes := 0, clr := [], results := [.tmp 4 false, .tmp 5 false], body :=
  (.seq
    (.region [
      ⟨some 4, .move, [.const (.int .i64 0)], none⟩,
      ⟨some 5, .move, [.const (.int .i64 0)], none⟩] none [4, 5])
    (.seq
      (.seq
        (.region [
          ⟨some 6, .move, [.tmp 1 false], none⟩,
          ⟨some 7, .bin .lss, [.tmp 6 true, .const (.int .i64 1)], none⟩,
          ⟨some 8, .move, [.tmp 7 true], none⟩,
          ⟨some 9, .move, [.tmp 1 false], some (8, false)⟩,
          ⟨some 10, .move, [.tmp 0 false], some (8, false)⟩,
          ⟨some 11, .nilCheck, [.tmp 10 true], some (8, false)⟩,
          ⟨some 12, .fieldAddr 0, [.tmp 11 true], some (8, false)⟩,
          ⟨some 13, .load false 1 false, [.tmp 12 true], some (8, false)⟩,
          ⟨some 14, .len .sl, [.tmp 13 true], some (8, false)⟩,
          ⟨some 15, .bin .gtr, [.tmp 9 true, .tmp 14 true], some (8, false)⟩,
          ⟨some 16, .pick, [.tmp 8 true, .const (.bool true), .tmp 15 true], none⟩] none [9, 10, 11, 12, 13, 14])
        (.cond (.tmp 16 true) [0, 1]
          (.seq
            (.region [
              ⟨some 4, .move, [.const (.int .i64 0)], none⟩,
              ⟨some 5, .move, [.const (.int .i64 1)], none⟩] none [])
            .ret) []
          .skip))
      (.seq
        (.region [
          ⟨some 17, .move, [.tmp 0 true], none⟩,
          ⟨some 18, .nilCheck, [.tmp 17 true], none⟩,
          ⟨some 19, .fieldAddr 0, [.tmp 18 true], none⟩,
          ⟨some 20, .load false 1 false, [.tmp 19 true], none⟩,
          ⟨some 21, .move, [.tmp 1 true], none⟩,
          ⟨some 22, .bin .sub, [.tmp 21 true, .const (.int .i64 1)], none⟩,
          ⟨some 23, .indexAddr 1, [.tmp 20 true, .tmp 22 true], none⟩,
          ⟨some 24, .load false 1 false, [.tmp 23 true], none⟩,
          ⟨some 25, .len .sl, [.tmp 24 true], none⟩,
          ⟨some 4, .move, [.tmp 25 true], none⟩,
          ⟨some 5, .move, [.const (.int .i64 0)], none⟩] none [])
        .ret))) }

/-- (*runrig/store.Store).Many -/

def s19 : SFunc := { fid := 19, mode := .scp, nparams := 1, nboxes := 0, clr := [], results := [.tmp 2 false], body :=
  (.seq
    (.region [
      ⟨some 2, .move, [.const (.int .i64 0)], none⟩] none [2])
    (.seq
      (.seq
        (.region [
          ⟨some 3, .move, [.tmp 0 false], none⟩,
          ⟨some 4, .eqv (.ptr) false, [.tmp 3 true, .const (.nilPtr)], none⟩] none [])
        (.cond (.tmp 4 true) [0]
          (.seq
            (.region [
              ⟨some 2, .move, [.const (.int .i64 0)], none⟩] none [])
            .ret) []
          .skip))
      (.seq
        (.region [
          ⟨some 5, .move, [.tmp 0 true], none⟩,
          ⟨some 6, .nilCheck, [.tmp 5 true], none⟩,
          ⟨some 7, .fieldAddr 0, [.tmp 6 true], none⟩,
          ⟨some 8, .load false 1 false, [.tmp 7 true], none⟩,
          ⟨some 9, .len .sl, [.tmp 8 true], none⟩,
          ⟨some 2, .move, [.tmp 9 true], none⟩] none [])
        .ret))) }

/-- runrig/runriglaw10.known -/

def s20 : SFunc := { fid := 20, mode := .pure, nparams := 0, nboxes := 0, clr := [], results := [.tmp 0 false], body :=
  (.seq
    (.region [
      ⟨some 0, .move, [.const (.bool false)], none⟩] none [0])
    (.seq
      (.region [
        ⟨some 10, .call 8, [], none⟩,
        ⟨some 1, .move, [.tmp 10 true], none⟩] none [])
      (.seq
        (.seq
          (.region [
            ⟨some 11, .move, [.tmp 1 false], none⟩,
            ⟨some 12, .eqv (.ptr) false, [.tmp 11 true, .const (.nilPtr)], none⟩] none [])
          (.cond (.tmp 12 true) [1]
            (.seq
              (.region [
                ⟨some 0, .move, [.const (.bool false)], none⟩] none [])
              .ret) []
            .skip))
        (.seq
          (.region [
            ⟨some 13, .move, [.tmp 1 false], none⟩,
            ⟨some 14, .call 9, [.tmp 13 true, .const (.int .i64 2)], none⟩,
            ⟨some 2, .move, [.tmp 14 true], none⟩] none [])
          (.seq
            (.region [
              ⟨some 16, .move, [.tmp 1 false], none⟩,
              ⟨some 17, .call 11, [.tmp 16 true, .const (.int .i64 3)], none⟩,
              ⟨some 15, .move, [.tmp 17 true], none⟩,
              ⟨some 18, .extract 0, [.tmp 15 false], none⟩,
              ⟨some 19, .extract 1, [.tmp 15 true], none⟩,
              ⟨some 3, .move, [.tmp 18 true], none⟩,
              ⟨some 4, .move, [.tmp 19 true], none⟩] none [])
            (.seq
              (.region [
                ⟨some 20, .move, [.tmp 1 false], none⟩,
                ⟨some 21, .move, [.tmp 2 false], none⟩,
                ⟨some 22, .call 15, [.tmp 20 true, .tmp 21 true, .const (.int .i64 1), .const (.int .i64 7)], none⟩,
                ⟨some 5, .move, [.tmp 22 true], none⟩] none [])
              (.seq
                (.region [
                  ⟨some 24, .move, [.tmp 1 false], none⟩,
                  ⟨some 25, .move, [.tmp 2 false], none⟩,
                  ⟨some 26, .call 13, [.tmp 24 true, .tmp 25 true, .const (.int .i64 1)], none⟩,
                  ⟨some 23, .move, [.tmp 26 true], none⟩,
                  ⟨some 27, .extract 0, [.tmp 23 false], none⟩,
                  ⟨some 28, .extract 1, [.tmp 23 true], none⟩,
                  ⟨some 6, .move, [.tmp 27 true], none⟩,
                  ⟨some 7, .move, [.tmp 28 true], none⟩] none [])
                (.seq
                  (.region [
                    ⟨some 30, .move, [.tmp 1 false], none⟩,
                    ⟨some 31, .move, [.tmp 3 false], none⟩,
                    ⟨some 32, .call 17, [.tmp 30 true, .tmp 31 true], none⟩,
                    ⟨some 29, .move, [.tmp 32 true], none⟩,
                    ⟨some 33, .extract 0, [.tmp 29 false], none⟩,
                    ⟨some 34, .extract 1, [.tmp 29 true], none⟩,
                    ⟨some 8, .move, [.tmp 33 true], none⟩,
                    ⟨some 9, .move, [.tmp 34 true], none⟩] none [])
                  (.seq
                    (.region [
                      ⟨some 35, .move, [.tmp 2 true], none⟩,
                      ⟨some 36, .bin .eql, [.tmp 35 true, .const (.int .i64 1)], none⟩,
                      ⟨some 37, .move, [.tmp 36 true], none⟩,
                      ⟨some 38, .move, [.tmp 3 true], some (37, true)⟩,
                      ⟨some 39, .bin .eql, [.tmp 38 true, .const (.int .i64 2)], some (37, true)⟩,
                      ⟨some 40, .pick, [.tmp 37 true, .tmp 39 true, .const (.bool false)], none⟩,
                      ⟨some 41, .move, [.tmp 40 true], none⟩,
                      ⟨some 42, .move, [.tmp 4 true], some (41, true)⟩,
                      ⟨some 43, .bin .eql, [.tmp 42 true, .const (.int .i64 0)], some (41, true)⟩,
                      ⟨some 44, .pick, [.tmp 41 true, .tmp 43 true, .const (.bool false)], none⟩,
                      ⟨some 45, .move, [.tmp 44 true], none⟩,
                      ⟨some 46, .move, [.tmp 5 true], some (45, true)⟩,
                      ⟨some 47, .bin .eql, [.tmp 46 true, .const (.int .i64 0)], some (45, true)⟩,
                      ⟨some 48, .pick, [.tmp 45 true, .tmp 47 true, .const (.bool false)], none⟩,
                      ⟨some 49, .move, [.tmp 48 true], none⟩,
                      ⟨some 50, .move, [.tmp 6 true], some (49, true)⟩,
                      ⟨some 51, .bin .eql, [.tmp 50 true, .const (.int .i64 7)], some (49, true)⟩,
                      ⟨some 52, .pick, [.tmp 49 true, .tmp 51 true, .const (.bool false)], none⟩,
                      ⟨some 53, .move, [.tmp 52 true], none⟩,
                      ⟨some 54, .move, [.tmp 7 true], some (53, true)⟩,
                      ⟨some 55, .bin .eql, [.tmp 54 true, .const (.int .i64 0)], some (53, true)⟩,
                      ⟨some 56, .pick, [.tmp 53 true, .tmp 55 true, .const (.bool false)], none⟩,
                      ⟨some 57, .move, [.tmp 56 true], none⟩,
                      ⟨some 58, .move, [.tmp 8 true], some (57, true)⟩,
                      ⟨some 59, .bin .eql, [.tmp 58 true, .const (.int .i64 3)], some (57, true)⟩,
                      ⟨some 60, .pick, [.tmp 57 true, .tmp 59 true, .const (.bool false)], none⟩,
                      ⟨some 61, .move, [.tmp 60 true], none⟩,
                      ⟨some 62, .move, [.tmp 9 true], some (61, true)⟩,
                      ⟨some 63, .bin .eql, [.tmp 62 true, .const (.int .i64 0)], some (61, true)⟩,
                      ⟨some 64, .pick, [.tmp 61 true, .tmp 63 true, .const (.bool false)], none⟩,
                      ⟨some 65, .move, [.tmp 64 true], none⟩,
                      ⟨some 66, .move, [.tmp 1 true], some (65, true)⟩,
                      ⟨some 67, .call 19, [.tmp 66 true], some (65, true)⟩,
                      ⟨some 68, .bin .eql, [.tmp 67 true, .const (.int .i64 2)], some (65, true)⟩,
                      ⟨some 69, .pick, [.tmp 65 true, .tmp 68 true, .const (.bool false)], none⟩,
                      ⟨some 0, .move, [.tmp 69 true], none⟩] none [1, 3, 4, 5, 6, 7, 8, 9, 38, 42, 46, 50, 54, 58, 62, 66, 67])
                    .ret))))))))) }

/-- (*runrig/store.Store).add -/

def s21 : SFunc := { fid := 21, mode := .opn, nparams := 2, nboxes := 0, clr := [], results := [.tmp 4 false], body :=
  (.seq
    (.region [
      ⟨some 4, .move, [.const (.int .i64 0)], none⟩] none [4])
    (.seq
      (.region [
        ⟨some 5, .move, [.tmp 0 false], none⟩,
        ⟨some 6, .move, [.tmp 0 false], none⟩,
        ⟨some 7, .nilCheck, [.tmp 6 true], none⟩,
        ⟨some 8, .fieldAddr 0, [.tmp 7 true], none⟩,
        ⟨some 9, .load false 1 false, [.tmp 8 true], none⟩,
        ⟨some 10, .move, [.tmp 1 true], none⟩,
        ⟨some 11, .makeSl 1 8 [.int .i64 0] true, [.tmp 10 false, .tmp 10 false], none⟩,
        ⟨some 12, .litM 1 1 [.nilSl] [0], [.tmp 11 true], none⟩,
        ⟨some 13, .appendM 1 24, [.tmp 9 true, .tmp 12 true], none⟩,
        ⟨some 14, .nilCheck, [.tmp 5 true], none⟩,
        ⟨some 15, .fieldAddr 0, [.tmp 14 true], none⟩,
        ⟨none, .store 1, [.tmp 15 true, .tmp 13 true], none⟩] (some [(4, 6), (4, 7)]) [10])
      (.seq
        (.region [
          ⟨some 16, .move, [.tmp 0 true], none⟩,
          ⟨some 17, .nilCheck, [.tmp 16 true], none⟩,
          ⟨some 18, .fieldAddr 0, [.tmp 17 true], none⟩,
          ⟨some 19, .load false 1 false, [.tmp 18 true], none⟩,
          ⟨some 20, .len .sl, [.tmp 19 true], none⟩,
          ⟨some 4, .move, [.tmp 20 true], none⟩] none [])
        .ret))) }

/-- (*runrig/store.Store).cell -/

def s22 : SFunc := { fid := 22, mode := .opn, nparams := 3, nboxes := 0, clr := [], results := [.tmp 6 false, .tmp 7 false], body :=
  (.seq
    (.region [
      ⟨some 6, .move, [.const (.nilPtr)], none⟩,
      ⟨some 7, .move, [.const (.int .i64 0)], none⟩] none [6, 7])
    (.seq
      (.region [
        ⟨some 11, .move, [.tmp 0 true], none⟩,
        ⟨some 12, .move, [.tmp 1 true], none⟩,
        ⟨some 13, .call 23, [.tmp 11 true, .tmp 12 true], none⟩,
        ⟨some 10, .move, [.tmp 13 true], none⟩,
        ⟨some 14, .extract 0, [.tmp 10 false], none⟩,
        ⟨some 15, .extract 1, [.tmp 10 true], none⟩,
        ⟨some 8, .move, [.tmp 14 true], none⟩,
        ⟨some 9, .move, [.tmp 15 true], none⟩] none [])
      (.seq
        (.block 0
          (.seq
            (.region [
              ⟨some 17, .move, [.tmp 9 true], none⟩,
              ⟨some 18, .un .not, [.tmp 17 true], none⟩,
              ⟨some 16, .move, [.tmp 18 true], none⟩] none [])
            (.cond (.tmp 16 true) [2, 8]
              (.seq
                (.region [
                  ⟨some 6, .move, [.const (.nilPtr)], none⟩,
                  ⟨some 7, .move, [.const (.int .i64 1)], none⟩] none [])
                .ret) []
              (.seq
                (.region [
                  ⟨some 20, .move, [.tmp 2 false], none⟩,
                  ⟨some 21, .bin .lss, [.tmp 20 true, .const (.int .i64 0)], none⟩,
                  ⟨some 22, .move, [.tmp 21 true], none⟩,
                  ⟨some 23, .move, [.tmp 2 false], some (22, false)⟩,
                  ⟨some 24, .move, [.tmp 8 false], some (22, false)⟩,
                  ⟨some 25, .len .sl, [.tmp 24 true], some (22, false)⟩,
                  ⟨some 26, .bin .geq, [.tmp 23 true, .tmp 25 true], some (22, false)⟩,
                  ⟨some 27, .pick, [.tmp 22 true, .const (.bool true), .tmp 26 true], none⟩,
                  ⟨some 19, .move, [.tmp 27 true], none⟩] none [23, 24, 25])
                (.cond (.tmp 19 true) [2, 8]
                  (.seq
                    (.region [
                      ⟨some 6, .move, [.const (.nilPtr)], none⟩,
                      ⟨some 7, .move, [.const (.int .i64 2)], none⟩] none [])
                    .ret) []
                  .skip)))))
        (.seq
          (.region [
            ⟨some 28, .move, [.tmp 8 true], none⟩,
            ⟨some 29, .move, [.tmp 2 true], none⟩,
            ⟨some 30, .indexAddr 1, [.tmp 28 true, .tmp 29 true], none⟩,
            ⟨some 6, .move, [.tmp 30 true], none⟩,
            ⟨some 7, .move, [.const (.int .i64 0)], none⟩] none [])
          .ret)))) }

/-- (*runrig/store.Store).cells -/

def s23 : SFunc := { fid := 23, mode := .opn, nparams := 2, nboxes := 0, clr := [], results := [.tmp 4 true, .tmp 5 false], body :=
  (.seq
    (.region [
      ⟨some 4, .move, [.const (.nilSl)], none⟩,
      ⟨some 5, .move, [.const (.bool false)], none⟩] none [4, 5])
    (.seq
      (.seq
        (.region [
          ⟨some 6, .move, [.tmp 0 false], none⟩,
          ⟨some 7, .eqv (.ptr) false, [.tmp 6 true, .const (.nilPtr)], none⟩,
          ⟨some 8, .move, [.tmp 7 true], none⟩,
          ⟨some 9, .move, [.tmp 1 false], some (8, false)⟩,
          ⟨some 10, .bin .lss, [.tmp 9 true, .const (.int .i64 1)], some (8, false)⟩,
          ⟨some 11, .pick, [.tmp 8 true, .const (.bool true), .tmp 10 true], none⟩,
          ⟨some 12, .move, [.tmp 11 true], none⟩,
          ⟨some 13, .move, [.tmp 1 false], some (12, false)⟩,
          ⟨some 14, .move, [.tmp 0 false], some (12, false)⟩,
          ⟨some 15, .nilCheck, [.tmp 14 true], some (12, false)⟩,
          ⟨some 16, .fieldAddr 0, [.tmp 15 true], some (12, false)⟩,
          ⟨some 17, .load false 1 false, [.tmp 16 true], some (12, false)⟩,
          ⟨some 18, .len .sl, [.tmp 17 true], some (12, false)⟩,
          ⟨some 19, .bin .gtr, [.tmp 13 true, .tmp 18 true], some (12, false)⟩,
          ⟨some 20, .pick, [.tmp 12 true, .const (.bool true), .tmp 19 true], none⟩] none [9, 13, 14, 15, 16, 17, 18])
        (.cond (.tmp 20 true) [0, 1]
          (.seq
            (.region [
              ⟨some 4, .move, [.const (.nilSl)], none⟩,
              ⟨some 5, .move, [.const (.bool false)], none⟩] none [])
            .ret) []
          .skip))
      (.seq
        (.region [
          ⟨some 21, .move, [.tmp 0 true], none⟩,
          ⟨some 22, .nilCheck, [.tmp 21 true], none⟩,
          ⟨some 23, .fieldAddr 0, [.tmp 22 true], none⟩,
          ⟨some 24, .load false 1 false, [.tmp 23 true], none⟩,
          ⟨some 25, .move, [.tmp 1 true], none⟩,
          ⟨some 26, .bin .sub, [.tmp 25 true, .const (.int .i64 1)], none⟩,
          ⟨some 27, .indexAddr 1, [.tmp 24 true, .tmp 26 true], none⟩,
          ⟨some 28, .load false 1 false, [.tmp 27 true], none⟩,
          ⟨some 4, .move, [.tmp 28 true], none⟩,
          ⟨some 5, .move, [.const (.bool true)], none⟩] none [])
        .ret))) }

def tbl : List (Option SFunc) := [none, none, none, some s3, some s4, some s5, some s6, some s7, some s8, some s9, some s10, some s11, some s12, some s13, some s14, some s15, some s16, some s17, some s18, some s19, some s20, some s21, some s22, some s23, none, none, none, none, none, none, none, none, none, none, none, none, none, none, none, none]
def vtbl : List (Option SFunc) := []
def S : Nat → Option SFunc := tabS tbl vtbl
end Code10
