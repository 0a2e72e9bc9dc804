/- The annotated code of the loaded program, printed by wip/tools/gen.py. -/
import Derived.Test.YteicnmliccdgeaaA1

set_option maxRecDepth 100000
namespace Code22
open Ax Go

/-- runrig/runriglaw22.ReachFrom -/

def s3 : SFunc := { fid := 3, mode := .pure, nparams := 2, nboxes := 0, clr := [], results := [.tmp 4 false], body :=
  (.seq
    (.region [
      ⟨some 4, .move, [.const (.bool false)], none⟩] none [4])
    (.seq
      (.seq
        (.region [
          ⟨some 5, .move, [.tmp 0 false], none⟩,
          ⟨some 6, .call 8, [.tmp 5 true], none⟩,
          ⟨some 7, .move, [.tmp 6 false], none⟩,
          ⟨some 8, .move, [.tmp 1 false], some (7, false)⟩,
          ⟨some 9, .len .sl, [.tmp 8 true], some (7, false)⟩,
          ⟨some 10, .bin .gtr, [.tmp 9 false, .const (.int .i64 60)], some (7, false)⟩,
          ⟨some 11, .pick, [.tmp 7 false, .const (.bool true), .tmp 10 false], none⟩] none [6, 7, 8, 9, 10])
        (.cond (.tmp 11 true) [0, 1]
          (.seq
            (.region [
              ⟨some 4, .move, [.const (.bool true)], none⟩] none [])
            .ret) []
          .skip))
      (.seq
        (.region [
          ⟨some 12, .move, [.tmp 0 false], none⟩,
          ⟨some 13, .move, [.tmp 1 false], none⟩,
          ⟨some 14, .call 10, [.tmp 12 true, .tmp 13 true], none⟩,
          ⟨some 15, .move, [.tmp 0 false], none⟩,
          ⟨some 16, .move, [.tmp 1 false], none⟩,
          ⟨some 17, .call 11, [.tmp 15 true, .tmp 16 true], none⟩,
          ⟨some 18, .call 9, [.tmp 14 true, .tmp 17 true], none⟩,
          ⟨some 19, .move, [.tmp 18 false], none⟩,
          ⟨some 20, .move, [.tmp 0 false], some (19, true)⟩,
          ⟨some 21, .move, [.tmp 1 false], some (19, true)⟩,
          ⟨some 22, .call 12, [.tmp 20 true, .tmp 21 true], some (19, true)⟩,
          ⟨some 23, .move, [.tmp 0 true], some (19, true)⟩,
          ⟨some 24, .move, [.tmp 1 true], some (19, true)⟩,
          ⟨some 25, .call 13, [.tmp 23 true, .tmp 24 true], some (19, true)⟩,
          ⟨some 26, .eqv (.sc .bool) false, [.tmp 22 false, .tmp 25 false], some (19, true)⟩,
          ⟨some 27, .pick, [.tmp 19 false, .tmp 26 false, .const (.bool false)], none⟩,
          ⟨some 28, .move, [.tmp 27 false], none⟩,
          ⟨some 29, .call 14, [], some (28, true)⟩,
          ⟨some 30, .pick, [.tmp 28 false, .tmp 29 false, .const (.bool false)], none⟩,
          ⟨some 4, .move, [.tmp 30 false], none⟩] none [0, 1, 18, 19, 20, 21, 22, 23, 24, 25, 26, 27, 28, 29, 30])
        .ret))) }

/-- runrig/runriglaw22.ReachInto -/
def s4_l0 : SCode :=
  (.seq
    (.seq
      (.region [
        ⟨some 18, .move, [.tmp 6 false], none⟩,
        ⟨some 19, .move, [.tmp 0 false], none⟩,
        ⟨some 20, .len .sl, [.tmp 19 true], none⟩,
        ⟨some 21, .bin .lss, [.tmp 18 false, .tmp 20 false], none⟩] none [18, 20])
      (.cond (.tmp 21 true) []
        .skip [0, 1, 5, 6]
        (.exit 0)))
    (.seq
      (.block 1
        (.seq
          (.region [
            ⟨some 24, .move, [.tmp 5 false], none⟩,
            ⟨some 25, .move, [.tmp 6 false], none⟩,
            ⟨some 26, .call 17, [.tmp 24 true, .tmp 25 false], none⟩,
            ⟨some 27, .move, [.tmp 0 false], none⟩,
            ⟨some 28, .move, [.tmp 6 false], none⟩,
            ⟨some 29, .lit 1 1 [.int .i64 0] [0], [.tmp 28 false], none⟩,
            ⟨some 30, .call 10, [.tmp 27 true, .tmp 29 true], none⟩,
            ⟨some 31, .move, [.tmp 1 false], none⟩,
            ⟨some 32, .call 17, [.tmp 30 true, .tmp 31 false], none⟩,
            ⟨some 33, .eqv (.sc .bool) true, [.tmp 26 false, .tmp 32 false], none⟩] none [25, 26, 28, 31, 32])
          (.cond (.tmp 33 true) [0, 1, 5, 6]
            (.seq
              (.region [
                ⟨some 4, .move, [.const (.bool false)], none⟩] none [])
              .ret) []
            .skip)))
      (.region [
        ⟨some 22, .move, [.tmp 6 false], none⟩,
        ⟨some 23, .bin .add, [.tmp 22 false, .const (.int .i64 1)], none⟩,
        ⟨some 6, .move, [.tmp 23 false], none⟩] none [22, 23])))
def s4 : SFunc := { fid := 4, mode := .pure, nparams := 2, nboxes := 0, clr := [], results := [.tmp 4 false], body :=
  (.seq
    (.region [
      ⟨some 4, .move, [.const (.bool false)], none⟩] none [4])
    (.seq
      (.seq
        (.region [
          ⟨some 7, .move, [.tmp 0 false], none⟩,
          ⟨some 8, .call 8, [.tmp 7 true], none⟩] none [])
        (.cond (.tmp 8 true) [0, 1]
          (.seq
            (.region [
              ⟨some 4, .move, [.const (.bool true)], none⟩] none [])
            .ret) []
          .skip))
      (.seq
        (.region [
          ⟨some 9, .move, [.tmp 0 false], none⟩,
          ⟨some 10, .move, [.tmp 1 false], none⟩,
          ⟨some 11, .call 15, [.tmp 9 true, .tmp 10 false], none⟩,
          ⟨some 5, .move, [.tmp 11 true], none⟩] none [10])
        (.seq
          (.seq
            (.region [
              ⟨some 12, .move, [.tmp 5 false], none⟩,
              ⟨some 13, .move, [.tmp 0 false], none⟩,
              ⟨some 14, .move, [.tmp 1 false], none⟩,
              ⟨some 15, .call 16, [.tmp 13 true, .tmp 14 false], none⟩,
              ⟨some 16, .call 9, [.tmp 12 true, .tmp 15 true], none⟩,
              ⟨some 17, .un .not, [.tmp 16 false], none⟩] none [14, 16])
            (.cond (.tmp 17 true) [0, 1, 5]
              (.seq
                (.region [
                  ⟨some 4, .move, [.const (.bool false)], none⟩] none [])
                .ret) []
              .skip))
          (.seq
            (.seq
              (.region [
                ⟨some 6, .move, [.const (.int .i64 0)], none⟩] none [])
              (.block 0
                (.loop s4_l0)))
            (.seq
              (.region [
                ⟨some 34, .call 14, [], none⟩,
                ⟨some 4, .move, [.tmp 34 false], none⟩] none [34])
              .ret)))))) }

/-- runrig/runriglaw22.ReachTwice -/

def s5 : SFunc := { fid := 5, mode := .pure, nparams := 3, nboxes := 0, clr := [], results := [.tmp 6 false], body :=
  (.seq
    (.region [
      ⟨some 6, .move, [.const (.bool false)], none⟩] none [6])
    (.seq
      (.seq
        (.region [
          ⟨some 10, .move, [.tmp 0 false], none⟩,
          ⟨some 11, .call 8, [.tmp 10 true], none⟩,
          ⟨some 12, .move, [.tmp 11 false], none⟩,
          ⟨some 13, .move, [.tmp 1 false], some (12, false)⟩,
          ⟨some 14, .len .sl, [.tmp 13 true], some (12, false)⟩,
          ⟨some 15, .bin .gtr, [.tmp 14 false, .const (.int .i64 60)], some (12, false)⟩,
          ⟨some 16, .pick, [.tmp 12 false, .const (.bool true), .tmp 15 false], none⟩,
          ⟨some 17, .move, [.tmp 16 false], none⟩,
          ⟨some 18, .move, [.tmp 2 false], some (17, false)⟩,
          ⟨some 19, .len .sl, [.tmp 18 true], some (17, false)⟩,
          ⟨some 20, .bin .gtr, [.tmp 19 false, .const (.int .i64 60)], some (17, false)⟩,
          ⟨some 21, .pick, [.tmp 17 false, .const (.bool true), .tmp 20 false], none⟩] none [11, 12, 13, 14, 15, 16, 17, 18, 19, 20])
        (.cond (.tmp 21 true) [0, 1, 2]
          (.seq
            (.region [
              ⟨some 6, .move, [.const (.bool true)], none⟩] none [])
            .ret) []
          .skip))
      (.seq
        (.region [
          ⟨some 22, .move, [.tmp 0 false], none⟩,
          ⟨some 23, .move, [.tmp 1 false], none⟩,
          ⟨some 24, .call 10, [.tmp 22 true, .tmp 23 true], none⟩,
          ⟨some 25, .move, [.tmp 0 false], none⟩,
          ⟨some 26, .move, [.tmp 2 false], none⟩,
          ⟨some 27, .call 10, [.tmp 25 true, .tmp 26 true], none⟩,
          ⟨some 7, .move, [.tmp 24 true], none⟩,
          ⟨some 8, .move, [.tmp 27 true], none⟩] none [])
        (.seq
          (.region [
            ⟨some 28, .move, [.tmp 0 false], none⟩,
            ⟨some 29, .move, [.tmp 1 true], none⟩,
            ⟨some 30, .append 1 8, [.const (.nilSl), .tmp 29 true], none⟩,
            ⟨some 31, .move, [.tmp 2 true], none⟩,
            ⟨some 32, .append 1 8, [.tmp 30 true, .tmp 31 true], none⟩,
            ⟨some 33, .call 10, [.tmp 28 true, .tmp 32 true], none⟩,
            ⟨some 9, .move, [.tmp 33 true], none⟩] none [])
          (.seq
            (.region [
              ⟨some 34, .move, [.tmp 0 false], none⟩,
              ⟨some 35, .move, [.tmp 7 false], none⟩,
              ⟨some 36, .call 10, [.tmp 34 true, .tmp 35 true], none⟩,
              ⟨some 37, .move, [.tmp 7 false], none⟩,
              ⟨some 38, .call 9, [.tmp 36 true, .tmp 37 true], none⟩,
              ⟨some 39, .move, [.tmp 38 false], none⟩,
              ⟨some 40, .move, [.tmp 0 true], some (39, true)⟩,
              ⟨some 41, .move, [.tmp 7 false], some (39, true)⟩,
              ⟨some 42, .call 12, [.tmp 40 true, .tmp 41 true], some (39, true)⟩,
              ⟨some 43, .pick, [.tmp 39 false, .tmp 42 false, .const (.bool false)], none⟩,
              ⟨some 44, .move, [.tmp 43 false], none⟩,
              ⟨some 45, .move, [.tmp 9 true], some (44, true)⟩,
              ⟨some 46, .move, [.tmp 7 true], some (44, true)⟩,
              ⟨some 47, .move, [.tmp 8 true], some (44, true)⟩,
              ⟨some 48, .call 18, [.tmp 46 true, .tmp 47 true], some (44, true)⟩,
              ⟨some 49, .call 9, [.tmp 45 true, .tmp 48 true], some (44, true)⟩,
              ⟨some 50, .pick, [.tmp 44 false, .tmp 49 false, .const (.bool false)], none⟩,
              ⟨some 51, .move, [.tmp 50 false], none⟩,
              ⟨some 52, .call 14, [], some (51, true)⟩,
              ⟨some 53, .pick, [.tmp 51 false, .tmp 52 false, .const (.bool false)], none⟩,
              ⟨some 6, .move, [.tmp 53 false], none⟩] none [0, 7, 8, 9, 38, 39, 40, 41, 42, 43, 44, 45, 46, 47, 48, 49, 50, 51, 52, 53])
            .ret))))) }

/-- runrig/runriglaw22.ReachChain -/
def s6_l0 : SCode :=
  (.seq
    (.seq
      (.region [
        ⟨some 26, .move, [.tmp 8 false], none⟩,
        ⟨some 27, .move, [.tmp 0 false], none⟩,
        ⟨some 28, .bin .lss, [.tmp 26 false, .tmp 27 false], none⟩] none [26, 27])
      (.cond (.tmp 28 true) []
        .skip [8]
        (.exit 0)))
    (.seq
      (.block 1
        (.region [
          ⟨some 31, .move, [.tmp 7 true], none⟩,
          ⟨some 32, .move, [.tmp 8 false], none⟩,
          ⟨some 33, .bin .add, [.tmp 32 false, .const (.int .i64 1)], none⟩,
          ⟨some 34, .litM 1 2 [.int .i64 0] [0, 1], [.const (.int .i64 (-1)), .tmp 33 false], none⟩,
          ⟨some 35, .litM 1 1 [.nilSl] [0], [.tmp 34 true], none⟩,
          ⟨some 36, .appendM 1 24, [.tmp 31 true, .tmp 35 true], none⟩,
          ⟨some 7, .move, [.tmp 36 true], none⟩] none [32, 33]))
      (.region [
        ⟨some 29, .move, [.tmp 8 false], none⟩,
        ⟨some 30, .bin .add, [.tmp 29 false, .const (.int .i64 1)], none⟩,
        ⟨some 8, .move, [.tmp 30 false], none⟩] none [29, 30])))
def s6 : SFunc := { fid := 6, mode := .pure, nparams := 3, nboxes := 0, clr := [], results := [.tmp 6 false], body :=
  (.seq
    (.region [
      ⟨some 6, .move, [.const (.bool false)], none⟩] none [6])
    (.seq
      (.seq
        (.region [
          ⟨some 11, .move, [.tmp 0 false], none⟩,
          ⟨some 12, .bin .lss, [.tmp 11 false, .const (.int .i64 1)], none⟩,
          ⟨some 13, .move, [.tmp 12 false], none⟩,
          ⟨some 14, .move, [.tmp 0 false], some (13, false)⟩,
          ⟨some 15, .bin .gtr, [.tmp 14 false, .const (.int .i64 60)], some (13, false)⟩,
          ⟨some 16, .pick, [.tmp 13 false, .const (.bool true), .tmp 15 false], none⟩,
          ⟨some 17, .move, [.tmp 16 false], none⟩,
          ⟨some 18, .move, [.tmp 1 false], some (17, false)⟩,
          ⟨some 19, .bin .lss, [.tmp 18 false, .const (.int .i64 0)], some (17, false)⟩,
          ⟨some 20, .pick, [.tmp 17 false, .const (.bool true), .tmp 19 false], none⟩,
          ⟨some 21, .move, [.tmp 20 false], none⟩,
          ⟨some 22, .move, [.tmp 1 false], some (21, false)⟩,
          ⟨some 23, .move, [.tmp 0 false], some (21, false)⟩,
          ⟨some 24, .bin .geq, [.tmp 22 false, .tmp 23 false], some (21, false)⟩,
          ⟨some 25, .pick, [.tmp 21 false, .const (.bool true), .tmp 24 false], none⟩] none [11, 12, 13, 14, 15, 16, 17, 18, 19, 20, 21, 22, 23, 24])
        (.cond (.tmp 25 true) [0, 1, 2]
          (.seq
            (.region [
              ⟨some 6, .move, [.const (.bool true)], none⟩] none [])
            .ret) []
          .skip))
      (.seq
        (.region [
          ⟨some 7, .move, [.const (.nilSl)], none⟩] none [])
        (.seq
          (.seq
            (.region [
              ⟨some 8, .move, [.const (.int .i64 0)], none⟩] none [])
            (.block 0
              (.loop s6_l0)))
          (.seq
            (.seq
              (.region [
                ⟨some 37, .move, [.tmp 2 false], none⟩] none [])
              (.cond (.tmp 37 true) []
                (.region [
                  ⟨some 38, .move, [.tmp 7 false], none⟩,
                  ⟨some 39, .move, [.tmp 0 false], none⟩,
                  ⟨some 40, .bin .sub, [.tmp 39 false, .const (.int .i64 1)], none⟩,
                  ⟨some 41, .indexAddr 1, [.tmp 38 true, .tmp 40 false], none⟩,
                  ⟨some 42, .load false 1 false, [.tmp 41 true], none⟩,
                  ⟨some 43, .indexAddr 1, [.tmp 42 true, .const (.int .i64 1)], none⟩,
                  ⟨none, .store 1, [.tmp 43 true, .const (.int .i64 0)], none⟩] none [39, 40]) []
                .skip))
            (.seq
              (.seq (.frz 7)
                (.region [
                  ⟨some 44, .move, [.tmp 7 false], none⟩,
                  ⟨some 45, .move, [.tmp 1 false], none⟩,
                  ⟨some 46, .lit 1 1 [.int .i64 0] [0], [.tmp 45 false], none⟩,
                  ⟨some 47, .call 10, [.tmp 44 true, .tmp 46 true], none⟩,
                  ⟨some 48, .move, [.tmp 7 true], none⟩,
                  ⟨some 49, .move, [.tmp 1 false], none⟩,
                  ⟨some 50, .call 15, [.tmp 48 true, .tmp 49 false], none⟩,
                  ⟨some 9, .move, [.tmp 47 true], none⟩,
                  ⟨some 10, .move, [.tmp 50 true], none⟩] none [45, 49]))
              (.seq
                (.seq
                  (.region [
                    ⟨some 51, .move, [.tmp 2 false], none⟩] none [2])
                  (.cond (.tmp 51 true) [1]
                    (.seq
                      (.region [
                        ⟨some 52, .move, [.tmp 9 true], none⟩,
                        ⟨some 53, .len .sl, [.tmp 52 true], none⟩,
                        ⟨some 54, .move, [.tmp 0 false], none⟩,
                        ⟨some 55, .bin .eql, [.tmp 53 false, .tmp 54 false], none⟩,
                        ⟨some 56, .move, [.tmp 55 false], none⟩,
                        ⟨some 57, .move, [.tmp 10 true], some (56, true)⟩,
                        ⟨some 58, .len .sl, [.tmp 57 true], some (56, true)⟩,
                        ⟨some 59, .move, [.tmp 0 false], some (56, true)⟩,
                        ⟨some 60, .bin .eql, [.tmp 58 false, .tmp 59 false], some (56, true)⟩,
                        ⟨some 61, .pick, [.tmp 56 false, .tmp 60 false, .const (.bool false)], none⟩,
                        ⟨some 62, .move, [.tmp 61 false], none⟩,
                        ⟨some 63, .call 14, [], some (62, true)⟩,
                        ⟨some 64, .pick, [.tmp 62 false, .tmp 63 false, .const (.bool false)], none⟩,
                        ⟨some 6, .move, [.tmp 64 false], none⟩] none [0, 10, 53, 54, 55, 56, 57, 58, 59, 60, 61, 62, 63, 64])
                      .ret) []
                    .skip))
                (.seq
                  (.region [
                    ⟨some 65, .move, [.tmp 9 false], none⟩,
                    ⟨some 66, .len .sl, [.tmp 65 true], none⟩,
                    ⟨some 67, .move, [.tmp 0 false], none⟩,
                    ⟨some 68, .move, [.tmp 1 false], none⟩,
                    ⟨some 69, .bin .sub, [.tmp 67 false, .tmp 68 false], none⟩,
                    ⟨some 70, .bin .eql, [.tmp 66 false, .tmp 69 false], none⟩,
                    ⟨some 71, .move, [.tmp 70 false], none⟩,
                    ⟨some 72, .move, [.tmp 9 true], some (71, true)⟩,
                    ⟨some 73, .indexAddr 1, [.tmp 72 true, .const (.int .i64 0)], some (71, true)⟩,
                    ⟨some 74, .load false 1 false, [.tmp 73 true], some (71, true)⟩,
                    ⟨some 75, .move, [.tmp 1 false], some (71, true)⟩,
                    ⟨some 76, .bin .eql, [.tmp 74 false, .tmp 75 false], some (71, true)⟩,
                    ⟨some 77, .pick, [.tmp 71 false, .tmp 76 false, .const (.bool false)], none⟩,
                    ⟨some 78, .move, [.tmp 77 false], none⟩,
                    ⟨some 79, .move, [.tmp 10 false], some (78, true)⟩,
                    ⟨some 80, .len .sl, [.tmp 79 true], some (78, true)⟩,
                    ⟨some 81, .move, [.tmp 1 false], some (78, true)⟩,
                    ⟨some 82, .bin .add, [.tmp 81 false, .const (.int .i64 1)], some (78, true)⟩,
                    ⟨some 83, .bin .eql, [.tmp 80 false, .tmp 82 false], some (78, true)⟩,
                    ⟨some 84, .pick, [.tmp 78 false, .tmp 83 false, .const (.bool false)], none⟩,
                    ⟨some 85, .move, [.tmp 84 false], none⟩,
                    ⟨some 86, .move, [.tmp 10 true], some (85, true)⟩,
                    ⟨some 87, .indexAddr 1, [.tmp 86 true, .const (.int .i64 0)], some (85, true)⟩,
                    ⟨some 88, .load false 1 false, [.tmp 87 true], some (85, true)⟩,
                    ⟨some 89, .bin .eql, [.tmp 88 false, .const (.int .i64 0)], some (85, true)⟩,
                    ⟨some 90, .pick, [.tmp 85 false, .tmp 89 false, .const (.bool false)], none⟩,
                    ⟨some 91, .move, [.tmp 90 false], none⟩,
                    ⟨some 92, .call 14, [], some (91, true)⟩,
                    ⟨some 93, .pick, [.tmp 91 false, .tmp 92 false, .const (.bool false)], none⟩,
                    ⟨some 6, .move, [.tmp 93 false], none⟩] none [0, 1, 9, 10, 66, 67, 68, 69, 70, 71, 72, 73, 74, 75, 76, 77, 78, 79, 80, 81, 82, 83, 84, 85, 86, 87, 88, 89, 90, 91, 92, 93])
                  .ret)))))))) }

/-- runrig/runriglaw22.ReachMore -/
def s7_l0 : SCode :=
  (.seq
    (.seq
      (.region [
        ⟨some 41, .move, [.tmp 10 false], none⟩,
        ⟨some 42, .move, [.tmp 0 false], none⟩,
        ⟨some 43, .len .sl, [.tmp 42 true], none⟩,
        ⟨some 44, .bin .lss, [.tmp 41 false, .tmp 43 false], none⟩] none [41, 43])
      (.cond (.tmp 44 true) []
        .skip [10]
        (.exit 0)))
    (.seq
      (.block 1
        (.region [
          ⟨some 47, .move, [.tmp 9 true], none⟩,
          ⟨some 48, .move, [.tmp 0 false], none⟩,
          ⟨some 49, .move, [.tmp 10 false], none⟩,
          ⟨some 50, .indexAddr 1, [.tmp 48 true, .tmp 49 false], none⟩,
          ⟨some 51, .load false 1 false, [.tmp 50 true], none⟩,
          ⟨some 52, .appendM 1 8, [.const (.nilSl), .tmp 51 true], none⟩,
          ⟨some 53, .litM 1 1 [.nilSl] [0], [.tmp 52 true], none⟩,
          ⟨some 54, .appendM 1 24, [.tmp 47 true, .tmp 53 true], none⟩,
          ⟨some 9, .move, [.tmp 54 true], none⟩] none [49]))
      (.region [
        ⟨some 45, .move, [.tmp 10 false], none⟩,
        ⟨some 46, .bin .add, [.tmp 45 false, .const (.int .i64 1)], none⟩,
        ⟨some 10, .move, [.tmp 46 false], none⟩] none [45, 46])))
def s7 : SFunc := { fid := 7, mode := .pure, nparams := 4, nboxes := 0, clr := [], results := [.tmp 8 false], body :=
  (.seq
    (.region [
      ⟨some 8, .move, [.const (.bool false)], none⟩] none [8])
    (.seq
      (.seq
        (.region [
          ⟨some 14, .move, [.tmp 0 false], none⟩,
          ⟨some 15, .call 8, [.tmp 14 true], none⟩,
          ⟨some 16, .move, [.tmp 15 false], none⟩,
          ⟨some 17, .move, [.tmp 1 false], some (16, false)⟩,
          ⟨some 18, .len .sl, [.tmp 17 true], some (16, false)⟩,
          ⟨some 19, .bin .gtr, [.tmp 18 false, .const (.int .i64 60)], some (16, false)⟩,
          ⟨some 20, .pick, [.tmp 16 false, .const (.bool true), .tmp 19 false], none⟩,
          ⟨some 21, .move, [.tmp 20 false], none⟩,
          ⟨some 22, .move, [.tmp 2 false], some (21, false)⟩,
          ⟨some 23, .bin .lss, [.tmp 22 false, .const (.int .i64 0)], some (21, false)⟩,
          ⟨some 24, .pick, [.tmp 21 false, .const (.bool true), .tmp 23 false], none⟩,
          ⟨some 25, .move, [.tmp 24 false], none⟩,
          ⟨some 26, .move, [.tmp 2 false], some (25, false)⟩,
          ⟨some 27, .move, [.tmp 0 false], some (25, false)⟩,
          ⟨some 28, .len .sl, [.tmp 27 true], some (25, false)⟩,
          ⟨some 29, .bin .geq, [.tmp 26 false, .tmp 28 false], some (25, false)⟩,
          ⟨some 30, .pick, [.tmp 25 false, .const (.bool true), .tmp 29 false], none⟩,
          ⟨some 31, .move, [.tmp 30 false], none⟩,
          ⟨some 32, .move, [.tmp 3 false], some (31, false)⟩,
          ⟨some 33, .bin .lss, [.tmp 32 false, .const (.int .i64 0)], some (31, false)⟩,
          ⟨some 34, .pick, [.tmp 31 false, .const (.bool true), .tmp 33 false], none⟩,
          ⟨some 35, .move, [.tmp 34 false], none⟩,
          ⟨some 36, .move, [.tmp 3 false], some (35, false)⟩,
          ⟨some 37, .move, [.tmp 0 false], some (35, false)⟩,
          ⟨some 38, .len .sl, [.tmp 37 true], some (35, false)⟩,
          ⟨some 39, .bin .geq, [.tmp 36 false, .tmp 38 false], some (35, false)⟩,
          ⟨some 40, .pick, [.tmp 35 false, .const (.bool true), .tmp 39 false], none⟩] none [15, 16, 17, 18, 19, 20, 21, 22, 23, 24, 25, 26, 27, 28, 29, 30, 31, 32, 33, 34, 35, 36, 37, 38, 39])
        (.cond (.tmp 40 true) [0, 1, 2, 3]
          (.seq
            (.region [
              ⟨some 8, .move, [.const (.bool true)], none⟩] none [])
            .ret) []
          .skip))
      (.seq
        (.region [
          ⟨some 9, .move, [.const (.nilSl)], none⟩] none [])
        (.seq
          (.seq
            (.region [
              ⟨some 10, .move, [.const (.int .i64 0)], none⟩] none [])
            (.block 0
              (.loop s7_l0)))
          (.seq
            (.region [
              ⟨some 55, .move, [.tmp 9 false], none⟩,
              ⟨some 56, .move, [.tmp 2 false], none⟩,
              ⟨some 57, .move, [.tmp 9 false], none⟩,
              ⟨some 58, .move, [.tmp 2 false], none⟩,
              ⟨some 59, .indexAddr 1, [.tmp 57 true, .tmp 58 false], none⟩,
              ⟨some 60, .load false 1 false, [.tmp 59 true], none⟩,
              ⟨some 61, .move, [.tmp 3 false], none⟩,
              ⟨some 62, .lit 1 1 [.int .i64 0] [0], [.tmp 61 false], none⟩,
              ⟨some 63, .appendM 1 8, [.tmp 60 true, .tmp 62 true], none⟩,
              ⟨some 64, .indexAddr 1, [.tmp 55 true, .tmp 56 false], none⟩,
              ⟨none, .store 1, [.tmp 64 true, .tmp 63 true], none⟩] none [56, 58, 61])
            (.seq
              (.seq (.frz 9)
                (.region [
                  ⟨some 65, .move, [.tmp 0 true], none⟩,
                  ⟨some 66, .move, [.tmp 1 false], none⟩,
                  ⟨some 67, .call 10, [.tmp 65 true, .tmp 66 true], none⟩,
                  ⟨some 68, .move, [.tmp 9 true], none⟩,
                  ⟨some 69, .move, [.tmp 1 true], none⟩,
                  ⟨some 70, .call 10, [.tmp 68 true, .tmp 69 true], none⟩,
                  ⟨some 11, .move, [.tmp 67 true], none⟩,
                  ⟨some 12, .move, [.tmp 70 true], none⟩] none []))
              (.seq
                (.region [
                  ⟨some 71, .move, [.tmp 11 false], none⟩,
                  ⟨some 72, .move, [.tmp 2 false], none⟩,
                  ⟨some 73, .call 17, [.tmp 71 true, .tmp 72 false], none⟩,
                  ⟨some 74, .un .not, [.tmp 73 false], none⟩,
                  ⟨some 75, .move, [.tmp 74 false], none⟩,
                  ⟨some 76, .move, [.tmp 11 false], some (75, false)⟩,
                  ⟨some 77, .move, [.tmp 3 false], some (75, false)⟩,
                  ⟨some 78, .call 17, [.tmp 76 true, .tmp 77 false], some (75, false)⟩,
                  ⟨some 79, .pick, [.tmp 75 false, .const (.bool true), .tmp 78 false], none⟩,
                  ⟨some 13, .move, [.tmp 79 false], none⟩] none [2, 3, 72, 73, 74, 75, 76, 77, 78, 79])
                (.seq
                  (.region [
                    ⟨some 80, .move, [.tmp 11 false], none⟩,
                    ⟨some 81, .move, [.tmp 12 false], none⟩,
                    ⟨some 82, .call 19, [.tmp 80 true, .tmp 81 true], none⟩,
                    ⟨some 83, .move, [.tmp 82 false], none⟩,
                    ⟨some 84, .move, [.tmp 11 true], some (83, true)⟩,
                    ⟨some 85, .move, [.tmp 12 true], some (83, true)⟩,
                    ⟨some 86, .call 9, [.tmp 84 true, .tmp 85 true], some (83, true)⟩,
                    ⟨some 87, .move, [.tmp 13 false], some (83, true)⟩,
                    ⟨some 88, .eqv (.sc .bool) false, [.tmp 86 false, .tmp 87 false], some (83, true)⟩,
                    ⟨some 89, .pick, [.tmp 83 false, .tmp 88 false, .const (.bool false)], none⟩,
                    ⟨some 90, .move, [.tmp 89 false], none⟩,
                    ⟨some 91, .call 14, [], some (90, true)⟩,
                    ⟨some 92, .pick, [.tmp 90 false, .tmp 91 false, .const (.bool false)], none⟩,
                    ⟨some 8, .move, [.tmp 92 false], none⟩] none [11, 12, 13, 82, 83, 84, 85, 86, 87, 88, 89, 90, 91, 92])
                  .ret)))))))) }

/-- runrig/runriglaw22.great -/
def s8_l0 : SCode :=
  (.seq
    (.seq
      (.region [
        ⟨some 7, .move, [.tmp 3 false], none⟩,
        ⟨some 8, .move, [.tmp 0 false], none⟩,
        ⟨some 9, .len .sl, [.tmp 8 true], none⟩,
        ⟨some 10, .bin .lss, [.tmp 7 false, .tmp 9 false], none⟩] none [7, 9])
      (.cond (.tmp 10 true) []
        .skip [0, 3]
        (.exit 0)))
    (.seq
      (.block 1
        (.seq
          (.region [
            ⟨some 13, .move, [.tmp 0 false], none⟩,
            ⟨some 14, .move, [.tmp 3 false], none⟩,
            ⟨some 15, .indexAddr 1, [.tmp 13 true, .tmp 14 false], none⟩,
            ⟨some 16, .load false 1 false, [.tmp 15 true], none⟩,
            ⟨some 17, .len .sl, [.tmp 16 true], none⟩,
            ⟨some 18, .bin .gtr, [.tmp 17 false, .const (.int .i64 30)], none⟩] none [14, 17])
          (.cond (.tmp 18 true) [0, 3]
            (.seq
              (.region [
                ⟨some 2, .move, [.const (.bool true)], none⟩] none [])
              .ret) []
            .skip)))
      (.region [
        ⟨some 11, .move, [.tmp 3 false], none⟩,
        ⟨some 12, .bin .add, [.tmp 11 false, .const (.int .i64 1)], none⟩,
        ⟨some 3, .move, [.tmp 12 false], none⟩] none [11, 12])))
def s8 : SFunc := { fid := 8, mode := .pure, nparams := 1, nboxes := 0, clr := [], results := [.tmp 2 false], body :=
  (.seq
    (.region [
      ⟨some 2, .move, [.const (.bool false)], none⟩] none [2])
    (.seq
      (.seq
        (.region [
          ⟨some 4, .move, [.tmp 0 false], none⟩,
          ⟨some 5, .len .sl, [.tmp 4 true], none⟩,
          ⟨some 6, .bin .gtr, [.tmp 5 false, .const (.int .i64 60)], none⟩] none [5])
        (.cond (.tmp 6 true) [0]
          (.seq
            (.region [
              ⟨some 2, .move, [.const (.bool true)], none⟩] none [])
            .ret) []
          .skip))
      (.seq
        (.seq
          (.region [
            ⟨some 3, .move, [.const (.int .i64 0)], none⟩] none [])
          (.block 0
            (.loop s8_l0)))
        (.seq
          (.region [
            ⟨some 2, .move, [.const (.bool false)], none⟩] none [])
          .ret)))) }

/-- runrig/runrigref15.Ints -/
def s9_l0 : SCode :=
  (.seq
    (.seq
      (.region [
        ⟨some 11, .move, [.tmp 5 false], none⟩,
        ⟨some 12, .move, [.tmp 0 false], none⟩,
        ⟨some 13, .len .sl, [.tmp 12 true], none⟩,
        ⟨some 14, .bin .lss, [.tmp 11 false, .tmp 13 false], none⟩] none [11, 13])
      (.cond (.tmp 14 true) []
        .skip [0, 1, 5]
        (.exit 0)))
    (.seq
      (.block 1
        (.seq
          (.region [
            ⟨some 17, .move, [.tmp 0 false], none⟩,
            ⟨some 18, .move, [.tmp 5 false], none⟩,
            ⟨some 19, .indexAddr 1, [.tmp 17 true, .tmp 18 false], none⟩,
            ⟨some 20, .load false 1 false, [.tmp 19 true], none⟩,
            ⟨some 21, .move, [.tmp 1 false], none⟩,
            ⟨some 22, .move, [.tmp 5 false], none⟩,
            ⟨some 23, .indexAddr 1, [.tmp 21 true, .tmp 22 false], none⟩,
            ⟨some 24, .load false 1 false, [.tmp 23 true], none⟩,
            ⟨some 25, .bin .neq, [.tmp 20 false, .tmp 24 false], none⟩] (some []) [18, 20, 22, 24])
          (.cond (.tmp 25 true) [0, 1, 5]
            (.seq
              (.region [
                ⟨some 4, .move, [.const (.bool false)], none⟩] none [])
              .ret) []
            .skip)))
      (.region [
        ⟨some 15, .move, [.tmp 5 false], none⟩,
        ⟨some 16, .bin .add, [.tmp 15 false, .const (.int .i64 1)], none⟩,
        ⟨some 5, .move, [.tmp 16 false], none⟩] none [15, 16])))
def s9 : SFunc := { fid := 9, mode := .pure, nparams := 2, nboxes := 0, clr := [], results := [.tmp 4 false], body :=
  (.seq
    (.region [
      ⟨some 4, .move, [.const (.bool false)], none⟩] none [4])
    (.seq
      (.seq
        (.region [
          ⟨some 6, .move, [.tmp 0 false], none⟩,
          ⟨some 7, .len .sl, [.tmp 6 true], none⟩,
          ⟨some 8, .move, [.tmp 1 false], none⟩,
          ⟨some 9, .len .sl, [.tmp 8 true], none⟩,
          ⟨some 10, .bin .neq, [.tmp 7 false, .tmp 9 false], none⟩] none [7, 9])
        (.cond (.tmp 10 true) [0, 1]
          (.seq
            (.region [
              ⟨some 4, .move, [.const (.bool false)], none⟩] none [])
            .ret) []
          .skip))
      (.seq
        (.seq
          (.region [
            ⟨some 5, .move, [.const (.int .i64 0)], none⟩] none [])
          (.block 0
            (.loop s9_l0)))
        (.seq
          (.region [
            ⟨some 4, .move, [.const (.bool true)], none⟩] none [])
          .ret)))) }

/-- runrig/reach.From -/
def s10_l0 : SCode :=
  (.seq
    (.seq
      (.region [
        ⟨some 16, .move, [.tmp 6 false], none⟩,
        ⟨some 17, .len .sl, [.tmp 16 true], none⟩,
        ⟨some 18, .bin .gtr, [.tmp 17 false, .const (.int .i64 0)], none⟩] none [17])
      (.cond (.tmp 18 true) []
        .skip [0, 6]
        (.exit 0)))
    (.block 1
      (.seq
        (.region [
          ⟨some 19, .move, [.tmp 6 false], none⟩,
          ⟨some 20, .move, [.tmp 6 false], none⟩,
          ⟨some 21, .len .sl, [.tmp 20 true], none⟩,
          ⟨some 22, .bin .sub, [.tmp 21 false, .const (.int .i64 1)], none⟩,
          ⟨some 23, .indexAddr 1, [.tmp 19 true, .tmp 22 false], none⟩,
          ⟨some 24, .load false 1 false, [.tmp 23 true], none⟩,
          ⟨some 7, .move, [.tmp 24 false], none⟩] none [21, 22, 24])
        (.seq
          (.region [
            ⟨some 25, .move, [.tmp 6 false], none⟩,
            ⟨some 26, .move, [.tmp 6 true], none⟩,
            ⟨some 27, .len .sl, [.tmp 26 true], none⟩,
            ⟨some 28, .bin .sub, [.tmp 27 false, .const (.int .i64 1)], none⟩,
            ⟨some 29, .sliceM 1, [.tmp 25 true, .tmp 28 false], none⟩,
            ⟨some 6, .move, [.tmp 29 true], none⟩] none [27, 28])
          (.seq
            (.region [
              ⟨some 30, .move, [.tmp 0 false], none⟩,
              ⟨some 31, .move, [.tmp 7 false], none⟩,
              ⟨some 32, .call 21, [.tmp 30 true, .tmp 31 false], none⟩,
              ⟨some 33, .move, [.tmp 32 false], none⟩,
              ⟨some 34, .move, [.tmp 5 false], some (33, true)⟩,
              ⟨some 35, .move, [.tmp 7 false], some (33, true)⟩,
              ⟨some 36, .indexAddr 1, [.tmp 34 true, .tmp 35 false], some (33, true)⟩,
              ⟨some 37, .load false 1 false, [.tmp 36 true], some (33, true)⟩,
              ⟨some 38, .un .not, [.tmp 37 false], some (33, true)⟩,
              ⟨some 39, .pick, [.tmp 33 false, .tmp 38 false, .const (.bool false)], none⟩] none [31, 32, 33, 34, 35, 36, 37, 38])
            (.cond (.tmp 39 true) []
              (.seq
                (.region [
                  ⟨some 40, .move, [.tmp 5 false], none⟩,
                  ⟨some 41, .move, [.tmp 7 false], none⟩,
                  ⟨some 42, .indexAddr 1, [.tmp 40 true, .tmp 41 false], none⟩,
                  ⟨none, .store 1, [.tmp 42 true, .const (.bool true)], none⟩] none [41])
                (.region [
                  ⟨some 43, .move, [.tmp 6 true], none⟩,
                  ⟨some 44, .move, [.tmp 0 false], none⟩,
                  ⟨some 45, .move, [.tmp 7 false], none⟩,
                  ⟨some 46, .indexAddr 1, [.tmp 44 true, .tmp 45 false], none⟩,
                  ⟨some 47, .load false 1 false, [.tmp 46 true], none⟩,
                  ⟨some 48, .appendM 1 8, [.tmp 43 true, .tmp 47 true], none⟩,
                  ⟨some 6, .move, [.tmp 48 true], none⟩] none [7, 45])) [7]
              .skip))))))
def s10_l1 : SCode :=
  (.seq
    (.region [
      ⟨some 52, .bin .lss, [.tmp 51 false, .tmp 50 false], none⟩] none [])
    (.seq
      (.cond (.tmp 52 true) []
        .skip [49, 50, 51]
        (.exit 2))
      (.seq
        (.block 3
          (.seq
            (.region [
              ⟨some 53, .move, [.tmp 51 false], none⟩,
              ⟨some 54, .indexAddr 1, [.tmp 49 false, .tmp 51 false], none⟩,
              ⟨some 55, .load false 1 false, [.tmp 54 true], none⟩,
              ⟨some 9, .move, [.tmp 53 false], none⟩,
              ⟨some 10, .move, [.tmp 55 false], none⟩] none [53, 55])
            (.seq
              (.region [
                ⟨some 56, .move, [.tmp 10 false], none⟩] none [10])
              (.cond (.tmp 56 true) []
                (.region [
                  ⟨some 57, .move, [.tmp 8 true], none⟩,
                  ⟨some 58, .move, [.tmp 9 false], none⟩,
                  ⟨some 59, .lit 1 1 [.int .i64 0] [0], [.tmp 58 false], none⟩,
                  ⟨some 60, .append 1 8, [.tmp 57 true, .tmp 59 true], none⟩,
                  ⟨some 8, .move, [.tmp 60 true], none⟩] none [9, 58]) [9]
                .skip))))
        (.region [
          ⟨some 61, .bin .add, [.tmp 51 false, .const (.int .i64 1)], none⟩,
          ⟨some 51, .move, [.tmp 61 false], none⟩] none [61]))))
def s10 : SFunc := { fid := 10, mode := .pure, nparams := 2, nboxes := 0, clr := [], results := [.tmp 4 true], body :=
  (.seq
    (.region [
      ⟨some 4, .move, [.const (.nilSl)], none⟩] none [4])
    (.seq
      (.region [
        ⟨some 11, .move, [.tmp 0 false], none⟩,
        ⟨some 12, .len .sl, [.tmp 11 true], none⟩,
        ⟨some 13, .makeSl 1 1 [.bool false] true, [.tmp 12 false, .tmp 12 false], none⟩,
        ⟨some 5, .move, [.tmp 13 true], none⟩] none [12])
      (.seq
        (.seq
          (.region [
            ⟨some 14, .move, [.tmp 1 true], none⟩,
            ⟨some 15, .call 100000, [.tmp 14 true], none⟩,
            ⟨some 6, .move, [.tmp 15 true], none⟩] none [])
          (.block 0
            (.loop s10_l0)))
        (.seq
          (.region [
            ⟨some 8, .move, [.const (.nilSl)], none⟩] none [])
          (.seq
            (.seq
              (.region [
                ⟨some 49, .move, [.tmp 5 true], none⟩,
                ⟨some 50, .len .sl, [.tmp 49 false], none⟩,
                ⟨some 51, .move, [.const (.int .i64 0)], none⟩] none [])
              (.block 2
                (.loop s10_l1)))
            (.seq
              (.region [
                ⟨some 62, .move, [.tmp 8 true], none⟩,
                ⟨some 4, .move, [.tmp 62 true], none⟩] none [])
              .ret)))))) }

/-- runrig/runrigref19.From -/
def s11_l0 : SCode :=
  (.seq
    (.seq
      (.region [
        ⟨some 13, .move, [.tmp 6 false], none⟩,
        ⟨some 14, .move, [.tmp 1 false], none⟩,
        ⟨some 15, .len .sl, [.tmp 14 true], none⟩,
        ⟨some 16, .bin .lss, [.tmp 13 false, .tmp 15 false], none⟩] none [13, 15])
      (.cond (.tmp 16 true) []
        .skip [1, 6]
        (.exit 0)))
    (.seq
      (.block 1
        (.seq
          (.region [
            ⟨some 19, .move, [.tmp 1 false], none⟩,
            ⟨some 20, .move, [.tmp 6 false], none⟩,
            ⟨some 21, .indexAddr 1, [.tmp 19 true, .tmp 20 false], none⟩,
            ⟨some 22, .load false 1 false, [.tmp 21 true], none⟩,
            ⟨some 23, .move, [.tmp 5 false], none⟩,
            ⟨some 24, .len .sl, [.tmp 23 true], none⟩,
            ⟨some 25, .call 22, [.tmp 22 false, .tmp 24 false], none⟩] none [20, 22, 24])
          (.cond (.tmp 25 true) []
            (.region [
              ⟨some 26, .move, [.tmp 5 false], none⟩,
              ⟨some 27, .move, [.tmp 1 false], none⟩,
              ⟨some 28, .move, [.tmp 6 false], none⟩,
              ⟨some 29, .indexAddr 1, [.tmp 27 true, .tmp 28 false], none⟩,
              ⟨some 30, .load false 1 false, [.tmp 29 true], none⟩,
              ⟨some 31, .indexAddr 1, [.tmp 26 true, .tmp 30 false], none⟩,
              ⟨none, .store 1, [.tmp 31 true, .const (.bool true)], none⟩] none [28, 30]) []
            .skip)))
      (.region [
        ⟨some 17, .move, [.tmp 6 false], none⟩,
        ⟨some 18, .bin .add, [.tmp 17 false, .const (.int .i64 1)], none⟩,
        ⟨some 6, .move, [.tmp 18 false], none⟩] none [17, 18])))
def s11_l1 : SCode :=
  (.seq
    (.seq
      (.region [
        ⟨some 39, .move, [.tmp 9 false], none⟩,
        ⟨some 40, .move, [.tmp 0 false], none⟩,
        ⟨some 41, .move, [.tmp 8 false], none⟩,
        ⟨some 42, .indexAddr 1, [.tmp 40 true, .tmp 41 false], none⟩,
        ⟨some 43, .load false 1 false, [.tmp 42 true], none⟩,
        ⟨some 44, .len .sl, [.tmp 43 true], none⟩,
        ⟨some 45, .bin .lss, [.tmp 39 false, .tmp 44 false], none⟩,
        ⟨some 46, .move, [.tmp 45 false], none⟩,
        ⟨some 47, .move, [.tmp 5 false], some (46, true)⟩,
        ⟨some 48, .move, [.tmp 8 false], some (46, true)⟩,
        ⟨some 49, .indexAddr 1, [.tmp 47 true, .tmp 48 false], some (46, true)⟩,
        ⟨some 50, .load false 1 false, [.tmp 49 true], some (46, true)⟩,
        ⟨some 51, .pick, [.tmp 46 false, .tmp 50 false, .const (.bool false)], none⟩] none [39, 41, 44, 45, 46, 47, 48, 49, 50])
      (.cond (.tmp 51 true) []
        .skip [9]
        (.exit 6)))
    (.seq
      (.block 7
        (.seq
          (.region [
            ⟨some 54, .move, [.tmp 0 false], none⟩,
            ⟨some 55, .move, [.tmp 8 false], none⟩,
            ⟨some 56, .indexAddr 1, [.tmp 54 true, .tmp 55 false], none⟩,
            ⟨some 57, .load false 1 false, [.tmp 56 true], none⟩,
            ⟨some 58, .move, [.tmp 9 false], none⟩,
            ⟨some 59, .indexAddr 1, [.tmp 57 true, .tmp 58 false], none⟩,
            ⟨some 60, .load false 1 false, [.tmp 59 true], none⟩,
            ⟨some 61, .move, [.tmp 5 false], none⟩,
            ⟨some 62, .len .sl, [.tmp 61 true], none⟩,
            ⟨some 63, .call 22, [.tmp 60 false, .tmp 62 false], none⟩,
            ⟨some 64, .move, [.tmp 63 false], none⟩,
            ⟨some 65, .move, [.tmp 5 false], some (64, true)⟩,
            ⟨some 66, .move, [.tmp 0 false], some (64, true)⟩,
            ⟨some 67, .move, [.tmp 8 false], some (64, true)⟩,
            ⟨some 68, .indexAddr 1, [.tmp 66 true, .tmp 67 false], some (64, true)⟩,
            ⟨some 69, .load false 1 false, [.tmp 68 true], some (64, true)⟩,
            ⟨some 70, .move, [.tmp 9 false], some (64, true)⟩,
            ⟨some 71, .indexAddr 1, [.tmp 69 true, .tmp 70 false], some (64, true)⟩,
            ⟨some 72, .load false 1 false, [.tmp 71 true], some (64, true)⟩,
            ⟨some 73, .indexAddr 1, [.tmp 65 true, .tmp 72 false], some (64, true)⟩,
            ⟨some 74, .load false 1 false, [.tmp 73 true], some (64, true)⟩,
            ⟨some 75, .un .not, [.tmp 74 false], some (64, true)⟩,
            ⟨some 76, .pick, [.tmp 64 false, .tmp 75 false, .const (.bool false)], none⟩] none [55, 58, 60, 62, 63, 64, 65, 66, 67, 68, 69, 70, 71, 72, 73, 74, 75])
          (.cond (.tmp 76 true) [7]
            (.seq
              (.region [
                ⟨some 77, .move, [.tmp 5 false], none⟩,
                ⟨some 78, .move, [.tmp 0 false], none⟩,
                ⟨some 79, .move, [.tmp 8 false], none⟩,
                ⟨some 80, .indexAddr 1, [.tmp 78 true, .tmp 79 false], none⟩,
                ⟨some 81, .load false 1 false, [.tmp 80 true], none⟩,
                ⟨some 82, .move, [.tmp 9 false], none⟩,
                ⟨some 83, .indexAddr 1, [.tmp 81 true, .tmp 82 false], none⟩,
                ⟨some 84, .load false 1 false, [.tmp 83 true], none⟩,
                ⟨some 85, .indexAddr 1, [.tmp 77 true, .tmp 84 false], none⟩,
                ⟨none, .store 1, [.tmp 85 true, .const (.bool true)], none⟩] none [79, 82, 84])
              (.region [
                ⟨some 7, .move, [.const (.bool true)], none⟩] none [])) []
            .skip)))
      (.region [
        ⟨some 52, .move, [.tmp 9 false], none⟩,
        ⟨some 53, .bin .add, [.tmp 52 false, .const (.int .i64 1)], none⟩,
        ⟨some 9, .move, [.tmp 53 false], none⟩] none [52, 53])))
def s11_l2 : SCode :=
  (.seq
    (.seq
      (.region [
        ⟨some 33, .move, [.tmp 8 false], none⟩,
        ⟨some 34, .move, [.tmp 5 false], none⟩,
        ⟨some 35, .len .sl, [.tmp 34 true], none⟩,
        ⟨some 36, .bin .lss, [.tmp 33 false, .tmp 35 false], none⟩] none [33, 35])
      (.cond (.tmp 36 true) []
        .skip [8]
        (.exit 4)))
    (.seq
      (.block 5
        (.seq
          (.region [
            ⟨some 9, .move, [.const (.int .i64 0)], none⟩] none [])
          (.block 6
            (.loop s11_l1))))
      (.region [
        ⟨some 37, .move, [.tmp 8 false], none⟩,
        ⟨some 38, .bin .add, [.tmp 37 false, .const (.int .i64 1)], none⟩,
        ⟨some 8, .move, [.tmp 38 false], none⟩] none [37, 38])))
def s11_l3 : SCode :=
  (.seq
    (.seq
      (.region [
        ⟨some 32, .move, [.tmp 7 false], none⟩] none [7])
      (.cond (.tmp 32 true) []
        .skip [0]
        (.exit 2)))
    (.block 3
      (.seq
        (.region [
          ⟨some 7, .move, [.const (.bool false)], none⟩] none [])
        (.seq
          (.region [
            ⟨some 8, .move, [.const (.int .i64 0)], none⟩] none [])
          (.block 4
            (.loop s11_l2))))))
def s11 : SFunc := { fid := 11, mode := .pure, nparams := 2, nboxes := 0, clr := [], results := [.tmp 4 true], body :=
  (.seq
    (.region [
      ⟨some 4, .move, [.const (.nilSl)], none⟩] none [4])
    (.seq
      (.region [
        ⟨some 10, .move, [.tmp 0 false], none⟩,
        ⟨some 11, .len .sl, [.tmp 10 true], none⟩,
        ⟨some 12, .makeSl 1 1 [.bool false] true, [.tmp 11 false, .tmp 11 false], none⟩,
        ⟨some 5, .move, [.tmp 12 true], none⟩] none [11])
      (.seq
        (.seq
          (.region [
            ⟨some 6, .move, [.const (.int .i64 0)], none⟩] none [])
          (.block 0
            (.loop s11_l0)))
        (.seq
          (.seq
            (.region [
              ⟨some 7, .move, [.const (.bool true)], none⟩] none [])
            (.block 2
              (.loop s11_l3)))
          (.seq
            (.region [
              ⟨some 86, .move, [.tmp 5 true], none⟩,
              ⟨some 87, .call 23, [.tmp 86 true], none⟩,
              ⟨some 4, .move, [.tmp 87 true], none⟩] none [])
            .ret))))) }

/-- runrig/reach.Closed -/

def s12 : SFunc := { fid := 12, mode := .pure, nparams := 2, nboxes := 0, clr := [], results := [.tmp 4 false], body :=
  (.seq
    (.region [
      ⟨some 3, .box 1, [.tmp 1 true], none⟩,
      ⟨some 4, .move, [.const (.bool false)], none⟩] none [4])
    (.seq
      (.region [
        ⟨some 5, .move, [.tmp 0 true], none⟩,
        ⟨some 6, .load false 1 false, [.tmp 3 false], none⟩,
        ⟨some 7, .call 10, [.tmp 5 true, .tmp 6 true], none⟩,
        ⟨some 8, .makeFunc 25 0, [.tmp 3 true], none⟩,
        ⟨some 9, .call 24, [.tmp 7 true, .tmp 8 false], none⟩,
        ⟨some 10, .un .not, [.tmp 9 false], none⟩,
        ⟨some 4, .move, [.tmp 10 false], none⟩] none [8, 9, 10])
      .ret)) }

/-- runrig/runrigref19.Closed -/

def s13 : SFunc := { fid := 13, mode := .pure, nparams := 2, nboxes := 0, clr := [], results := [.tmp 4 false], body :=
  (.seq
    (.region [
      ⟨some 4, .move, [.const (.bool false)], none⟩] none [4])
    (.seq
      (.region [
        ⟨some 5, .move, [.tmp 0 true], none⟩,
        ⟨some 6, .move, [.tmp 1 false], none⟩,
        ⟨some 7, .call 11, [.tmp 5 true, .tmp 6 true], none⟩,
        ⟨some 8, .move, [.tmp 1 true], none⟩,
        ⟨some 9, .call 27, [.tmp 7 true, .tmp 8 true], none⟩,
        ⟨some 4, .move, [.tmp 9 false], none⟩] none [9])
      .ret)) }

/-- runrig/runriglaw22.known -/

def s14 : SFunc := { fid := 14, mode := .pure, nparams := 0, nboxes := 0, clr := [], results := [.tmp 0 false], body :=
  (.seq
    (.region [
      ⟨some 0, .move, [.const (.bool false)], none⟩] none [0])
    (.seq
      (.region [
        ⟨some 2, .lit 1 2 [.int .i64 0] [0, 1], [.const (.int .i64 1), .const (.int .i64 (-1))], none⟩,
        ⟨some 3, .lit 1 0 [.int .i64 0] [], [], none⟩,
        ⟨some 4, .lit 1 3 [.int .i64 0] [0, 1, 2], [.const (.int .i64 0), .const (.int .i64 (-2)), .const (.int .i64 9)], none⟩,
        ⟨some 5, .lit 1 3 [.nilSl] [0, 1, 2], [.tmp 2 true, .tmp 3 true, .tmp 4 true], none⟩,
        ⟨some 1, .move, [.tmp 5 true], none⟩] none [])
      (.seq
        (.region [
          ⟨some 6, .move, [.tmp 1 false], none⟩,
          ⟨some 7, .lit 1 1 [.int .i64 0] [0], [.const (.int .i64 2)], none⟩,
          ⟨some 8, .call 10, [.tmp 6 true, .tmp 7 true], none⟩,
          ⟨some 9, .lit 1 3 [.int .i64 0] [0, 1, 2], [.const (.int .i64 0), .const (.int .i64 1), .const (.int .i64 2)], none⟩,
          ⟨some 10, .call 9, [.tmp 8 true, .tmp 9 true], none⟩,
          ⟨some 11, .move, [.tmp 10 false], none⟩,
          ⟨some 12, .move, [.tmp 1 false], some (11, true)⟩,
          ⟨some 13, .lit 1 2 [.int .i64 0] [0, 1], [.const (.int .i64 0), .const (.int .i64 1)], some (11, true)⟩,
          ⟨some 14, .call 12, [.tmp 12 true, .tmp 13 true], some (11, true)⟩,
          ⟨some 15, .pick, [.tmp 11 false, .tmp 14 false, .const (.bool false)], none⟩,
          ⟨some 16, .move, [.tmp 15 false], none⟩,
          ⟨some 17, .move, [.tmp 1 false], some (16, true)⟩,
          ⟨some 18, .lit 1 1 [.int .i64 0] [0], [.const (.int .i64 0)], some (16, true)⟩,
          ⟨some 19, .call 12, [.tmp 17 true, .tmp 18 true], some (16, true)⟩,
          ⟨some 20, .un .not, [.tmp 19 false], some (16, true)⟩,
          ⟨some 21, .pick, [.tmp 16 false, .tmp 20 false, .const (.bool false)], none⟩,
          ⟨some 22, .move, [.tmp 21 false], none⟩,
          ⟨some 23, .move, [.tmp 1 true], some (22, true)⟩,
          ⟨some 24, .call 15, [.tmp 23 true, .const (.int .i64 1)], some (22, true)⟩,
          ⟨some 25, .lit 1 3 [.int .i64 0] [0, 1, 2], [.const (.int .i64 0), .const (.int .i64 1), .const (.int .i64 2)], some (22, true)⟩,
          ⟨some 26, .call 9, [.tmp 24 true, .tmp 25 true], some (22, true)⟩,
          ⟨some 27, .pick, [.tmp 22 false, .tmp 26 false, .const (.bool false)], none⟩,
          ⟨some 0, .move, [.tmp 27 false], none⟩] none [1, 10, 11, 12, 13, 14, 15, 16, 17, 18, 19, 20, 21, 22, 23, 24, 25, 26, 27])
        .ret))) }

/-- runrig/reach.Into -/
def s15_l0 : SCode :=
  (.seq
    (.region [
      ⟨some 10, .bin .lss, [.tmp 9 false, .tmp 8 false], none⟩] none [])
    (.seq
      (.cond (.tmp 10 true) []
        .skip [0, 1, 8, 9]
        (.exit 0))
      (.seq
        (.block 1
          (.seq
            (.region [
              ⟨some 11, .move, [.tmp 9 false], none⟩,
              ⟨some 6, .move, [.tmp 11 false], none⟩] none [11])
            (.seq
              (.region [
                ⟨some 12, .move, [.tmp 0 false], none⟩,
                ⟨some 13, .move, [.tmp 1 false], none⟩,
                ⟨some 14, .call 21, [.tmp 12 true, .tmp 13 false], none⟩,
                ⟨some 15, .move, [.tmp 14 false], none⟩,
                ⟨some 16, .move, [.tmp 0 false], some (15, true)⟩,
                ⟨some 17, .move, [.tmp 6 false], some (15, true)⟩,
                ⟨some 18, .lit 1 1 [.int .i64 0] [0], [.tmp 17 false], some (15, true)⟩,
                ⟨some 19, .call 10, [.tmp 16 true, .tmp 18 true], some (15, true)⟩,
                ⟨some 20, .move, [.tmp 1 false], some (15, true)⟩,
                ⟨some 21, .call 26, [.tmp 19 true, .tmp 20 false], some (15, true)⟩,
                ⟨some 22, .pick, [.tmp 15 false, .tmp 21 false, .const (.bool false)], none⟩] none [13, 14, 15, 16, 17, 18, 19, 20, 21])
              (.cond (.tmp 22 true) []
                (.region [
                  ⟨some 23, .move, [.tmp 5 true], none⟩,
                  ⟨some 24, .move, [.tmp 6 false], none⟩,
                  ⟨some 25, .lit 1 1 [.int .i64 0] [0], [.tmp 24 false], none⟩,
                  ⟨some 26, .append 1 8, [.tmp 23 true, .tmp 25 true], none⟩,
                  ⟨some 5, .move, [.tmp 26 true], none⟩] none [6, 24]) [6]
                .skip))))
        (.region [
          ⟨some 27, .bin .add, [.tmp 9 false, .const (.int .i64 1)], none⟩,
          ⟨some 9, .move, [.tmp 27 false], none⟩] none [27]))))
def s15 : SFunc := { fid := 15, mode := .pure, nparams := 2, nboxes := 0, clr := [], results := [.tmp 4 true], body :=
  (.seq
    (.region [
      ⟨some 4, .move, [.const (.nilSl)], none⟩] none [4])
    (.seq
      (.region [
        ⟨some 5, .move, [.const (.nilSl)], none⟩] none [])
      (.seq
        (.seq
          (.region [
            ⟨some 7, .move, [.tmp 0 false], none⟩,
            ⟨some 8, .len .sl, [.tmp 7 true], none⟩,
            ⟨some 9, .move, [.const (.int .i64 0)], none⟩] none [])
          (.block 0
            (.loop s15_l0)))
        (.seq
          (.region [
            ⟨some 28, .move, [.tmp 5 true], none⟩,
            ⟨some 4, .move, [.tmp 28 true], none⟩] none [])
          .ret)))) }

/-- runrig/runrigref19.Into -/
def s16_l0 : SCode :=
  (.seq
    (.seq
      (.region [
        ⟨some 7, .move, [.tmp 6 false], none⟩,
        ⟨some 8, .move, [.tmp 0 false], none⟩,
        ⟨some 9, .len .sl, [.tmp 8 true], none⟩,
        ⟨some 10, .bin .lss, [.tmp 7 false, .tmp 9 false], none⟩] none [7, 9])
      (.cond (.tmp 10 true) []
        .skip [0, 1, 6]
        (.exit 0)))
    (.seq
      (.block 1
        (.seq
          (.region [
            ⟨some 13, .move, [.tmp 0 false], none⟩,
            ⟨some 14, .move, [.tmp 6 false], none⟩,
            ⟨some 15, .lit 1 1 [.int .i64 0] [0], [.tmp 14 false], none⟩,
            ⟨some 16, .call 11, [.tmp 13 true, .tmp 15 true], none⟩,
            ⟨some 17, .move, [.tmp 1 false], none⟩,
            ⟨some 18, .call 17, [.tmp 16 true, .tmp 17 false], none⟩] none [14, 17])
          (.cond (.tmp 18 true) []
            (.region [
              ⟨some 19, .move, [.tmp 5 true], none⟩,
              ⟨some 20, .move, [.tmp 6 false], none⟩,
              ⟨some 21, .lit 1 1 [.int .i64 0] [0], [.tmp 20 false], none⟩,
              ⟨some 22, .append 1 8, [.tmp 19 true, .tmp 21 true], none⟩,
              ⟨some 5, .move, [.tmp 22 true], none⟩] none [20]) []
            .skip)))
      (.region [
        ⟨some 11, .move, [.tmp 6 false], none⟩,
        ⟨some 12, .bin .add, [.tmp 11 false, .const (.int .i64 1)], none⟩,
        ⟨some 6, .move, [.tmp 12 false], none⟩] none [11, 12])))
def s16 : SFunc := { fid := 16, mode := .pure, nparams := 2, nboxes := 0, clr := [], results := [.tmp 4 true], body :=
  (.seq
    (.region [
      ⟨some 4, .move, [.const (.nilSl)], none⟩] none [4])
    (.seq
      (.region [
        ⟨some 5, .move, [.const (.nilSl)], none⟩] none [])
      (.seq
        (.seq
          (.region [
            ⟨some 6, .move, [.const (.int .i64 0)], none⟩] none [])
          (.block 0
            (.loop s16_l0)))
        (.seq
          (.region [
            ⟨some 23, .move, [.tmp 5 true], none⟩,
            ⟨some 4, .move, [.tmp 23 true], none⟩] none [])
          .ret)))) }

/-- runrig/runrigref15.In -/
def s17_l0 : SCode :=
  (.seq
    (.seq
      (.region [
        ⟨some 6, .move, [.tmp 5 false], none⟩,
        ⟨some 7, .move, [.tmp 0 false], none⟩,
        ⟨some 8, .len .sl, [.tmp 7 true], none⟩,
        ⟨some 9, .bin .lss, [.tmp 6 false, .tmp 8 false], none⟩] none [6, 8])
      (.cond (.tmp 9 true) []
        .skip [0, 1, 5]
        (.exit 0)))
    (.seq
      (.block 1
        (.seq
          (.region [
            ⟨some 12, .move, [.tmp 0 false], none⟩,
            ⟨some 13, .move, [.tmp 5 false], none⟩,
            ⟨some 14, .indexAddr 1, [.tmp 12 true, .tmp 13 false], none⟩,
            ⟨some 15, .load false 1 false, [.tmp 14 true], none⟩,
            ⟨some 16, .move, [.tmp 1 false], none⟩,
            ⟨some 17, .bin .eql, [.tmp 15 false, .tmp 16 false], none⟩] none [13, 15, 16])
          (.cond (.tmp 17 true) [0, 1, 5]
            (.seq
              (.region [
                ⟨some 4, .move, [.const (.bool true)], none⟩] none [])
              .ret) []
            .skip)))
      (.region [
        ⟨some 10, .move, [.tmp 5 false], none⟩,
        ⟨some 11, .bin .add, [.tmp 10 false, .const (.int .i64 1)], none⟩,
        ⟨some 5, .move, [.tmp 11 false], none⟩] none [10, 11])))
def s17 : SFunc := { fid := 17, mode := .pure, nparams := 2, nboxes := 0, clr := [], results := [.tmp 4 false], body :=
  (.seq
    (.region [
      ⟨some 4, .move, [.const (.bool false)], none⟩] none [4])
    (.seq
      (.seq
        (.region [
          ⟨some 5, .move, [.const (.int .i64 0)], none⟩] none [])
        (.block 0
          (.loop s17_l0)))
      (.seq
        (.region [
          ⟨some 4, .move, [.const (.bool false)], none⟩] none [])
        .ret))) }

/-- runrig/runrigref19.Both -/
def s18_l0 : SCode :=
  (.seq
    (.seq
      (.region [
        ⟨some 8, .move, [.tmp 6 false], none⟩,
        ⟨some 9, .move, [.tmp 0 false], none⟩,
        ⟨some 10, .len .sl, [.tmp 9 true], none⟩,
        ⟨some 11, .bin .lss, [.tmp 8 false, .tmp 10 false], none⟩] none [8, 10])
      (.cond (.tmp 11 true) []
        .skip [0, 6]
        (.exit 0)))
    (.seq
      (.block 1
        (.region [
          ⟨some 14, .move, [.tmp 5 true], none⟩,
          ⟨some 15, .move, [.tmp 0 false], none⟩,
          ⟨some 16, .move, [.tmp 6 false], none⟩,
          ⟨some 17, .indexAddr 1, [.tmp 15 true, .tmp 16 false], none⟩,
          ⟨some 18, .load false 1 false, [.tmp 17 true], none⟩,
          ⟨some 19, .call 28, [.tmp 14 true, .tmp 18 false], none⟩,
          ⟨some 5, .move, [.tmp 19 true], none⟩] none [16, 18]))
      (.region [
        ⟨some 12, .move, [.tmp 6 false], none⟩,
        ⟨some 13, .bin .add, [.tmp 12 false, .const (.int .i64 1)], none⟩,
        ⟨some 6, .move, [.tmp 13 false], none⟩] none [12, 13])))
def s18_l1 : SCode :=
  (.seq
    (.seq
      (.region [
        ⟨some 20, .move, [.tmp 7 false], none⟩,
        ⟨some 21, .move, [.tmp 1 false], none⟩,
        ⟨some 22, .len .sl, [.tmp 21 true], none⟩,
        ⟨some 23, .bin .lss, [.tmp 20 false, .tmp 22 false], none⟩] none [20, 22])
      (.cond (.tmp 23 true) []
        .skip [1, 7]
        (.exit 2)))
    (.seq
      (.block 3
        (.region [
          ⟨some 26, .move, [.tmp 5 true], none⟩,
          ⟨some 27, .move, [.tmp 1 false], none⟩,
          ⟨some 28, .move, [.tmp 7 false], none⟩,
          ⟨some 29, .indexAddr 1, [.tmp 27 true, .tmp 28 false], none⟩,
          ⟨some 30, .load false 1 false, [.tmp 29 true], none⟩,
          ⟨some 31, .call 28, [.tmp 26 true, .tmp 30 false], none⟩,
          ⟨some 5, .move, [.tmp 31 true], none⟩] none [28, 30]))
      (.region [
        ⟨some 24, .move, [.tmp 7 false], none⟩,
        ⟨some 25, .bin .add, [.tmp 24 false, .const (.int .i64 1)], none⟩,
        ⟨some 7, .move, [.tmp 25 false], none⟩] none [24, 25])))
def s18 : SFunc := { fid := 18, mode := .pure, nparams := 2, nboxes := 0, clr := [], results := [.tmp 4 true], body :=
  (.seq
    (.region [
      ⟨some 4, .move, [.const (.nilSl)], none⟩] none [4])
    (.seq
      (.region [
        ⟨some 5, .move, [.const (.nilSl)], none⟩] none [])
      (.seq
        (.seq
          (.region [
            ⟨some 6, .move, [.const (.int .i64 0)], none⟩] none [])
          (.block 0
            (.loop s18_l0)))
        (.seq
          (.seq
            (.region [
              ⟨some 7, .move, [.const (.int .i64 0)], none⟩] none [])
            (.block 2
              (.loop s18_l1)))
          (.seq
            (.region [
              ⟨some 32, .move, [.tmp 5 true], none⟩,
              ⟨some 4, .move, [.tmp 32 true], none⟩] none [])
            .ret))))) }

/-- runrig/runrigref19.All -/

def s19 : SFunc := { fid := 19, mode := .pure, nparams := 2, nboxes := 0, clr := [], results := [.tmp 4 false], body :=
  (.seq
    (.region [
      ⟨some 4, .move, [.const (.bool false)], none⟩] none [4])
    (.seq
      (.region [
        ⟨some 5, .move, [.tmp 0 true], none⟩,
        ⟨some 6, .move, [.tmp 1 true], none⟩,
        ⟨some 7, .call 27, [.tmp 5 true, .tmp 6 true], none⟩,
        ⟨some 4, .move, [.tmp 7 false], none⟩] none [7])
      .ret)) }

/-- slices.Clone[[]int,int] -/

def s20 : SFunc := { fid := 20, mode := .pure, nparams := 1, nboxes := 0, clr := [], results := [.tmp 2 true], body :=
  (.seq
    (.region [
      ⟨some 2, .move, [.const (.nilSl)], none⟩] none [2])
    (.seq
      (.seq
        (.region [
          ⟨some 3, .move, [.tmp 0 false], none⟩,
          ⟨some 4, .eqv (.sl) false, [.tmp 3 true, .const (.nilSl)], none⟩] none [])
        (.cond (.tmp 4 true) [0]
          (.seq
            (.region [
              ⟨some 2, .move, [.const (.nilSl)], none⟩] none [])
            .ret) []
          .skip))
      (.seq
        (.region [
          ⟨some 5, .lit 1 0 [.int .i64 0] [], [], none⟩,
          ⟨some 6, .move, [.tmp 0 true], none⟩,
          ⟨some 7, .append 1 8, [.tmp 5 true, .tmp 6 true], none⟩,
          ⟨some 2, .move, [.tmp 7 true], none⟩] none [])
        .ret))) }

/-- runrig/reach.isClass -/

def s21 : SFunc := { fid := 21, mode := .pure, nparams := 2, nboxes := 0, clr := [], results := [.tmp 4 false], body :=
  (.seq
    (.region [
      ⟨some 4, .move, [.const (.bool false)], none⟩] none [4])
    (.seq
      (.region [
        ⟨some 5, .move, [.tmp 1 false], none⟩,
        ⟨some 6, .bin .geq, [.tmp 5 false, .const (.int .i64 0)], none⟩,
        ⟨some 7, .move, [.tmp 6 false], none⟩,
        ⟨some 8, .move, [.tmp 1 false], some (7, true)⟩,
        ⟨some 9, .move, [.tmp 0 true], some (7, true)⟩,
        ⟨some 10, .len .sl, [.tmp 9 true], some (7, true)⟩,
        ⟨some 11, .bin .lss, [.tmp 8 false, .tmp 10 false], some (7, true)⟩,
        ⟨some 12, .pick, [.tmp 7 false, .tmp 11 false, .const (.bool false)], none⟩,
        ⟨some 4, .move, [.tmp 12 false], none⟩] none [0, 1, 5, 6, 7, 8, 9, 10, 11, 12])
      .ret)) }

/-- runrig/runrigref19.below -/

def s22 : SFunc := { fid := 22, mode := .pure, nparams := 2, nboxes := 0, clr := [], results := [.tmp 4 false], body :=
  (.seq
    (.region [
      ⟨some 4, .move, [.const (.bool false)], none⟩] none [4])
    (.seq
      (.region [
        ⟨some 5, .move, [.tmp 0 false], none⟩,
        ⟨some 6, .bin .geq, [.tmp 5 false, .const (.int .i64 0)], none⟩,
        ⟨some 7, .move, [.tmp 6 false], none⟩,
        ⟨some 8, .move, [.tmp 0 false], some (7, true)⟩,
        ⟨some 9, .move, [.tmp 1 false], some (7, true)⟩,
        ⟨some 10, .bin .lss, [.tmp 8 false, .tmp 9 false], some (7, true)⟩,
        ⟨some 11, .pick, [.tmp 7 false, .tmp 10 false, .const (.bool false)], none⟩,
        ⟨some 4, .move, [.tmp 11 false], none⟩] none [0, 1, 5, 6, 7, 8, 9, 10, 11])
      .ret)) }

/-- runrig/runrigref19.list -/
def s23_l0 : SCode :=
  (.seq
    (.seq
      (.region [
        ⟨some 5, .move, [.tmp 4 false], none⟩,
        ⟨some 6, .move, [.tmp 0 false], none⟩,
        ⟨some 7, .len .sl, [.tmp 6 true], none⟩,
        ⟨some 8, .bin .lss, [.tmp 5 false, .tmp 7 false], none⟩] none [5, 7])
      (.cond (.tmp 8 true) []
        .skip [0, 4]
        (.exit 0)))
    (.seq
      (.block 1
        (.seq
          (.region [
            ⟨some 11, .move, [.tmp 0 false], none⟩,
            ⟨some 12, .move, [.tmp 4 false], none⟩,
            ⟨some 13, .indexAddr 1, [.tmp 11 true, .tmp 12 false], none⟩,
            ⟨some 14, .load false 1 false, [.tmp 13 true], none⟩] none [12])
          (.cond (.tmp 14 true) []
            (.region [
              ⟨some 15, .move, [.tmp 3 true], none⟩,
              ⟨some 16, .move, [.tmp 4 false], none⟩,
              ⟨some 17, .lit 1 1 [.int .i64 0] [0], [.tmp 16 false], none⟩,
              ⟨some 18, .append 1 8, [.tmp 15 true, .tmp 17 true], none⟩,
              ⟨some 3, .move, [.tmp 18 true], none⟩] none [16]) []
            .skip)))
      (.region [
        ⟨some 9, .move, [.tmp 4 false], none⟩,
        ⟨some 10, .bin .add, [.tmp 9 false, .const (.int .i64 1)], none⟩,
        ⟨some 4, .move, [.tmp 10 false], none⟩] none [9, 10])))
def s23 : SFunc := { fid := 23, mode := .pure, nparams := 1, nboxes := 0, clr := [], results := [.tmp 2 true], body :=
  (.seq
    (.region [
      ⟨some 2, .move, [.const (.nilSl)], none⟩] none [2])
    (.seq
      (.region [
        ⟨some 3, .move, [.const (.nilSl)], none⟩] none [])
      (.seq
        (.seq
          (.region [
            ⟨some 4, .move, [.const (.int .i64 0)], none⟩] none [])
          (.block 0
            (.loop s23_l0)))
        (.seq
          (.region [
            ⟨some 19, .move, [.tmp 3 true], none⟩,
            ⟨some 2, .move, [.tmp 19 true], none⟩] none [])
          .ret)))) }

/-- slices.ContainsFunc[[]int,int] -/

def s24 : SFunc := { fid := 24, mode := .scp, nparams := 2, nboxes := 0, clr := [], results := [.tmp 4 false], body :=
  (.seq
    (.region [
      ⟨some 4, .move, [.const (.bool false)], none⟩] none [4])
    (.seq
      (.region [
        ⟨some 5, .move, [.tmp 0 true], none⟩,
        ⟨some 6, .move, [.tmp 1 false], none⟩,
        ⟨some 7, .call 29, [.tmp 5 true, .tmp 6 false], none⟩,
        ⟨some 8, .bin .geq, [.tmp 7 false, .const (.int .i64 0)], none⟩,
        ⟨some 4, .move, [.tmp 8 false], none⟩] none [1, 6, 7, 8])
      .ret)) }

/-- runrig/reach.Closed$1 -/

def s25 : SFunc := { fid := 25, mode := .scp, nparams := 2, nboxes := 0, clr := [], results := [.tmp 3 false], body :=
  (.seq
    (.region [
      ⟨some 3, .move, [.const (.bool false)], none⟩] none [3])
    (.seq
      (.region [
        ⟨some 4, .load false 1 false, [.tmp 1 true], none⟩,
        ⟨some 5, .move, [.tmp 0 false], none⟩,
        ⟨some 6, .call 26, [.tmp 4 true, .tmp 5 false], none⟩,
        ⟨some 7, .un .not, [.tmp 6 false], none⟩,
        ⟨some 3, .move, [.tmp 7 false], none⟩] none [0, 5, 6, 7])
      .ret)) }

/-- slices.Contains[[]int,int] -/

def s26 : SFunc := { fid := 26, mode := .pure, nparams := 2, nboxes := 0, clr := [], results := [.tmp 4 false], body :=
  (.seq
    (.region [
      ⟨some 4, .move, [.const (.bool false)], none⟩] none [4])
    (.seq
      (.region [
        ⟨some 5, .move, [.tmp 0 true], none⟩,
        ⟨some 6, .move, [.tmp 1 false], none⟩,
        ⟨some 7, .call 30, [.tmp 5 true, .tmp 6 false], none⟩,
        ⟨some 8, .bin .geq, [.tmp 7 false, .const (.int .i64 0)], none⟩,
        ⟨some 4, .move, [.tmp 8 false], none⟩] none [1, 6, 7, 8])
      .ret)) }

/-- runrig/runrigref19.all -/
def s27_l0 : SCode :=
  (.seq
    (.seq
      (.region [
        ⟨some 6, .move, [.tmp 5 false], none⟩,
        ⟨some 7, .move, [.tmp 0 false], none⟩,
        ⟨some 8, .len .sl, [.tmp 7 true], none⟩,
        ⟨some 9, .bin .lss, [.tmp 6 false, .tmp 8 false], none⟩] none [6, 8])
      (.cond (.tmp 9 true) []
        .skip [0, 1, 5]
        (.exit 0)))
    (.seq
      (.block 1
        (.seq
          (.region [
            ⟨some 12, .move, [.tmp 1 false], none⟩,
            ⟨some 13, .move, [.tmp 0 false], none⟩,
            ⟨some 14, .move, [.tmp 5 false], none⟩,
            ⟨some 15, .indexAddr 1, [.tmp 13 true, .tmp 14 false], none⟩,
            ⟨some 16, .load false 1 false, [.tmp 15 true], none⟩,
            ⟨some 17, .call 17, [.tmp 12 true, .tmp 16 false], none⟩,
            ⟨some 18, .un .not, [.tmp 17 false], none⟩] none [14, 16, 17])
          (.cond (.tmp 18 true) [0, 1, 5]
            (.seq
              (.region [
                ⟨some 4, .move, [.const (.bool false)], none⟩] none [])
              .ret) []
            .skip)))
      (.region [
        ⟨some 10, .move, [.tmp 5 false], none⟩,
        ⟨some 11, .bin .add, [.tmp 10 false, .const (.int .i64 1)], none⟩,
        ⟨some 5, .move, [.tmp 11 false], none⟩] none [10, 11])))
def s27 : SFunc := { fid := 27, mode := .pure, nparams := 2, nboxes := 0, clr := [], results := [.tmp 4 false], body :=
  (.seq
    (.region [
      ⟨some 4, .move, [.const (.bool false)], none⟩] none [4])
    (.seq
      (.seq
        (.region [
          ⟨some 5, .move, [.const (.int .i64 0)], none⟩] none [])
        (.block 0
          (.loop s27_l0)))
      (.seq
        (.region [
          ⟨some 4, .move, [.const (.bool true)], none⟩] none [])
        .ret))) }

/-- runrig/runrigref15.Put -/

def s28 : SFunc := { fid := 28, mode := .pure, nparams := 2, nboxes := 0, clr := [], results := [.tmp 4 true], body :=
  (.seq
    (.region [
      ⟨some 4, .move, [.const (.nilSl)], none⟩] none [4])
    (.seq
      (.region [
        ⟨some 5, .move, [.tmp 0 true], none⟩,
        ⟨some 6, .move, [.tmp 1 false], none⟩,
        ⟨some 7, .call 31, [.tmp 5 true, .tmp 6 false], none⟩,
        ⟨some 4, .move, [.tmp 7 true], none⟩] none [1, 6])
      .ret)) }

/-- slices.IndexFunc[[]int,int] -/
def s29_l0 : SCode :=
  (.seq
    (.region [
      ⟨some 9, .bin .lss, [.tmp 8 false, .tmp 7 false], none⟩] none [])
    (.seq
      (.cond (.tmp 9 true) []
        .skip [0, 1, 7, 8]
        (.exit 0))
      (.seq
        (.block 1
          (.seq
            (.region [
              ⟨some 10, .move, [.tmp 8 false], none⟩,
              ⟨some 5, .move, [.tmp 10 false], none⟩] none [10])
            (.seq
              (.region [
                ⟨some 11, .move, [.tmp 1 false], none⟩,
                ⟨some 12, .move, [.tmp 0 false], none⟩,
                ⟨some 13, .move, [.tmp 5 false], none⟩,
                ⟨some 14, .indexAddr 1, [.tmp 12 true, .tmp 13 false], none⟩,
                ⟨some 15, .load false 1 false, [.tmp 14 true], none⟩,
                ⟨some 16, .callV, [.tmp 11 false, .tmp 15 false], none⟩] none [11, 13, 15])
              (.cond (.tmp 16 true) [0, 1, 7, 8]
                (.seq
                  (.region [
                    ⟨some 17, .move, [.tmp 5 false], none⟩,
                    ⟨some 4, .move, [.tmp 17 false], none⟩] none [5, 17])
                  .ret) [5]
                .skip))))
        (.region [
          ⟨some 18, .bin .add, [.tmp 8 false, .const (.int .i64 1)], none⟩,
          ⟨some 8, .move, [.tmp 18 false], none⟩] none [18]))))
def s29 : SFunc := { fid := 29, mode := .scp, nparams := 2, nboxes := 0, clr := [], results := [.tmp 4 false], body :=
  (.seq
    (.region [
      ⟨some 4, .move, [.const (.int .i64 0)], none⟩] none [4])
    (.seq
      (.seq
        (.region [
          ⟨some 6, .move, [.tmp 0 false], none⟩,
          ⟨some 7, .len .sl, [.tmp 6 true], none⟩,
          ⟨some 8, .move, [.const (.int .i64 0)], none⟩] none [])
        (.block 0
          (.loop s29_l0)))
      (.seq
        (.region [
          ⟨some 4, .move, [.const (.int .i64 (-1))], none⟩] none [])
        .ret))) }

/-- slices.Index[[]int,int] -/
def s30_l0 : SCode :=
  (.seq
    (.region [
      ⟨some 9, .bin .lss, [.tmp 8 false, .tmp 7 false], none⟩] none [])
    (.seq
      (.cond (.tmp 9 true) []
        .skip [0, 1, 7, 8]
        (.exit 0))
      (.seq
        (.block 1
          (.seq
            (.region [
              ⟨some 10, .move, [.tmp 8 false], none⟩,
              ⟨some 5, .move, [.tmp 10 false], none⟩] none [10])
            (.seq
              (.region [
                ⟨some 11, .move, [.tmp 1 false], none⟩,
                ⟨some 12, .move, [.tmp 0 false], none⟩,
                ⟨some 13, .move, [.tmp 5 false], none⟩,
                ⟨some 14, .indexAddr 1, [.tmp 12 true, .tmp 13 false], none⟩,
                ⟨some 15, .load false 1 false, [.tmp 14 true], none⟩,
                ⟨some 16, .bin .eql, [.tmp 11 false, .tmp 15 false], none⟩] none [11, 13, 15])
              (.cond (.tmp 16 true) [0, 1, 7, 8]
                (.seq
                  (.region [
                    ⟨some 17, .move, [.tmp 5 false], none⟩,
                    ⟨some 4, .move, [.tmp 17 false], none⟩] none [5, 17])
                  .ret) [5]
                .skip))))
        (.region [
          ⟨some 18, .bin .add, [.tmp 8 false, .const (.int .i64 1)], none⟩,
          ⟨some 8, .move, [.tmp 18 false], none⟩] none [18]))))
def s30 : SFunc := { fid := 30, mode := .pure, nparams := 2, nboxes := 0, clr := [], results := [.tmp 4 false], body :=
  (.seq
    (.region [
      ⟨some 4, .move, [.const (.int .i64 0)], none⟩] none [4])
    (.seq
      (.seq
        (.region [
          ⟨some 6, .move, [.tmp 0 false], none⟩,
          ⟨some 7, .len .sl, [.tmp 6 true], none⟩,
          ⟨some 8, .move, [.const (.int .i64 0)], none⟩] none [])
        (.block 0
          (.loop s30_l0)))
      (.seq
        (.region [
          ⟨some 4, .move, [.const (.int .i64 (-1))], none⟩] none [])
        .ret))) }

/-- runrig/runrigref15.put -/
def s31_l0 : SCode :=
  (.seq
    (.seq
      (.region [
        ⟨some 6, .move, [.tmp 5 false], none⟩,
        ⟨some 7, .move, [.tmp 0 false], none⟩,
        ⟨some 8, .len .sl, [.tmp 7 true], none⟩,
        ⟨some 9, .bin .lss, [.tmp 6 false, .tmp 8 false], none⟩,
        ⟨some 10, .move, [.tmp 9 false], none⟩,
        ⟨some 11, .move, [.tmp 0 false], some (10, true)⟩,
        ⟨some 12, .move, [.tmp 5 false], some (10, true)⟩,
        ⟨some 13, .indexAddr 1, [.tmp 11 true, .tmp 12 false], some (10, true)⟩,
        ⟨some 14, .load false 1 false, [.tmp 13 true], some (10, true)⟩,
        ⟨some 15, .move, [.tmp 1 false], some (10, true)⟩,
        ⟨some 16, .bin .lss, [.tmp 14 false, .tmp 15 false], some (10, true)⟩,
        ⟨some 17, .pick, [.tmp 10 false, .tmp 16 false, .const (.bool false)], none⟩] none [6, 8, 9, 10, 11, 12, 13, 14, 15, 16])
      (.cond (.tmp 17 true) []
        .skip []
        (.exit 0)))
    (.block 1
      (.region [
        ⟨some 18, .move, [.tmp 5 false], none⟩,
        ⟨some 19, .bin .add, [.tmp 18 false, .const (.int .i64 1)], none⟩,
        ⟨some 5, .move, [.tmp 19 false], none⟩] none [18, 19])))
def s31 : SFunc := { fid := 31, mode := .pure, nparams := 2, nboxes := 0, clr := [], results := [.tmp 4 true], body :=
  (.seq
    (.region [
      ⟨some 4, .move, [.const (.nilSl)], none⟩] none [4])
    (.seq
      (.region [
        ⟨some 5, .move, [.const (.int .i64 0)], none⟩] none [])
      (.seq
        (.block 0
          (.loop s31_l0))
        (.seq
          (.seq
            (.region [
              ⟨some 20, .move, [.tmp 5 false], none⟩,
              ⟨some 21, .move, [.tmp 0 false], none⟩,
              ⟨some 22, .len .sl, [.tmp 21 true], none⟩,
              ⟨some 23, .bin .lss, [.tmp 20 false, .tmp 22 false], none⟩,
              ⟨some 24, .move, [.tmp 23 false], none⟩,
              ⟨some 25, .move, [.tmp 0 false], some (24, true)⟩,
              ⟨some 26, .move, [.tmp 5 false], some (24, true)⟩,
              ⟨some 27, .indexAddr 1, [.tmp 25 true, .tmp 26 false], some (24, true)⟩,
              ⟨some 28, .load false 1 false, [.tmp 27 true], some (24, true)⟩,
              ⟨some 29, .move, [.tmp 1 false], some (24, true)⟩,
              ⟨some 30, .bin .eql, [.tmp 28 false, .tmp 29 false], some (24, true)⟩,
              ⟨some 31, .pick, [.tmp 24 false, .tmp 30 false, .const (.bool false)], none⟩] none [20, 22, 23, 24, 25, 26, 27, 28, 29, 30])
            (.cond (.tmp 31 true) [1, 5]
              (.seq
                (.region [
                  ⟨some 32, .move, [.tmp 0 true], none⟩,
                  ⟨some 4, .move, [.tmp 32 true], none⟩] none [])
                .ret) []
              .skip))
          (.seq
            (.region [
              ⟨some 33, .move, [.tmp 0 false], none⟩,
              ⟨some 34, .move, [.tmp 5 false], none⟩,
              ⟨some 35, .slice false false true false 1, [.tmp 33 true, .tmp 34 false], none⟩,
              ⟨some 36, .append 1 8, [.const (.nilSl), .tmp 35 true], none⟩,
              ⟨some 37, .move, [.tmp 1 false], none⟩,
              ⟨some 38, .lit 1 1 [.int .i64 0] [0], [.tmp 37 false], none⟩,
              ⟨some 39, .append 1 8, [.tmp 36 true, .tmp 38 true], none⟩,
              ⟨some 40, .move, [.tmp 0 false], none⟩,
              ⟨some 41, .move, [.tmp 5 false], none⟩,
              ⟨some 42, .slice false true false false 1, [.tmp 40 true, .tmp 41 false], none⟩,
              ⟨some 43, .append 1 8, [.tmp 39 true, .tmp 42 true], none⟩,
              ⟨some 4, .move, [.tmp 43 true], none⟩] (some []) [0, 1, 5, 34, 37, 41])
            .ret))))) }

/-- slices.Clone[[]int,int]@m -/

def s100000 : SFunc := { fid := 20, mode := .opn, nparams := 1, nboxes := 0, clr := [], results := [.tmp 2 true], body :=
  (.seq
    (.region [
      ⟨some 2, .move, [.const (.nilSl)], none⟩] none [2])
    (.seq
      (.seq
        (.region [
          ⟨some 3, .move, [.tmp 0 false], none⟩,
          ⟨some 4, .eqv (.sl) false, [.tmp 3 true, .const (.nilSl)], none⟩] none [])
        (.cond (.tmp 4 true) [0]
          (.seq
            (.region [
              ⟨some 2, .move, [.const (.nilSl)], none⟩] none [])
            .ret) []
          .skip))
      (.seq
        (.region [
          ⟨some 5, .lit 1 0 [.int .i64 0] [], [], none⟩,
          ⟨some 6, .move, [.tmp 0 true], none⟩,
          ⟨some 7, .appendM 1 8, [.tmp 5 true, .tmp 6 true], none⟩,
          ⟨some 2, .move, [.tmp 7 true], none⟩] none [])
        .ret))) }

def tbl : List (Option SFunc) := [none, none, none, some s3, some s4, some s5, some s6, some s7, some s8, some s9, some s10, some s11, some s12, some s13, some s14, some s15, some s16, some s17, some s18, some s19, some s20, some s21, some s22, some s23, some s24, some s25, some s26, some s27, some s28, some s29, some s30, some s31, none, none, none, none, none, none, none, none, none, none, none, none, none, none, none, none]
def vtbl : List (Option SFunc) := [some s100000]
def S : Nat → Option SFunc := tabS tbl vtbl
end Code22
