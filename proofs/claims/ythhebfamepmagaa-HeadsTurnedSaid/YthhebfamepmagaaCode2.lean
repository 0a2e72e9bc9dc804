/- The annotated code of the loaded program, printed by wip/tools/gen.py. -/
import Derived.Test.YthhebfamepmagaaCode1

set_option maxRecDepth 100000
namespace Code7
open Ax Go

/-- runrig/runrigref2.one -/

def s41 : SFunc := { fid := 41, mode := .pure, nparams := 2, nboxes := 1, clr := [], results := [.box 4 0 4 true, .tmp 5 false], body :=
  (.seq
    (.region [
      ⟨some 4, .allocF 0 [.int .i64 0, .str [], .int .i64 0, .int .i64 0], [], none⟩,
      ⟨some 5, .move, [.const (.int .i64 0)], none⟩] none [5])
    (.seq
      (.block 0
        (.seq
          (.region [
            ⟨some 13, .move, [.tmp 0 false], none⟩,
            ⟨some 14, .move, [.tmp 1 false], none⟩,
            ⟨some 15, .index, [.tmp 13 true, .tmp 14 true], none⟩,
            ⟨some 16, .call 47, [.tmp 15 true], none⟩,
            ⟨some 12, .move, [.tmp 16 true], none⟩] none [])
          (.cond (.tmp 12 true) []
            (.seq
              (.region [
                ⟨some 17, .move, [.tmp 0 false], none⟩,
                ⟨some 18, .move, [.tmp 1 false], none⟩,
                ⟨some 19, .call 48, [.tmp 17 true, .tmp 18 true, .const (.bool false)], none⟩,
                ⟨some 6, .move, [.tmp 19 true], none⟩] none [])
              (.seq
                (.region [
                  ⟨some 20, .move, [.tmp 0 true], none⟩,
                  ⟨some 21, .move, [.tmp 1 false], none⟩,
                  ⟨some 22, .move, [.tmp 1 false], none⟩,
                  ⟨some 23, .move, [.tmp 6 false], none⟩,
                  ⟨some 24, .bin .add, [.tmp 22 true, .tmp 23 true], none⟩,
                  ⟨some 25, .slice true true true false 0, [.tmp 20 true, .tmp 21 true, .tmp 24 true], none⟩,
                  ⟨some 7, .move, [.tmp 25 true], none⟩] none [])
                (.seq
                  (.seq
                    (.region [
                      ⟨some 26, .move, [.tmp 7 false], none⟩,
                      ⟨some 27, .call 49, [.tmp 26 true], none⟩] none [])
                    (.cond (.tmp 27 true) []
                      (.seq
                        (.region [
                          ⟨some 28, .move, [.tmp 7 true], none⟩,
                          ⟨some 29, .move, [.tmp 1 true], none⟩,
                          ⟨some 30, .build [.int .i64 0, .str [], .int .i64 0, .int .i64 0] [(0, 1), (1, 1), (3, 1)], [.const (.int .i64 3), .tmp 28 true, .tmp 29 true], none⟩,
                          ⟨some 31, .move, [.tmp 6 true], none⟩,
                          ⟨none, .storeF 0 4, [.tmp 4 false, .tmp 30 true], none⟩,
                          ⟨some 5, .move, [.tmp 31 true], none⟩] none [])
                        .ret) []
                      .skip))
                  (.seq
                    (.seq
                      (.region [
                        ⟨some 32, .move, [.tmp 7 false], none⟩,
                        ⟨some 33, .call 50, [.tmp 32 true], none⟩] none [])
                      (.cond (.tmp 33 true) []
                        (.seq
                          (.region [
                            ⟨some 34, .move, [.tmp 7 true], none⟩,
                            ⟨some 35, .move, [.tmp 1 true], none⟩,
                            ⟨some 36, .build [.int .i64 0, .str [], .int .i64 0, .int .i64 0] [(0, 1), (1, 1), (3, 1)], [.const (.int .i64 1), .tmp 34 true, .tmp 35 true], none⟩,
                            ⟨some 37, .move, [.tmp 6 true], none⟩,
                            ⟨none, .storeF 0 4, [.tmp 4 false, .tmp 36 true], none⟩,
                            ⟨some 5, .move, [.tmp 37 true], none⟩] none [])
                          .ret) [1, 6, 7]
                        .skip))
                    (.seq
                      (.region [
                        ⟨some 38, .build [.int .i64 0, .str [], .int .i64 0, .int .i64 0] [], [], none⟩,
                        ⟨none, .storeF 0 4, [.tmp 4 false, .tmp 38 true], none⟩,
                        ⟨some 5, .move, [.const (.int .i64 0)], none⟩] none [])
                      .ret))))) []
            (.seq
              (.region [
                ⟨some 40, .move, [.tmp 0 false], none⟩,
                ⟨some 41, .move, [.tmp 1 false], none⟩,
                ⟨some 42, .index, [.tmp 40 true, .tmp 41 true], none⟩,
                ⟨some 43, .call 51, [.tmp 42 true], none⟩,
                ⟨some 39, .move, [.tmp 43 true], none⟩] none [])
              (.cond (.tmp 39 true) []
                (.seq
                  (.region [
                    ⟨some 44, .move, [.tmp 0 false], none⟩,
                    ⟨some 45, .move, [.tmp 1 false], none⟩,
                    ⟨some 46, .call 48, [.tmp 44 true, .tmp 45 true, .const (.bool true)], none⟩,
                    ⟨some 8, .move, [.tmp 46 true], none⟩] none [])
                  (.seq
                    (.region [
                      ⟨some 48, .move, [.tmp 0 false], none⟩,
                      ⟨some 49, .move, [.tmp 1 false], none⟩,
                      ⟨some 50, .move, [.tmp 1 false], none⟩,
                      ⟨some 51, .move, [.tmp 8 false], none⟩,
                      ⟨some 52, .bin .add, [.tmp 50 true, .tmp 51 true], none⟩,
                      ⟨some 53, .slice true true true false 0, [.tmp 48 true, .tmp 49 true, .tmp 52 true], none⟩,
                      ⟨some 54, .call 52, [.tmp 53 true], none⟩,
                      ⟨some 47, .move, [.tmp 54 true], none⟩,
                      ⟨some 55, .extract 0, [.tmp 47 false], none⟩,
                      ⟨some 56, .extract 1, [.tmp 47 true], none⟩,
                      ⟨some 9, .move, [.tmp 55 true], none⟩,
                      ⟨some 10, .move, [.tmp 56 true], none⟩] none [])
                    (.seq
                      (.seq
                        (.region [
                          ⟨some 57, .move, [.tmp 10 true], none⟩,
                          ⟨some 58, .un .not, [.tmp 57 true], none⟩,
                          ⟨some 59, .move, [.tmp 58 true], none⟩,
                          ⟨some 60, .move, [.tmp 8 false], some (59, false)⟩,
                          ⟨some 61, .bin .gtr, [.tmp 60 true, .const (.int .i64 1)], some (59, false)⟩,
                          ⟨some 62, .move, [.tmp 61 true], some (59, false)⟩,
                          ⟨some 63, .move, [.tmp 0 false], some (62, true)⟩,
                          ⟨some 64, .move, [.tmp 1 false], some (62, true)⟩,
                          ⟨some 65, .index, [.tmp 63 true, .tmp 64 true], some (62, true)⟩,
                          ⟨some 66, .bin .eql, [.tmp 65 true, .const (.int .u8 48)], some (62, true)⟩,
                          ⟨some 67, .pick, [.tmp 62 true, .tmp 66 true, .const (.bool false)], some (59, false)⟩,
                          ⟨some 68, .pick, [.tmp 59 true, .const (.bool true), .tmp 67 true], none⟩,
                          ⟨some 69, .move, [.tmp 68 true], none⟩,
                          ⟨some 70, .move, [.tmp 1 false], some (69, false)⟩,
                          ⟨some 71, .move, [.tmp 8 false], some (69, false)⟩,
                          ⟨some 72, .bin .add, [.tmp 70 true, .tmp 71 true], some (69, false)⟩,
                          ⟨some 73, .move, [.tmp 0 false], some (69, false)⟩,
                          ⟨some 74, .len .str, [.tmp 73 true], some (69, false)⟩,
                          ⟨some 75, .bin .lss, [.tmp 72 true, .tmp 74 true], some (69, false)⟩,
                          ⟨some 76, .move, [.tmp 75 true], some (69, false)⟩,
                          ⟨some 77, .move, [.tmp 0 true], some (76, true)⟩,
                          ⟨some 78, .move, [.tmp 1 false], some (76, true)⟩,
                          ⟨some 79, .move, [.tmp 8 false], some (76, true)⟩,
                          ⟨some 80, .bin .add, [.tmp 78 true, .tmp 79 true], some (76, true)⟩,
                          ⟨some 81, .index, [.tmp 77 true, .tmp 80 true], some (76, true)⟩,
                          ⟨some 82, .call 47, [.tmp 81 true], some (76, true)⟩,
                          ⟨some 83, .pick, [.tmp 76 true, .tmp 82 true, .const (.bool false)], some (69, false)⟩,
                          ⟨some 84, .pick, [.tmp 69 true, .const (.bool true), .tmp 83 true], none⟩] none [0, 60, 61, 62, 63, 64, 65, 66, 70, 71, 72, 73, 74, 75, 76, 77, 78, 79, 80, 81, 82])
                        (.cond (.tmp 84 true) [1, 8, 9]
                          (.seq
                            (.region [
                              ⟨some 85, .build [.int .i64 0, .str [], .int .i64 0, .int .i64 0] [], [], none⟩,
                              ⟨none, .storeF 0 4, [.tmp 4 false, .tmp 85 true], none⟩,
                              ⟨some 5, .move, [.const (.int .i64 0)], none⟩] none [])
                            .ret) []
                          .skip))
                      (.seq
                        (.region [
                          ⟨some 86, .move, [.tmp 9 true], none⟩,
                          ⟨some 87, .move, [.tmp 1 true], none⟩,
                          ⟨some 88, .build [.int .i64 0, .str [], .int .i64 0, .int .i64 0] [(0, 1), (2, 1), (3, 1)], [.const (.int .i64 2), .tmp 86 true, .tmp 87 true], none⟩,
                          ⟨some 89, .move, [.tmp 8 true], none⟩,
                          ⟨none, .storeF 0 4, [.tmp 4 false, .tmp 88 true], none⟩,
                          ⟨some 5, .move, [.tmp 89 true], none⟩] none [])
                        .ret)))) []
                .skip)))))
      (.seq
        (.region [
          ⟨some 90, .move, [.tmp 0 true], none⟩,
          ⟨some 91, .move, [.tmp 1 false], none⟩,
          ⟨some 92, .call 53, [.tmp 90 true, .tmp 91 true], none⟩,
          ⟨some 11, .move, [.tmp 92 true], none⟩] none [])
        (.seq
          (.seq
            (.region [
              ⟨some 93, .move, [.tmp 11 false], none⟩,
              ⟨some 94, .bin .eql, [.tmp 93 true, .const (.str [])], none⟩] none [])
            (.cond (.tmp 94 true) [1, 11]
              (.seq
                (.region [
                  ⟨some 95, .build [.int .i64 0, .str [], .int .i64 0, .int .i64 0] [], [], none⟩,
                  ⟨none, .storeF 0 4, [.tmp 4 false, .tmp 95 true], none⟩,
                  ⟨some 5, .move, [.const (.int .i64 0)], none⟩] none [])
                .ret) []
              .skip))
          (.seq
            (.region [
              ⟨some 96, .move, [.tmp 11 false], none⟩,
              ⟨some 97, .move, [.tmp 1 true], none⟩,
              ⟨some 98, .build [.int .i64 0, .str [], .int .i64 0, .int .i64 0] [(0, 1), (1, 1), (3, 1)], [.const (.int .i64 4), .tmp 96 true, .tmp 97 true], none⟩,
              ⟨some 99, .move, [.tmp 11 true], none⟩,
              ⟨some 100, .len .str, [.tmp 99 true], none⟩,
              ⟨none, .storeF 0 4, [.tmp 4 false, .tmp 98 true], none⟩,
              ⟨some 5, .move, [.tmp 100 true], none⟩] none [])
            .ret))))) }

/-- (*runrig/runrigref3.reader).name -/

def s42 : SFunc := { fid := 42, mode := .scp, nparams := 1, nboxes := 1, clr := [], results := [.tmp 2 false], body :=
  (.seq
    (.region [
      ⟨some 2, .move, [.const (.str [])], none⟩] none [2])
    (.seq
      (.region [
        ⟨some 4, .move, [.tmp 0 false], none⟩,
        ⟨some 5, .call 22, [.tmp 4 true], none⟩,
        ⟨some 3, .allocF 0 [.int .i64 0, .str [], .int .i64 0, .int .i64 0], [], none⟩,
        ⟨none, .storeF 0 4, [.tmp 3 false, .tmp 5 true], none⟩] none [])
      (.seq
        (.seq
          (.region [
            ⟨some 6, .move, [.tmp 0 false], none⟩,
            ⟨some 7, .call 21, [.tmp 6 true], none⟩,
            ⟨some 8, .move, [.tmp 7 true], none⟩,
            ⟨some 9, .fieldAddr 0, [.tmp 3 false], some (8, true)⟩,
            ⟨some 10, .loadF 0 false 1 false, [.tmp 9 true], some (8, true)⟩,
            ⟨some 11, .bin .eql, [.tmp 10 true, .const (.int .i64 1)], some (8, true)⟩,
            ⟨some 12, .pick, [.tmp 8 true, .tmp 11 true, .const (.bool false)], none⟩] none [9, 10])
          (.cond (.tmp 12 true) []
            (.seq
              (.region [
                ⟨some 13, .move, [.tmp 0 true], none⟩,
                ⟨some 14, .nilCheck, [.tmp 13 false], none⟩,
                ⟨some 15, .fieldAddr 1, [.tmp 14 true], none⟩,
                ⟨some 16, .load false 1 false, [.tmp 15 true], none⟩,
                ⟨some 17, .bin .add, [.tmp 16 true, .const (.int .i64 1)], none⟩,
                ⟨some 18, .nilCheck, [.tmp 13 true], none⟩,
                ⟨some 19, .fieldAddr 1, [.tmp 18 true], none⟩,
                ⟨none, .store 1, [.tmp 19 true, .tmp 17 true], none⟩] none [])
              (.seq
                (.region [
                  ⟨some 20, .fieldAddr 1, [.tmp 3 true], none⟩,
                  ⟨some 21, .loadF 0 false 1 false, [.tmp 20 true], none⟩,
                  ⟨some 2, .move, [.tmp 21 true], none⟩] none [])
                .ret)) [3]
            .skip))
        (.seq
          (.region [
            ⟨some 22, .move, [.tmp 0 true], none⟩,
            ⟨some 23, .call 24, [.tmp 22 true, .const (.int .i64 2)], none⟩] none [23])
          (.seq
            (.region [
              ⟨some 2, .move, [.const (.str [])], none⟩] none [])
            .ret))))) }

/-- (*runrig/runrigref3.reader).of -/
def s43_l0 : SCode :=
  (.seq
    (.seq
      (.region [
        ⟨some 6, .move, [.tmp 0 false], none⟩,
        ⟨some 7, .call 23, [.tmp 6 true, .const (.str [91])], none⟩] none [])
      (.cond (.tmp 7 true) []
        .skip []
        (.exit 0)))
    (.block 1
      (.seq
        (.seq
          (.region [
            ⟨some 8, .move, [.tmp 3 false], none⟩,
            ⟨some 9, .bin .eql, [.tmp 8 true, .const (.int .i64 3)], none⟩] none [])
          (.cond (.tmp 9 true) [3]
            (.seq
              (.region [
                ⟨some 10, .move, [.tmp 0 true], none⟩,
                ⟨some 11, .call 24, [.tmp 10 true, .const (.int .i64 4)], none⟩] none [11])
              (.seq
                (.region [
                  ⟨some 12, .build [.str [], .int .i64 0] [], [], none⟩,
                  ⟨none, .storeF 0 2, [.tmp 2 false, .tmp 12 true], none⟩] none [])
                .ret)) []
            .skip))
        (.seq
          (.region [
            ⟨some 13, .move, [.tmp 0 false], none⟩,
            ⟨some 14, .nilCheck, [.tmp 13 false], none⟩,
            ⟨some 15, .fieldAddr 1, [.tmp 14 true], none⟩,
            ⟨some 16, .load false 1 false, [.tmp 15 true], none⟩,
            ⟨some 17, .bin .add, [.tmp 16 true, .const (.int .i64 1)], none⟩,
            ⟨some 18, .nilCheck, [.tmp 13 true], none⟩,
            ⟨some 19, .fieldAddr 1, [.tmp 18 true], none⟩,
            ⟨none, .store 1, [.tmp 19 true, .tmp 17 true], none⟩] none [])
          (.region [
            ⟨some 20, .move, [.tmp 3 true], none⟩,
            ⟨some 21, .bin .add, [.tmp 20 true, .const (.int .i64 1)], none⟩,
            ⟨some 3, .move, [.tmp 21 true], none⟩] none [])))))
def s43_l1 : SCode :=
  (.seq
    (.seq
      (.region [
        ⟨some 43, .move, [.tmp 5 false], none⟩,
        ⟨some 44, .move, [.tmp 3 false], none⟩,
        ⟨some 45, .bin .lss, [.tmp 43 true, .tmp 44 true], none⟩] none [])
      (.cond (.tmp 45 true) []
        .skip [0, 3, 5]
        (.exit 3)))
    (.seq
      (.block 4
        (.region [
          ⟨some 48, .move, [.tmp 0 false], none⟩,
          ⟨some 49, .call 27, [.tmp 48 true, .const (.str [93])], none⟩] none [49]))
      (.region [
        ⟨some 46, .move, [.tmp 5 true], none⟩,
        ⟨some 47, .bin .add, [.tmp 46 true, .const (.int .i64 1)], none⟩,
        ⟨some 5, .move, [.tmp 47 true], none⟩] none [])))
def s43 : SFunc := { fid := 43, mode := .scp, nparams := 1, nboxes := 2, clr := [], results := [.box 2 0 2 true], body :=
  (.seq
    (.region [
      ⟨some 2, .allocF 0 [.str [], .int .i64 0], [], none⟩] none [])
    (.seq
      (.region [
        ⟨some 3, .move, [.const (.int .i64 0)], none⟩] none [])
      (.seq
        (.block 0
          (.loop s43_l0))
        (.seq
          (.region [
            ⟨some 22, .move, [.tmp 3 false], none⟩,
            ⟨some 23, .build [.str [], .int .i64 0] [(1, 1)], [.tmp 22 true], none⟩,
            ⟨some 4, .allocF 1 [.str [], .int .i64 0], [], none⟩,
            ⟨none, .storeF 1 2, [.tmp 4 false, .tmp 23 true], none⟩] none [])
          (.seq
            (.block 2
              (.seq
                (.seq
                  (.region [
                    ⟨some 28, .move, [.tmp 0 false], none⟩,
                    ⟨some 29, .call 23, [.tmp 28 true, .const (.str [105, 110, 116])], none⟩,
                    ⟨some 27, .move, [.tmp 29 true], none⟩] none [])
                  (.cond (.tmp 27 false) []
                    .skip [27]
                    (.region [
                      ⟨some 30, .move, [.tmp 0 false], none⟩,
                      ⟨some 31, .call 23, [.tmp 30 true, .const (.str [98, 111, 111, 108])], none⟩,
                      ⟨some 27, .move, [.tmp 31 true], none⟩] none [])))
                (.cond (.tmp 27 true) []
                  (.seq
                    (.region [
                      ⟨some 32, .move, [.tmp 0 false], none⟩,
                      ⟨some 33, .call 22, [.tmp 32 true], none⟩,
                      ⟨some 34, .field 1 1 false, [.tmp 33 true], none⟩,
                      ⟨some 35, .fieldAddr 0, [.tmp 4 false], none⟩,
                      ⟨none, .storeF 1 1, [.tmp 35 true, .tmp 34 true], none⟩] none [])
                    (.region [
                      ⟨some 36, .move, [.tmp 0 false], none⟩,
                      ⟨some 37, .nilCheck, [.tmp 36 false], none⟩,
                      ⟨some 38, .fieldAddr 1, [.tmp 37 true], none⟩,
                      ⟨some 39, .load false 1 false, [.tmp 38 true], none⟩,
                      ⟨some 40, .bin .add, [.tmp 39 true, .const (.int .i64 1)], none⟩,
                      ⟨some 41, .nilCheck, [.tmp 36 true], none⟩,
                      ⟨some 42, .fieldAddr 1, [.tmp 41 true], none⟩,
                      ⟨none, .store 1, [.tmp 42 true, .tmp 40 true], none⟩] none [])) []
                  (.region [
                    ⟨some 24, .move, [.tmp 0 false], none⟩,
                    ⟨some 25, .call 42, [.tmp 24 true], none⟩,
                    ⟨some 26, .fieldAddr 0, [.tmp 4 false], none⟩,
                    ⟨none, .storeF 1 1, [.tmp 26 true, .tmp 25 true], none⟩] none []))))
            (.seq
              (.seq
                (.region [
                  ⟨some 5, .move, [.const (.int .i64 0)], none⟩] none [])
                (.block 3
                  (.loop s43_l1)))
              (.seq
                (.region [
                  ⟨some 50, .loadF 1 true 2 false, [.tmp 4 true], none⟩,
                  ⟨none, .storeF 0 2, [.tmp 2 false, .tmp 50 true], none⟩] none [])
                .ret))))))) }

/-- (*runrig/runrigref3.reader).block -/
def s44_l0 : SCode :=
  (.seq
    (.seq
      (.region [
        ⟨some 6, .move, [.tmp 0 false], none⟩,
        ⟨some 7, .call 21, [.tmp 6 true], none⟩,
        ⟨some 8, .move, [.tmp 7 true], none⟩,
        ⟨some 9, .move, [.tmp 0 false], some (8, true)⟩,
        ⟨some 10, .call 23, [.tmp 9 true, .const (.str [125])], some (8, true)⟩,
        ⟨some 11, .un .not, [.tmp 10 true], some (8, true)⟩,
        ⟨some 12, .pick, [.tmp 8 true, .tmp 11 true, .const (.bool false)], none⟩] none [9, 10])
      (.cond (.tmp 12 true) []
        .skip []
        (.exit 0)))
    (.block 1
      (.region [
        ⟨some 13, .move, [.tmp 3 true], none⟩,
        ⟨some 14, .move, [.tmp 0 false], none⟩,
        ⟨some 15, .call 55, [.tmp 14 true], none⟩,
        ⟨some 16, .lit 9 1 [.int .i64 0, .str [], .str [], .int .i64 0, .nilSl, .nilSl, .nilSl, .int .i64 0, .int .i64 0] [0], [.tmp 15 true], none⟩,
        ⟨some 17, .append 9 136, [.tmp 13 true, .tmp 16 true], none⟩,
        ⟨some 3, .move, [.tmp 17 true], none⟩] none [])))
def s44 : SFunc := { fid := 44, mode := .scp, nparams := 1, nboxes := 0, clr := [], results := [.tmp 2 true], body :=
  (.seq
    (.region [
      ⟨some 2, .move, [.const (.nilSl)], none⟩] none [2])
    (.seq
      (.region [
        ⟨some 3, .move, [.const (.nilSl)], none⟩] none [])
      (.seq
        (.region [
          ⟨some 4, .move, [.tmp 0 false], none⟩,
          ⟨some 5, .call 54, [.tmp 4 true, .const (.str [123])], none⟩] none [5])
        (.seq
          (.block 0
            (.loop s44_l0))
          (.seq
            (.region [
              ⟨some 18, .move, [.tmp 0 true], none⟩,
              ⟨some 19, .call 56, [.tmp 18 true, .const (.str [125])], none⟩] none [19])
            (.seq
              (.region [
                ⟨some 20, .move, [.tmp 3 true], none⟩,
                ⟨some 2, .move, [.tmp 20 true], none⟩] none [])
              .ret)))))) }

/-- slices.Contains[[]string,string] -/

def s45 : SFunc := { fid := 45, mode := .pure, nparams := 2, nboxes := 0, clr := [], results := [.tmp 4 false], body :=
  (.seq
    (.region [
      ⟨some 4, .move, [.const (.bool false)], none⟩] none [4])
    (.seq
      (.region [
        ⟨some 5, .move, [.tmp 0 true], none⟩,
        ⟨some 6, .move, [.tmp 1 true], none⟩,
        ⟨some 7, .call 39, [.tmp 5 true, .tmp 6 true], none⟩,
        ⟨some 8, .bin .geq, [.tmp 7 true, .const (.int .i64 0)], none⟩,
        ⟨some 4, .move, [.tmp 8 true], none⟩] none [])
      .ret)) }

/-- (*runrig/heads.maker).typed -/

def s46 : SFunc := { fid := 46, mode := .scp, nparams := 3, nboxes := 3, clr := [], results := [.box 6 1 3 true], body :=
  (.seq
    (.region [
      ⟨some 4, .boxF 0 2, [.tmp 1 true], none⟩,
      ⟨some 6, .allocF 1 [.int .i64 0, .int .i64 0, .int .i64 0], [], none⟩] none [])
    (.seq
      (.region [
        ⟨some 10, .move, [.tmp 0 false], none⟩,
        ⟨some 11, .nilCheck, [.tmp 10 true], none⟩,
        ⟨some 12, .fieldAddr 0, [.tmp 11 true], none⟩,
        ⟨some 13, .load false 1 false, [.tmp 12 true], none⟩,
        ⟨some 14, .loadF 0 true 2 false, [.tmp 4 true], none⟩,
        ⟨some 15, .call 15, [.tmp 13 true, .tmp 14 true], none⟩,
        ⟨some 9, .move, [.tmp 15 true], none⟩,
        ⟨some 16, .extract 0, [.tmp 9 false], none⟩,
        ⟨some 17, .extract 1, [.tmp 9 false], none⟩,
        ⟨some 7, .allocF 2 [.int .i64 0, .int .i64 0, .int .i64 0], [], none⟩,
        ⟨none, .storeF 2 3, [.tmp 7 false, .tmp 16 true], none⟩,
        ⟨some 8, .move, [.tmp 17 true], none⟩] (some []) [9])
      (.seq
        (.seq
          (.region [
            ⟨some 18, .move, [.tmp 8 true], none⟩,
            ⟨some 19, .un .not, [.tmp 18 true], none⟩] none [])
          (.cond (.tmp 19 true) []
            (.region [
              ⟨some 20, .move, [.tmp 0 true], none⟩,
              ⟨some 21, .move, [.tmp 2 true], none⟩,
              ⟨some 22, .call 34, [.tmp 20 true, .tmp 21 true], none⟩] none [22]) [0, 2]
            .skip))
        (.seq
          (.region [
            ⟨some 23, .loadF 2 true 3 false, [.tmp 7 true], none⟩,
            ⟨none, .storeF 1 3, [.tmp 6 false, .tmp 23 true], none⟩] none [])
          .ret)))) }

/-- runrig/runrigref2.letter -/

def s47 : SFunc := { fid := 47, mode := .pure, nparams := 1, nboxes := 0, clr := [], results := [.tmp 2 false], body :=
  (.seq
    (.region [
      ⟨some 2, .move, [.const (.bool false)], none⟩] none [2])
    (.seq
      (.region [
        ⟨some 3, .move, [.tmp 0 false], none⟩,
        ⟨some 4, .bin .geq, [.tmp 3 true, .const (.int .u8 97)], none⟩,
        ⟨some 5, .move, [.tmp 4 true], none⟩,
        ⟨some 6, .move, [.tmp 0 false], some (5, true)⟩,
        ⟨some 7, .bin .leq, [.tmp 6 true, .const (.int .u8 122)], some (5, true)⟩,
        ⟨some 8, .pick, [.tmp 5 true, .tmp 7 true, .const (.bool false)], none⟩,
        ⟨some 9, .move, [.tmp 8 true], none⟩,
        ⟨some 10, .move, [.tmp 0 false], some (9, false)⟩,
        ⟨some 11, .bin .geq, [.tmp 10 true, .const (.int .u8 65)], some (9, false)⟩,
        ⟨some 12, .move, [.tmp 11 true], some (9, false)⟩,
        ⟨some 13, .move, [.tmp 0 true], some (12, true)⟩,
        ⟨some 14, .bin .leq, [.tmp 13 true, .const (.int .u8 90)], some (12, true)⟩,
        ⟨some 15, .pick, [.tmp 12 true, .tmp 14 true, .const (.bool false)], some (9, false)⟩,
        ⟨some 16, .pick, [.tmp 9 true, .const (.bool true), .tmp 15 true], none⟩,
        ⟨some 2, .move, [.tmp 16 true], none⟩] none [0, 6, 10, 11, 12, 13, 14])
      .ret)) }

/-- runrig/runrigref2.run -/
def s48_l0 : SCode :=
  (.seq
    (.seq
      (.region [
        ⟨some 8, .move, [.tmp 1 false], none⟩,
        ⟨some 9, .move, [.tmp 7 false], none⟩,
        ⟨some 10, .bin .add, [.tmp 8 true, .tmp 9 true], none⟩,
        ⟨some 11, .move, [.tmp 0 false], none⟩,
        ⟨some 12, .len .str, [.tmp 11 true], none⟩,
        ⟨some 13, .bin .lss, [.tmp 10 true, .tmp 12 true], none⟩,
        ⟨some 14, .move, [.tmp 13 true], none⟩,
        ⟨some 15, .move, [.tmp 0 false], some (14, true)⟩,
        ⟨some 16, .move, [.tmp 1 false], some (14, true)⟩,
        ⟨some 17, .move, [.tmp 7 false], some (14, true)⟩,
        ⟨some 18, .bin .add, [.tmp 16 true, .tmp 17 true], some (14, true)⟩,
        ⟨some 19, .index, [.tmp 15 true, .tmp 18 true], some (14, true)⟩,
        ⟨some 20, .call 51, [.tmp 19 true], some (14, true)⟩,
        ⟨some 21, .move, [.tmp 20 true], some (14, true)⟩,
        ⟨some 22, .move, [.tmp 2 false], some (21, false)⟩,
        ⟨some 23, .un .not, [.tmp 22 true], some (21, false)⟩,
        ⟨some 24, .move, [.tmp 23 true], some (21, false)⟩,
        ⟨some 25, .move, [.tmp 0 false], some (24, true)⟩,
        ⟨some 26, .move, [.tmp 1 false], some (24, true)⟩,
        ⟨some 27, .move, [.tmp 7 false], some (24, true)⟩,
        ⟨some 28, .bin .add, [.tmp 26 true, .tmp 27 true], some (24, true)⟩,
        ⟨some 29, .index, [.tmp 25 true, .tmp 28 true], some (24, true)⟩,
        ⟨some 30, .call 47, [.tmp 29 true], some (24, true)⟩,
        ⟨some 31, .pick, [.tmp 24 true, .tmp 30 true, .const (.bool false)], some (21, false)⟩,
        ⟨some 32, .pick, [.tmp 21 true, .const (.bool true), .tmp 31 true], some (14, true)⟩,
        ⟨some 33, .pick, [.tmp 14 true, .tmp 32 true, .const (.bool false)], none⟩] none [15, 16, 17, 18, 19, 20, 21, 22, 23, 24, 25, 26, 27, 28, 29, 30, 31])
      (.cond (.tmp 33 true) []
        .skip [0, 1, 2]
        (.exit 0)))
    (.block 1
      (.region [
        ⟨some 34, .move, [.tmp 7 true], none⟩,
        ⟨some 35, .bin .add, [.tmp 34 true, .const (.int .i64 1)], none⟩,
        ⟨some 7, .move, [.tmp 35 true], none⟩] none [])))
def s48 : SFunc := { fid := 48, mode := .pure, nparams := 3, nboxes := 0, clr := [], results := [.tmp 6 false], body :=
  (.seq
    (.region [
      ⟨some 6, .move, [.const (.int .i64 0)], none⟩] none [6])
    (.seq
      (.region [
        ⟨some 7, .move, [.const (.int .i64 0)], none⟩] none [])
      (.seq
        (.block 0
          (.loop s48_l0))
        (.seq
          (.region [
            ⟨some 36, .move, [.tmp 7 true], none⟩,
            ⟨some 6, .move, [.tmp 36 true], none⟩] none [])
          .ret)))) }

/-- runrig/runrigref2.Word -/
def s49_l0 : SCode :=
  (.seq
    (.seq
      (.region [
        ⟨some 6, .move, [.tmp 4 false], none⟩,
        ⟨some 7, .move, [.tmp 3 false], none⟩,
        ⟨some 8, .len .sl, [.tmp 7 true], none⟩,
        ⟨some 9, .bin .lss, [.tmp 6 true, .tmp 8 true], none⟩] none [])
      (.cond (.tmp 9 true) []
        .skip [0, 3, 4]
        (.exit 0)))
    (.seq
      (.block 1
        (.seq
          (.region [
            ⟨some 12, .move, [.tmp 3 false], none⟩,
            ⟨some 13, .move, [.tmp 4 false], none⟩,
            ⟨some 14, .indexAddr 1, [.tmp 12 true, .tmp 13 true], none⟩,
            ⟨some 15, .load false 1 false, [.tmp 14 true], none⟩,
            ⟨some 16, .move, [.tmp 0 false], none⟩,
            ⟨some 17, .bin .eql, [.tmp 15 true, .tmp 16 true], none⟩] none [])
          (.cond (.tmp 17 true) [0, 3, 4]
            (.seq
              (.region [
                ⟨some 2, .move, [.const (.bool true)], none⟩] none [])
              .ret) []
            .skip)))
      (.region [
        ⟨some 10, .move, [.tmp 4 true], none⟩,
        ⟨some 11, .bin .add, [.tmp 10 true, .const (.int .i64 1)], none⟩,
        ⟨some 4, .move, [.tmp 11 true], none⟩] none [])))
def s49 : SFunc := { fid := 49, mode := .pure, nparams := 1, nboxes := 0, clr := [], results := [.tmp 2 false], body :=
  (.seq
    (.region [
      ⟨some 2, .move, [.const (.bool false)], none⟩] none [2])
    (.seq
      (.region [
        ⟨some 5, .call 57, [], none⟩,
        ⟨some 3, .move, [.tmp 5 true], none⟩] none [])
      (.seq
        (.seq
          (.region [
            ⟨some 4, .move, [.const (.int .i64 0)], none⟩] none [])
          (.block 0
            (.loop s49_l0)))
        (.seq
          (.region [
            ⟨some 2, .move, [.const (.bool false)], none⟩] none [])
          .ret)))) }

/-- runrig/runrigref2.Name -/
def s50_l0 : SCode :=
  (.seq
    (.seq
      (.region [
        ⟨some 22, .move, [.tmp 3 false], none⟩,
        ⟨some 23, .move, [.tmp 0 false], none⟩,
        ⟨some 24, .len .str, [.tmp 23 true], none⟩,
        ⟨some 25, .bin .lss, [.tmp 22 true, .tmp 24 true], none⟩] none [])
      (.cond (.tmp 25 true) []
        .skip [0, 3]
        (.exit 0)))
    (.seq
      (.block 1
        (.seq
          (.region [
            ⟨some 28, .move, [.tmp 0 false], none⟩,
            ⟨some 29, .move, [.tmp 3 false], none⟩,
            ⟨some 30, .index, [.tmp 28 true, .tmp 29 true], none⟩,
            ⟨some 31, .call 47, [.tmp 30 true], none⟩,
            ⟨some 32, .un .not, [.tmp 31 true], none⟩,
            ⟨some 33, .move, [.tmp 32 true], none⟩,
            ⟨some 34, .move, [.tmp 0 false], some (33, true)⟩,
            ⟨some 35, .move, [.tmp 3 false], some (33, true)⟩,
            ⟨some 36, .index, [.tmp 34 true, .tmp 35 true], some (33, true)⟩,
            ⟨some 37, .call 51, [.tmp 36 true], some (33, true)⟩,
            ⟨some 38, .un .not, [.tmp 37 true], some (33, true)⟩,
            ⟨some 39, .pick, [.tmp 33 true, .tmp 38 true, .const (.bool false)], none⟩] none [34, 35, 36, 37])
          (.cond (.tmp 39 true) [0, 3]
            (.seq
              (.region [
                ⟨some 2, .move, [.const (.bool false)], none⟩] none [])
              .ret) []
            .skip)))
      (.region [
        ⟨some 26, .move, [.tmp 3 true], none⟩,
        ⟨some 27, .bin .add, [.tmp 26 true, .const (.int .i64 1)], none⟩,
        ⟨some 3, .move, [.tmp 27 true], none⟩] none [])))
def s50 : SFunc := { fid := 50, mode := .pure, nparams := 1, nboxes := 0, clr := [], results := [.tmp 2 false], body :=
  (.seq
    (.region [
      ⟨some 2, .move, [.const (.bool false)], none⟩] none [2])
    (.seq
      (.seq
        (.region [
          ⟨some 4, .move, [.tmp 0 false], none⟩,
          ⟨some 5, .len .str, [.tmp 4 true], none⟩,
          ⟨some 6, .bin .lss, [.tmp 5 true, .const (.int .i64 1)], none⟩,
          ⟨some 7, .move, [.tmp 6 true], none⟩,
          ⟨some 8, .move, [.tmp 0 false], some (7, false)⟩,
          ⟨some 9, .len .str, [.tmp 8 true], some (7, false)⟩,
          ⟨some 10, .bin .gtr, [.tmp 9 true, .const (.int .i64 8)], some (7, false)⟩,
          ⟨some 11, .pick, [.tmp 7 true, .const (.bool true), .tmp 10 true], none⟩,
          ⟨some 12, .move, [.tmp 11 true], none⟩,
          ⟨some 13, .move, [.tmp 0 false], some (12, false)⟩,
          ⟨some 14, .index, [.tmp 13 true, .const (.int .i64 0)], some (12, false)⟩,
          ⟨some 15, .call 47, [.tmp 14 true], some (12, false)⟩,
          ⟨some 16, .un .not, [.tmp 15 true], some (12, false)⟩,
          ⟨some 17, .pick, [.tmp 12 true, .const (.bool true), .tmp 16 true], none⟩,
          ⟨some 18, .move, [.tmp 17 true], none⟩,
          ⟨some 19, .move, [.tmp 0 false], some (18, false)⟩,
          ⟨some 20, .call 49, [.tmp 19 true], some (18, false)⟩,
          ⟨some 21, .pick, [.tmp 18 true, .const (.bool true), .tmp 20 true], none⟩] none [8, 9, 13, 14, 15, 19])
        (.cond (.tmp 21 true) [0]
          (.seq
            (.region [
              ⟨some 2, .move, [.const (.bool false)], none⟩] none [])
            .ret) []
          .skip))
      (.seq
        (.seq
          (.region [
            ⟨some 3, .move, [.const (.int .i64 0)], none⟩] none [])
          (.block 0
            (.loop s50_l0)))
        (.seq
          (.region [
            ⟨some 2, .move, [.const (.bool true)], none⟩] none [])
          .ret)))) }

/-- runrig/runrigref2.digit -/

def s51 : SFunc := { fid := 51, mode := .pure, nparams := 1, nboxes := 0, clr := [], results := [.tmp 2 false], body :=
  (.seq
    (.region [
      ⟨some 2, .move, [.const (.bool false)], none⟩] none [2])
    (.seq
      (.region [
        ⟨some 3, .move, [.tmp 0 false], none⟩,
        ⟨some 4, .bin .geq, [.tmp 3 true, .const (.int .u8 48)], none⟩,
        ⟨some 5, .move, [.tmp 4 true], none⟩,
        ⟨some 6, .move, [.tmp 0 true], some (5, true)⟩,
        ⟨some 7, .bin .leq, [.tmp 6 true, .const (.int .u8 57)], some (5, true)⟩,
        ⟨some 8, .pick, [.tmp 5 true, .tmp 7 true, .const (.bool false)], none⟩,
        ⟨some 2, .move, [.tmp 8 true], none⟩] none [0, 6])
      .ret)) }

/-- runrig/runrigref2.whole -/
def s52_l0 : SCode :=
  (.seq
    (.seq
      (.region [
        ⟨some 7, .move, [.tmp 5 false], none⟩,
        ⟨some 8, .move, [.tmp 0 false], none⟩,
        ⟨some 9, .len .str, [.tmp 8 true], none⟩,
        ⟨some 10, .bin .lss, [.tmp 7 true, .tmp 9 true], none⟩] none [])
      (.cond (.tmp 10 true) []
        .skip [0, 5]
        (.exit 0)))
    (.seq
      (.block 1
        (.seq
          (.region [
            ⟨some 13, .move, [.tmp 0 false], none⟩,
            ⟨some 14, .move, [.tmp 5 false], none⟩,
            ⟨some 15, .index, [.tmp 13 true, .tmp 14 true], none⟩,
            ⟨some 16, .bin .sub, [.tmp 15 true, .const (.int .u8 48)], none⟩,
            ⟨some 17, .conv .i64, [.tmp 16 true], none⟩,
            ⟨some 6, .move, [.tmp 17 true], none⟩] none [])
          (.seq
            (.seq
              (.region [
                ⟨some 18, .move, [.tmp 4 false], none⟩,
                ⟨some 19, .move, [.tmp 6 false], none⟩,
                ⟨some 20, .bin .sub, [.const (.int .i64 9223372036854775807), .tmp 19 true], none⟩,
                ⟨some 21, .bin .quo, [.tmp 20 true, .const (.int .i64 10)], none⟩,
                ⟨some 22, .bin .gtr, [.tmp 18 true, .tmp 21 true], none⟩] none [])
              (.cond (.tmp 22 true) [0, 4, 5, 6]
                (.seq
                  (.region [
                    ⟨some 2, .move, [.const (.int .i64 0)], none⟩,
                    ⟨some 3, .move, [.const (.bool false)], none⟩] none [])
                  .ret) []
                .skip))
            (.region [
              ⟨some 23, .move, [.tmp 4 true], none⟩,
              ⟨some 24, .bin .mul, [.const (.int .i64 10), .tmp 23 true], none⟩,
              ⟨some 25, .move, [.tmp 6 true], none⟩,
              ⟨some 26, .bin .add, [.tmp 24 true, .tmp 25 true], none⟩,
              ⟨some 4, .move, [.tmp 26 true], none⟩] none []))))
      (.region [
        ⟨some 11, .move, [.tmp 5 true], none⟩,
        ⟨some 12, .bin .add, [.tmp 11 true, .const (.int .i64 1)], none⟩,
        ⟨some 5, .move, [.tmp 12 true], none⟩] none [])))
def s52 : SFunc := { fid := 52, mode := .pure, nparams := 1, nboxes := 0, clr := [], results := [.tmp 2 false, .tmp 3 false], body :=
  (.seq
    (.region [
      ⟨some 2, .move, [.const (.int .i64 0)], none⟩,
      ⟨some 3, .move, [.const (.bool false)], none⟩] none [2, 3])
    (.seq
      (.region [
        ⟨some 4, .move, [.const (.int .i64 0)], none⟩] none [])
      (.seq
        (.seq
          (.region [
            ⟨some 5, .move, [.const (.int .i64 0)], none⟩] none [])
          (.block 0
            (.loop s52_l0)))
        (.seq
          (.region [
            ⟨some 27, .move, [.tmp 4 true], none⟩,
            ⟨some 2, .move, [.tmp 27 true], none⟩,
            ⟨some 3, .move, [.const (.bool true)], none⟩] none [])
          .ret)))) }

/-- runrig/runrigref2.sign -/
def s53_l0 : SCode :=
  (.seq
    (.seq
      (.region [
        ⟨some 10, .move, [.tmp 6 false], none⟩,
        ⟨some 11, .move, [.tmp 5 false], none⟩,
        ⟨some 12, .len .sl, [.tmp 11 true], none⟩,
        ⟨some 13, .bin .lss, [.tmp 10 true, .tmp 12 true], none⟩] none [])
      (.cond (.tmp 13 true) []
        .skip [5, 6]
        (.exit 0)))
    (.seq
      (.block 1
        (.seq
          (.region [
            ⟨some 16, .move, [.tmp 0 false], none⟩,
            ⟨some 17, .len .str, [.tmp 16 true], none⟩,
            ⟨some 18, .move, [.tmp 1 false], none⟩,
            ⟨some 19, .bin .sub, [.tmp 17 true, .tmp 18 true], none⟩,
            ⟨some 20, .bin .geq, [.tmp 19 true, .const (.int .i64 2)], none⟩,
            ⟨some 21, .move, [.tmp 20 true], none⟩,
            ⟨some 22, .move, [.tmp 0 false], some (21, true)⟩,
            ⟨some 23, .move, [.tmp 1 false], some (21, true)⟩,
            ⟨some 24, .move, [.tmp 1 false], some (21, true)⟩,
            ⟨some 25, .bin .add, [.tmp 24 true, .const (.int .i64 2)], some (21, true)⟩,
            ⟨some 26, .slice true true true false 0, [.tmp 22 true, .tmp 23 true, .tmp 25 true], some (21, true)⟩,
            ⟨some 27, .move, [.tmp 5 false], some (21, true)⟩,
            ⟨some 28, .move, [.tmp 6 false], some (21, true)⟩,
            ⟨some 29, .indexAddr 1, [.tmp 27 true, .tmp 28 true], some (21, true)⟩,
            ⟨some 30, .load false 1 false, [.tmp 29 true], some (21, true)⟩,
            ⟨some 31, .bin .eql, [.tmp 26 true, .tmp 30 true], some (21, true)⟩,
            ⟨some 32, .pick, [.tmp 21 false, .tmp 31 true, .const (.bool false)], none⟩] (some []) [21, 22, 23, 24, 25, 26, 27, 28, 29, 30])
          (.cond (.tmp 32 true) [0, 1]
            (.seq
              (.region [
                ⟨some 33, .move, [.tmp 5 true], none⟩,
                ⟨some 34, .move, [.tmp 6 true], none⟩,
                ⟨some 35, .indexAddr 1, [.tmp 33 true, .tmp 34 true], none⟩,
                ⟨some 36, .load false 1 false, [.tmp 35 true], none⟩,
                ⟨some 4, .move, [.tmp 36 true], none⟩] none [])
              .ret) []
            .skip)))
      (.region [
        ⟨some 14, .move, [.tmp 6 true], none⟩,
        ⟨some 15, .bin .add, [.tmp 14 true, .const (.int .i64 1)], none⟩,
        ⟨some 6, .move, [.tmp 15 true], none⟩] none [])))
def s53_l1 : SCode :=
  (.seq
    (.seq
      (.region [
        ⟨some 37, .move, [.tmp 8 false], none⟩,
        ⟨some 38, .move, [.tmp 7 false], none⟩,
        ⟨some 39, .len .str, [.tmp 38 true], none⟩,
        ⟨some 40, .bin .lss, [.tmp 37 true, .tmp 39 true], none⟩] none [])
      (.cond (.tmp 40 true) []
        .skip [0, 1, 7, 8]
        (.exit 2)))
    (.seq
      (.block 3
        (.seq
          (.region [
            ⟨some 43, .move, [.tmp 0 false], none⟩,
            ⟨some 44, .move, [.tmp 1 false], none⟩,
            ⟨some 45, .index, [.tmp 43 true, .tmp 44 true], none⟩,
            ⟨some 46, .move, [.tmp 7 false], none⟩,
            ⟨some 47, .move, [.tmp 8 false], none⟩,
            ⟨some 48, .index, [.tmp 46 true, .tmp 47 true], none⟩,
            ⟨some 49, .bin .eql, [.tmp 45 true, .tmp 48 true], none⟩] (some []) [])
          (.cond (.tmp 49 true) [0, 1]
            (.seq
              (.region [
                ⟨some 50, .move, [.tmp 7 true], none⟩,
                ⟨some 51, .move, [.tmp 8 false], none⟩,
                ⟨some 52, .move, [.tmp 8 true], none⟩,
                ⟨some 53, .bin .add, [.tmp 52 true, .const (.int .i64 1)], none⟩,
                ⟨some 54, .slice true true true false 0, [.tmp 50 true, .tmp 51 true, .tmp 53 true], none⟩,
                ⟨some 4, .move, [.tmp 54 true], none⟩] none [])
              .ret) []
            .skip)))
      (.region [
        ⟨some 41, .move, [.tmp 8 true], none⟩,
        ⟨some 42, .bin .add, [.tmp 41 true, .const (.int .i64 1)], none⟩,
        ⟨some 8, .move, [.tmp 42 true], none⟩] none [])))
def s53 : SFunc := { fid := 53, mode := .pure, nparams := 2, nboxes := 0, clr := [], results := [.tmp 4 false], body :=
  (.seq
    (.region [
      ⟨some 4, .move, [.const (.str [])], none⟩] none [4])
    (.seq
      (.region [
        ⟨some 9, .lit 1 5 [.str []] [0, 1, 2, 3, 4], [.const (.str [60, 61]), .const (.str [61, 61]), .const (.str [33, 61]), .const (.str [38, 38]), .const (.str [124, 124])], none⟩,
        ⟨some 5, .move, [.tmp 9 true], none⟩] none [])
      (.seq
        (.seq
          (.region [
            ⟨some 6, .move, [.const (.int .i64 0)], none⟩] none [])
          (.block 0
            (.loop s53_l0)))
        (.seq
          (.region [
            ⟨some 7, .move, [.const (.str [123, 125, 40, 41, 91, 93, 59, 58, 44, 46, 61, 43, 45, 42, 47, 37, 60, 33])], none⟩] none [])
          (.seq
            (.seq
              (.region [
                ⟨some 8, .move, [.const (.int .i64 0)], none⟩] none [])
              (.block 2
                (.loop s53_l1)))
            (.seq
              (.region [
                ⟨some 4, .move, [.const (.str [])], none⟩] none [])
              .ret)))))) }

/-- (*runrig/runrigref3.reader).opens -/

def s54 : SFunc := { fid := 54, mode := .scp, nparams := 2, nboxes := 0, clr := [], results := [], body :=
  (.seq
    (.seq
      (.region [
        ⟨some 4, .move, [.tmp 0 false], none⟩,
        ⟨some 5, .move, [.tmp 1 false], none⟩,
        ⟨some 6, .call 23, [.tmp 4 true, .tmp 5 true], none⟩,
        ⟨some 7, .move, [.tmp 6 true], none⟩,
        ⟨some 8, .move, [.tmp 0 false], some (7, true)⟩,
        ⟨some 9, .nilCheck, [.tmp 8 true], some (7, true)⟩,
        ⟨some 10, .fieldAddr 2, [.tmp 9 true], some (7, true)⟩,
        ⟨some 11, .load false 1 false, [.tmp 10 true], some (7, true)⟩,
        ⟨some 12, .bin .geq, [.tmp 11 true, .const (.int .i64 50)], some (7, true)⟩,
        ⟨some 13, .pick, [.tmp 7 true, .tmp 12 true, .const (.bool false)], none⟩] none [8, 9, 10, 11])
      (.cond (.tmp 13 true) [1]
        (.seq
          (.region [
            ⟨some 14, .move, [.tmp 0 true], none⟩,
            ⟨some 15, .call 24, [.tmp 14 true, .const (.int .i64 4)], none⟩] none [15])
          .ret) []
        .skip))
    (.seq
      (.region [
        ⟨some 16, .move, [.tmp 0 false], none⟩,
        ⟨some 17, .move, [.tmp 1 true], none⟩,
        ⟨some 18, .call 27, [.tmp 16 true, .tmp 17 true], none⟩] none [18])
      (.region [
        ⟨some 19, .move, [.tmp 0 true], none⟩,
        ⟨some 20, .nilCheck, [.tmp 19 false], none⟩,
        ⟨some 21, .fieldAddr 2, [.tmp 20 true], none⟩,
        ⟨some 22, .load false 1 false, [.tmp 21 true], none⟩,
        ⟨some 23, .bin .add, [.tmp 22 true, .const (.int .i64 1)], none⟩,
        ⟨some 24, .nilCheck, [.tmp 19 true], none⟩,
        ⟨some 25, .fieldAddr 2, [.tmp 24 true], none⟩,
        ⟨none, .store 1, [.tmp 25 true, .tmp 23 true], none⟩] none []))) }

/-- (*runrig/runrigref3.reader).stmt -/

def s55 : SFunc := { fid := 55, mode := .scp, nparams := 1, nboxes := 3, clr := [], results := [.box 2 0 9 true], body :=
  (.seq
    (.region [
      ⟨some 2, .allocF 0 [.int .i64 0, .str [], .str [], .int .i64 0, .nilSl, .nilSl, .nilSl, .int .i64 0, .int .i64 0], [], none⟩] none [])
    (.seq
      (.region [
        ⟨some 5, .move, [.tmp 0 false], none⟩,
        ⟨some 6, .call 22, [.tmp 5 true], none⟩,
        ⟨some 3, .allocF 1 [.int .i64 0, .str [], .int .i64 0, .int .i64 0], [], none⟩,
        ⟨none, .storeF 1 4, [.tmp 3 false, .tmp 6 true], none⟩] none [])
      (.seq
        (.region [
          ⟨some 7, .fieldAddr 3, [.tmp 3 false], none⟩,
          ⟨some 8, .loadF 1 false 1 false, [.tmp 7 true], none⟩,
          ⟨some 9, .build [.int .i64 0, .str [], .str [], .int .i64 0, .nilSl, .nilSl, .nilSl, .int .i64 0, .int .i64 0] [(7, 1)], [.tmp 8 true], none⟩,
          ⟨some 4, .allocF 2 [.int .i64 0, .str [], .str [], .int .i64 0, .nilSl, .nilSl, .nilSl, .int .i64 0, .int .i64 0], [], none⟩,
          ⟨none, .storeF 2 9, [.tmp 4 false, .tmp 9 true], none⟩] none [])
        (.seq
          (.block 0
            (.seq
              (.seq
                (.region [
                  ⟨some 14, .move, [.tmp 0 false], none⟩,
                  ⟨some 15, .call 23, [.tmp 14 true, .const (.str [118, 97, 114])], none⟩,
                  ⟨some 13, .move, [.tmp 15 true], none⟩] none [])
                (.cond (.tmp 13 false) []
                  .skip [13]
                  (.region [
                    ⟨some 16, .move, [.tmp 0 false], none⟩,
                    ⟨some 17, .call 23, [.tmp 16 true, .const (.str [108, 101, 116])], none⟩,
                    ⟨some 13, .move, [.tmp 17 true], none⟩] none [])))
              (.cond (.tmp 13 true) []
                (.seq
                  (.region [
                    ⟨some 18, .move, [.tmp 0 false], none⟩,
                    ⟨some 19, .nilCheck, [.tmp 18 false], none⟩,
                    ⟨some 20, .fieldAddr 1, [.tmp 19 true], none⟩,
                    ⟨some 21, .load false 1 false, [.tmp 20 true], none⟩,
                    ⟨some 22, .bin .add, [.tmp 21 true, .const (.int .i64 1)], none⟩,
                    ⟨some 23, .nilCheck, [.tmp 18 true], none⟩,
                    ⟨some 24, .fieldAddr 1, [.tmp 23 true], none⟩,
                    ⟨none, .store 1, [.tmp 24 true, .tmp 22 true], none⟩] none [])
                  (.seq
                    (.region [
                      ⟨some 25, .fieldAddr 0, [.tmp 4 false], none⟩,
                      ⟨none, .storeF 2 1, [.tmp 25 true, .const (.int .i64 1)], none⟩] none [])
                    (.seq
                      (.region [
                        ⟨some 26, .move, [.tmp 0 false], none⟩,
                        ⟨some 27, .call 42, [.tmp 26 true], none⟩,
                        ⟨some 28, .fieldAddr 1, [.tmp 4 false], none⟩,
                        ⟨none, .storeF 2 1, [.tmp 28 true, .tmp 27 true], none⟩] none [])
                      (.seq
                        (.region [
                          ⟨some 29, .move, [.tmp 0 false], none⟩,
                          ⟨some 30, .call 27, [.tmp 29 true, .const (.str [58])], none⟩] none [30])
                        (.seq
                          (.region [
                            ⟨some 31, .move, [.tmp 0 false], none⟩,
                            ⟨some 32, .call 43, [.tmp 31 true], none⟩,
                            ⟨some 33, .fieldAddr 2, [.tmp 4 false], none⟩,
                            ⟨none, .storeF 2 2, [.tmp 33 true, .tmp 32 true], none⟩] none [])
                          (.seq
                            (.seq
                              (.region [
                                ⟨some 34, .fieldAddr 1, [.tmp 3 true], none⟩,
                                ⟨some 35, .loadF 1 false 1 false, [.tmp 34 true], none⟩,
                                ⟨some 36, .bin .eql, [.tmp 35 true, .const (.str [108, 101, 116])], none⟩] none [])
                              (.cond (.tmp 36 true) []
                                (.seq
                                  (.region [
                                    ⟨some 37, .fieldAddr 0, [.tmp 4 false], none⟩,
                                    ⟨none, .storeF 2 1, [.tmp 37 true, .const (.int .i64 2)], none⟩] none [])
                                  (.seq
                                    (.region [
                                      ⟨some 38, .move, [.tmp 0 false], none⟩,
                                      ⟨some 39, .call 27, [.tmp 38 true, .const (.str [61])], none⟩] none [39])
                                    (.region [
                                      ⟨some 40, .move, [.tmp 0 false], none⟩,
                                      ⟨some 41, .call 58, [.tmp 40 true, .const (.int .i64 0)], none⟩,
                                      ⟨some 42, .lit 11 1 [.int .i64 0, .int .i64 0, .str [], .str [], .int .i64 0, .nilSl, .int .i64 0, .int .i64 0, .int .i64 0, .int .i64 0, .int .i64 0] [0], [.tmp 41 true], none⟩,
                                      ⟨some 43, .fieldAddr 4, [.tmp 4 false], none⟩,
                                      ⟨none, .storeF 2 1, [.tmp 43 true, .tmp 42 true], none⟩] none []))) []
                                .skip))
                            (.region [
                              ⟨some 44, .move, [.tmp 0 true], none⟩,
                              ⟨some 45, .call 27, [.tmp 44 true, .const (.str [59])], none⟩] none [45]))))))) [3]
                (.seq
                  (.region [
                    ⟨some 47, .move, [.tmp 0 false], none⟩,
                    ⟨some 48, .call 23, [.tmp 47 true, .const (.str [105, 102])], none⟩,
                    ⟨some 46, .move, [.tmp 48 true], none⟩] none [])
                  (.cond (.tmp 46 true) []
                    (.seq
                      (.region [
                        ⟨some 49, .move, [.tmp 0 false], none⟩,
                        ⟨some 50, .nilCheck, [.tmp 49 false], none⟩,
                        ⟨some 51, .fieldAddr 1, [.tmp 50 true], none⟩,
                        ⟨some 52, .load false 1 false, [.tmp 51 true], none⟩,
                        ⟨some 53, .bin .add, [.tmp 52 true, .const (.int .i64 1)], none⟩,
                        ⟨some 54, .nilCheck, [.tmp 49 true], none⟩,
                        ⟨some 55, .fieldAddr 1, [.tmp 54 true], none⟩,
                        ⟨none, .store 1, [.tmp 55 true, .tmp 53 true], none⟩] none [])
                      (.seq
                        (.region [
                          ⟨some 56, .fieldAddr 0, [.tmp 4 false], none⟩,
                          ⟨none, .storeF 2 1, [.tmp 56 true, .const (.int .i64 5)], none⟩] none [])
                        (.seq
                          (.region [
                            ⟨some 57, .move, [.tmp 0 false], none⟩,
                            ⟨some 58, .call 58, [.tmp 57 true, .const (.int .i64 0)], none⟩,
                            ⟨some 59, .lit 11 1 [.int .i64 0, .int .i64 0, .str [], .str [], .int .i64 0, .nilSl, .int .i64 0, .int .i64 0, .int .i64 0, .int .i64 0, .int .i64 0] [0], [.tmp 58 true], none⟩,
                            ⟨some 60, .fieldAddr 4, [.tmp 4 false], none⟩,
                            ⟨none, .storeF 2 1, [.tmp 60 true, .tmp 59 true], none⟩] none [])
                          (.seq
                            (.region [
                              ⟨some 61, .move, [.tmp 0 false], none⟩,
                              ⟨some 62, .call 44, [.tmp 61 true], none⟩,
                              ⟨some 63, .fieldAddr 5, [.tmp 4 false], none⟩,
                              ⟨none, .storeF 2 1, [.tmp 63 true, .tmp 62 true], none⟩] none [])
                            (.seq
                              (.region [
                                ⟨some 64, .move, [.tmp 0 false], none⟩,
                                ⟨some 65, .call 23, [.tmp 64 true, .const (.str [101, 108, 115, 101])], none⟩] none [])
                              (.cond (.tmp 65 true) []
                                (.seq
                                  (.region [
                                    ⟨some 66, .move, [.tmp 0 false], none⟩,
                                    ⟨some 67, .nilCheck, [.tmp 66 false], none⟩,
                                    ⟨some 68, .fieldAddr 1, [.tmp 67 true], none⟩,
                                    ⟨some 69, .load false 1 false, [.tmp 68 true], none⟩,
                                    ⟨some 70, .bin .add, [.tmp 69 true, .const (.int .i64 1)], none⟩,
                                    ⟨some 71, .nilCheck, [.tmp 66 true], none⟩,
                                    ⟨some 72, .fieldAddr 1, [.tmp 71 true], none⟩,
                                    ⟨none, .store 1, [.tmp 72 true, .tmp 70 true], none⟩] none [])
                                  (.region [
                                    ⟨some 73, .move, [.tmp 0 true], none⟩,
                                    ⟨some 74, .call 44, [.tmp 73 true], none⟩,
                                    ⟨some 75, .fieldAddr 6, [.tmp 4 false], none⟩,
                                    ⟨none, .storeF 2 1, [.tmp 75 true, .tmp 74 true], none⟩] none [])) [0]
                                .skip)))))) []
                    (.seq
                      (.region [
                        ⟨some 77, .move, [.tmp 0 false], none⟩,
                        ⟨some 78, .call 23, [.tmp 77 true, .const (.str [119, 104, 105, 108, 101])], none⟩,
                        ⟨some 76, .move, [.tmp 78 true], none⟩] none [])
                      (.cond (.tmp 76 true) []
                        (.seq
                          (.region [
                            ⟨some 79, .move, [.tmp 0 false], none⟩,
                            ⟨some 80, .nilCheck, [.tmp 79 false], none⟩,
                            ⟨some 81, .fieldAddr 1, [.tmp 80 true], none⟩,
                            ⟨some 82, .load false 1 false, [.tmp 81 true], none⟩,
                            ⟨some 83, .bin .add, [.tmp 82 true, .const (.int .i64 1)], none⟩,
                            ⟨some 84, .nilCheck, [.tmp 79 true], none⟩,
                            ⟨some 85, .fieldAddr 1, [.tmp 84 true], none⟩,
                            ⟨none, .store 1, [.tmp 85 true, .tmp 83 true], none⟩] none [])
                          (.seq
                            (.region [
                              ⟨some 86, .fieldAddr 0, [.tmp 4 false], none⟩,
                              ⟨none, .storeF 2 1, [.tmp 86 true, .const (.int .i64 6)], none⟩] none [])
                            (.seq
                              (.region [
                                ⟨some 87, .move, [.tmp 0 false], none⟩,
                                ⟨some 88, .call 58, [.tmp 87 true, .const (.int .i64 0)], none⟩,
                                ⟨some 89, .lit 11 1 [.int .i64 0, .int .i64 0, .str [], .str [], .int .i64 0, .nilSl, .int .i64 0, .int .i64 0, .int .i64 0, .int .i64 0, .int .i64 0] [0], [.tmp 88 true], none⟩,
                                ⟨some 90, .fieldAddr 4, [.tmp 4 false], none⟩,
                                ⟨none, .storeF 2 1, [.tmp 90 true, .tmp 89 true], none⟩] none [])
                              (.region [
                                ⟨some 91, .move, [.tmp 0 true], none⟩,
                                ⟨some 92, .call 44, [.tmp 91 true], none⟩,
                                ⟨some 93, .fieldAddr 5, [.tmp 4 false], none⟩,
                                ⟨none, .storeF 2 1, [.tmp 93 true, .tmp 92 true], none⟩] none [])))) []
                        (.seq
                          (.region [
                            ⟨some 95, .move, [.tmp 0 false], none⟩,
                            ⟨some 96, .call 23, [.tmp 95 true, .const (.str [114, 101, 116, 117, 114, 110])], none⟩,
                            ⟨some 94, .move, [.tmp 96 true], none⟩] none [])
                          (.cond (.tmp 94 true) []
                            (.seq
                              (.region [
                                ⟨some 97, .move, [.tmp 0 false], none⟩,
                                ⟨some 98, .nilCheck, [.tmp 97 false], none⟩,
                                ⟨some 99, .fieldAddr 1, [.tmp 98 true], none⟩,
                                ⟨some 100, .load false 1 false, [.tmp 99 true], none⟩,
                                ⟨some 101, .bin .add, [.tmp 100 true, .const (.int .i64 1)], none⟩,
                                ⟨some 102, .nilCheck, [.tmp 97 true], none⟩,
                                ⟨some 103, .fieldAddr 1, [.tmp 102 true], none⟩,
                                ⟨none, .store 1, [.tmp 103 true, .tmp 101 true], none⟩] none [])
                              (.seq
                                (.region [
                                  ⟨some 104, .fieldAddr 0, [.tmp 4 false], none⟩,
                                  ⟨none, .storeF 2 1, [.tmp 104 true, .const (.int .i64 7)], none⟩] none [])
                                (.seq
                                  (.seq
                                    (.region [
                                      ⟨some 105, .move, [.tmp 0 false], none⟩,
                                      ⟨some 106, .call 23, [.tmp 105 true, .const (.str [59])], none⟩,
                                      ⟨some 107, .un .not, [.tmp 106 true], none⟩] none [])
                                    (.cond (.tmp 107 true) []
                                      (.region [
                                        ⟨some 108, .move, [.tmp 0 false], none⟩,
                                        ⟨some 109, .call 58, [.tmp 108 true, .const (.int .i64 0)], none⟩,
                                        ⟨some 110, .lit 11 1 [.int .i64 0, .int .i64 0, .str [], .str [], .int .i64 0, .nilSl, .int .i64 0, .int .i64 0, .int .i64 0, .int .i64 0, .int .i64 0] [0], [.tmp 109 true], none⟩,
                                        ⟨some 111, .fieldAddr 4, [.tmp 4 false], none⟩,
                                        ⟨none, .storeF 2 1, [.tmp 111 true, .tmp 110 true], none⟩] none []) []
                                      .skip))
                                  (.region [
                                    ⟨some 112, .move, [.tmp 0 true], none⟩,
                                    ⟨some 113, .call 27, [.tmp 112 true, .const (.str [59])], none⟩] none [113])))) []
                            (.seq
                              (.region [
                                ⟨some 115, .move, [.tmp 0 false], none⟩,
                                ⟨some 116, .call 23, [.tmp 115 true, .const (.str [112, 114, 105, 110, 116])], none⟩,
                                ⟨some 114, .move, [.tmp 116 true], none⟩] none [])
                              (.cond (.tmp 114 true) []
                                (.seq
                                  (.region [
                                    ⟨some 117, .move, [.tmp 0 false], none⟩,
                                    ⟨some 118, .nilCheck, [.tmp 117 false], none⟩,
                                    ⟨some 119, .fieldAddr 1, [.tmp 118 true], none⟩,
                                    ⟨some 120, .load false 1 false, [.tmp 119 true], none⟩,
                                    ⟨some 121, .bin .add, [.tmp 120 true, .const (.int .i64 1)], none⟩,
                                    ⟨some 122, .nilCheck, [.tmp 117 true], none⟩,
                                    ⟨some 123, .fieldAddr 1, [.tmp 122 true], none⟩,
                                    ⟨none, .store 1, [.tmp 123 true, .tmp 121 true], none⟩] none [])
                                  (.seq
                                    (.region [
                                      ⟨some 124, .fieldAddr 0, [.tmp 4 false], none⟩,
                                      ⟨none, .storeF 2 1, [.tmp 124 true, .const (.int .i64 8)], none⟩] none [])
                                    (.seq
                                      (.region [
                                        ⟨some 125, .move, [.tmp 0 false], none⟩,
                                        ⟨some 126, .call 58, [.tmp 125 true, .const (.int .i64 0)], none⟩,
                                        ⟨some 127, .lit 11 1 [.int .i64 0, .int .i64 0, .str [], .str [], .int .i64 0, .nilSl, .int .i64 0, .int .i64 0, .int .i64 0, .int .i64 0, .int .i64 0] [0], [.tmp 126 true], none⟩,
                                        ⟨some 128, .fieldAddr 4, [.tmp 4 false], none⟩,
                                        ⟨none, .storeF 2 1, [.tmp 128 true, .tmp 127 true], none⟩] none [])
                                      (.region [
                                        ⟨some 129, .move, [.tmp 0 true], none⟩,
                                        ⟨some 130, .call 27, [.tmp 129 true, .const (.str [59])], none⟩] none [130])))) []
                                (.seq
                                  (.region [
                                    ⟨some 10, .move, [.tmp 0 true], none⟩,
                                    ⟨some 11, .loadF 2 true 9 false, [.tmp 4 true], none⟩,
                                    ⟨some 12, .call 59, [.tmp 10 true, .tmp 11 true], none⟩,
                                    ⟨none, .storeF 0 9, [.tmp 2 false, .tmp 12 true], none⟩] none [])
                                  .ret))))))))))))
          (.seq
            (.region [
              ⟨some 131, .loadF 2 true 9 false, [.tmp 4 true], none⟩,
              ⟨none, .storeF 0 9, [.tmp 2 false, .tmp 131 true], none⟩] none [])
            .ret))))) }

/-- (*runrig/runrigref3.reader).closes -/

def s56 : SFunc := { fid := 56, mode := .scp, nparams := 2, nboxes := 0, clr := [], results := [], body :=
  (.seq
    (.region [
      ⟨some 4, .move, [.tmp 0 false], none⟩,
      ⟨some 5, .move, [.tmp 1 true], none⟩,
      ⟨some 6, .call 27, [.tmp 4 true, .tmp 5 true], none⟩] none [6])
    (.region [
      ⟨some 7, .move, [.tmp 0 true], none⟩,
      ⟨some 8, .nilCheck, [.tmp 7 false], none⟩,
      ⟨some 9, .fieldAddr 2, [.tmp 8 true], none⟩,
      ⟨some 10, .load false 1 false, [.tmp 9 true], none⟩,
      ⟨some 11, .bin .sub, [.tmp 10 true, .const (.int .i64 1)], none⟩,
      ⟨some 12, .nilCheck, [.tmp 7 true], none⟩,
      ⟨some 13, .fieldAddr 2, [.tmp 12 true], none⟩,
      ⟨none, .store 1, [.tmp 13 true, .tmp 11 true], none⟩] none [])) }

/-- runrig/runrigref2.words -/

def s57 : SFunc := { fid := 57, mode := .pure, nparams := 0, nboxes := 0, clr := [], results := [.tmp 0 true], body :=
  (.seq
    (.region [
      ⟨some 0, .move, [.const (.nilSl)], none⟩] none [0])
    (.seq
      (.region [
        ⟨some 1, .lit 1 18 [.str []] [0, 1, 2, 3, 4, 5, 6, 7, 8, 9, 10, 11, 12, 13, 14, 15, 16, 17], [.const (.str [114, 101, 99, 111, 114, 100]), .const (.str [103, 108, 111, 98, 97, 108]), .const (.str [102, 117, 110, 99]), .const (.str [118, 97, 114]), .const (.str [108, 101, 116]), .const (.str [105, 102]), .const (.str [101, 108, 115, 101]), .const (.str [119, 104, 105, 108, 101]), .const (.str [114, 101, 116, 117, 114, 110]), .const (.str [112, 114, 105, 110, 116]), .const (.str [110, 117, 108, 108]), .const (.str [110, 101, 119]), .const (.str [108, 101, 110]), .const (.str [114, 101, 97, 100]), .const (.str [116, 114, 117, 101]), .const (.str [102, 97, 108, 115, 101]), .const (.str [105, 110, 116]), .const (.str [98, 111, 111, 108])], none⟩,
        ⟨some 0, .move, [.tmp 1 true], none⟩] none [])
      .ret)) }

/-- (*runrig/runrigref3.reader).expr -/
def s58_l0 : SCode :=
  (.seq
    (.seq
      (.region [
        ⟨some 16, .move, [.tmp 0 false], none⟩,
        ⟨some 17, .call 21, [.tmp 16 true], none⟩,
        ⟨some 18, .move, [.tmp 17 true], none⟩,
        ⟨some 19, .move, [.tmp 1 false], some (18, true)⟩,
        ⟨some 20, .move, [.tmp 0 false], some (18, true)⟩,
        ⟨some 21, .call 22, [.tmp 20 true], some (18, true)⟩,
        ⟨some 22, .call 61, [.tmp 19 true, .tmp 21 true], some (18, true)⟩,
        ⟨some 23, .bin .neq, [.tmp 22 true, .const (.int .i64 0)], some (18, true)⟩,
        ⟨some 24, .pick, [.tmp 18 true, .tmp 23 true, .const (.bool false)], none⟩] none [19, 20, 21, 22])
      (.cond (.tmp 24 true) []
        .skip [0, 1]
        (.exit 0)))
    (.block 1
      (.seq
        (.region [
          ⟨some 25, .move, [.tmp 0 false], none⟩,
          ⟨some 26, .call 22, [.tmp 25 true], none⟩,
          ⟨some 6, .allocF 2 [.int .i64 0, .str [], .int .i64 0, .int .i64 0], [], none⟩,
          ⟨none, .storeF 2 4, [.tmp 6 false, .tmp 26 true], none⟩] none [])
        (.seq
          (.region [
            ⟨some 27, .move, [.tmp 0 false], none⟩,
            ⟨some 28, .nilCheck, [.tmp 27 false], none⟩,
            ⟨some 29, .fieldAddr 1, [.tmp 28 true], none⟩,
            ⟨some 30, .load false 1 false, [.tmp 29 true], none⟩,
            ⟨some 31, .bin .add, [.tmp 30 true, .const (.int .i64 1)], none⟩,
            ⟨some 32, .nilCheck, [.tmp 27 true], none⟩,
            ⟨some 33, .fieldAddr 1, [.tmp 32 true], none⟩,
            ⟨none, .store 1, [.tmp 33 true, .tmp 31 true], none⟩] none [])
          (.seq
            (.region [
              ⟨some 34, .move, [.tmp 0 false], none⟩,
              ⟨some 35, .move, [.tmp 1 false], none⟩,
              ⟨some 36, .bin .add, [.tmp 35 true, .const (.int .i64 1)], none⟩,
              ⟨some 37, .call 58, [.tmp 34 true, .tmp 36 true], none⟩,
              ⟨some 7, .allocF 3 [.int .i64 0, .int .i64 0, .str [], .str [], .int .i64 0, .nilSl, .int .i64 0, .int .i64 0, .int .i64 0, .int .i64 0, .int .i64 0], [], none⟩,
              ⟨none, .storeF 3 11, [.tmp 7 false, .tmp 37 true], none⟩] none [])
            (.region [
              ⟨some 38, .move, [.tmp 1 false], none⟩,
              ⟨some 39, .loadF 2 true 4 false, [.tmp 6 false], none⟩,
              ⟨some 40, .call 61, [.tmp 38 true, .tmp 39 true], none⟩,
              ⟨some 41, .loadF 1 true 11 false, [.tmp 5 false], none⟩,
              ⟨some 42, .loadF 3 true 11 false, [.tmp 7 true], none⟩,
              ⟨some 43, .lit 11 2 [.int .i64 0, .int .i64 0, .str [], .str [], .int .i64 0, .nilSl, .int .i64 0, .int .i64 0, .int .i64 0, .int .i64 0, .int .i64 0] [0, 1], [.tmp 41 true, .tmp 42 true], none⟩,
              ⟨some 44, .fieldAddr 3, [.tmp 6 false], none⟩,
              ⟨some 45, .loadF 2 false 1 false, [.tmp 44 true], none⟩,
              ⟨some 46, .build [.int .i64 0, .int .i64 0, .str [], .str [], .int .i64 0, .nilSl, .int .i64 0, .int .i64 0, .int .i64 0, .int .i64 0, .int .i64 0] [(0, 1), (5, 1), (6, 1)], [.tmp 40 true, .tmp 43 true, .tmp 45 true], none⟩,
              ⟨none, .storeF 1 11, [.tmp 5 false, .tmp 46 true], none⟩] (some []) [6]))))))
def s58 : SFunc := { fid := 58, mode := .scp, nparams := 2, nboxes := 4, clr := [], results := [.box 4 0 11 true], body :=
  (.seq
    (.region [
      ⟨some 4, .allocF 0 [.int .i64 0, .int .i64 0, .str [], .str [], .int .i64 0, .nilSl, .int .i64 0, .int .i64 0, .int .i64 0, .int .i64 0, .int .i64 0], [], none⟩] none [])
    (.seq
      (.seq
        (.region [
          ⟨some 8, .move, [.tmp 1 false], none⟩,
          ⟨some 9, .bin .eql, [.tmp 8 true, .const (.int .i64 5)], none⟩] none [])
        (.cond (.tmp 9 true) [1]
          (.seq
            (.region [
              ⟨some 10, .move, [.tmp 0 true], none⟩,
              ⟨some 11, .call 60, [.tmp 10 true], none⟩,
              ⟨none, .storeF 0 11, [.tmp 4 false, .tmp 11 true], none⟩] none [])
            .ret) []
          .skip))
      (.seq
        (.region [
          ⟨some 12, .move, [.tmp 0 false], none⟩,
          ⟨some 13, .move, [.tmp 1 false], none⟩,
          ⟨some 14, .bin .add, [.tmp 13 true, .const (.int .i64 1)], none⟩,
          ⟨some 15, .call 58, [.tmp 12 true, .tmp 14 true], none⟩,
          ⟨some 5, .allocF 1 [.int .i64 0, .int .i64 0, .str [], .str [], .int .i64 0, .nilSl, .int .i64 0, .int .i64 0, .int .i64 0, .int .i64 0, .int .i64 0], [], none⟩,
          ⟨none, .storeF 1 11, [.tmp 5 false, .tmp 15 true], none⟩] none [])
        (.seq
          (.block 0
            (.loop s58_l0))
          (.seq
            (.region [
              ⟨some 47, .loadF 1 true 11 false, [.tmp 5 true], none⟩,
              ⟨none, .storeF 0 11, [.tmp 4 false, .tmp 47 true], none⟩] none [])
            .ret))))) }

/-- (*runrig/runrigref3.reader).plain -/

def s59 : SFunc := { fid := 59, mode := .scp, nparams := 2, nboxes := 4, clr := [], results := [.box 4 1 9 true], body :=
  (.seq
    (.region [
      ⟨some 3, .boxF 0 9, [.tmp 1 true], none⟩,
      ⟨some 4, .allocF 1 [.int .i64 0, .str [], .str [], .int .i64 0, .nilSl, .nilSl, .nilSl, .int .i64 0, .int .i64 0], [], none⟩] none [])
    (.seq
      (.region [
        ⟨some 7, .move, [.tmp 0 false], none⟩,
        ⟨some 8, .call 58, [.tmp 7 true, .const (.int .i64 0)], none⟩,
        ⟨some 5, .allocF 2 [.int .i64 0, .int .i64 0, .str [], .str [], .int .i64 0, .nilSl, .int .i64 0, .int .i64 0, .int .i64 0, .int .i64 0, .int .i64 0], [], none⟩,
        ⟨none, .storeF 2 11, [.tmp 5 false, .tmp 8 true], none⟩] none [])
      (.seq
        (.seq
          (.region [
            ⟨some 9, .move, [.tmp 0 false], none⟩,
            ⟨some 10, .call 23, [.tmp 9 true, .const (.str [61])], none⟩,
            ⟨some 11, .un .not, [.tmp 10 true], none⟩] none [])
          (.cond (.tmp 11 true) []
            (.seq
              (.region [
                ⟨some 12, .fieldAddr 0, [.tmp 3 false], none⟩,
                ⟨none, .storeF 0 1, [.tmp 12 true, .const (.int .i64 9)], none⟩] none [])
              (.seq
                (.region [
                  ⟨some 13, .loadF 2 true 11 false, [.tmp 5 false], none⟩,
                  ⟨some 14, .lit 11 1 [.int .i64 0, .int .i64 0, .str [], .str [], .int .i64 0, .nilSl, .int .i64 0, .int .i64 0, .int .i64 0, .int .i64 0, .int .i64 0] [0], [.tmp 13 true], none⟩,
                  ⟨some 15, .fieldAddr 4, [.tmp 3 false], none⟩,
                  ⟨none, .storeF 0 1, [.tmp 15 true, .tmp 14 true], none⟩] none [])
                (.seq
                  (.seq
                    (.region [
                      ⟨some 16, .move, [.tmp 0 false], none⟩,
                      ⟨some 17, .call 23, [.tmp 16 true, .const (.str [59])], none⟩,
                      ⟨some 18, .move, [.tmp 17 true], none⟩,
                      ⟨some 19, .fieldAddr 0, [.tmp 5 true], some (18, true)⟩,
                      ⟨some 20, .loadF 2 false 1 false, [.tmp 19 true], some (18, true)⟩,
                      ⟨some 21, .bin .neq, [.tmp 20 true, .const (.int .i64 7)], some (18, true)⟩,
                      ⟨some 22, .pick, [.tmp 18 true, .tmp 21 true, .const (.bool false)], none⟩] none [5, 19, 20])
                    (.cond (.tmp 22 true) []
                      (.region [
                        ⟨some 23, .move, [.tmp 0 false], none⟩,
                        ⟨some 24, .call 24, [.tmp 23 true, .const (.int .i64 2)], none⟩] none [24]) []
                      .skip))
                  (.seq
                    (.region [
                      ⟨some 25, .move, [.tmp 0 true], none⟩,
                      ⟨some 26, .call 27, [.tmp 25 true, .const (.str [59])], none⟩] none [26])
                    (.seq
                      (.region [
                        ⟨some 27, .loadF 0 true 9 false, [.tmp 3 true], none⟩,
                        ⟨none, .storeF 1 9, [.tmp 4 false, .tmp 27 true], none⟩] none [])
                      .ret))))) []
            .skip))
        (.seq
          (.seq
            (.region [
              ⟨some 28, .fieldAddr 0, [.tmp 5 false], none⟩,
              ⟨some 29, .loadF 2 false 1 false, [.tmp 28 true], none⟩,
              ⟨some 30, .bin .neq, [.tmp 29 true, .const (.int .i64 4)], none⟩,
              ⟨some 31, .move, [.tmp 30 true], none⟩,
              ⟨some 32, .fieldAddr 0, [.tmp 5 false], some (31, true)⟩,
              ⟨some 33, .loadF 2 false 1 false, [.tmp 32 true], some (31, true)⟩,
              ⟨some 34, .bin .neq, [.tmp 33 true, .const (.int .i64 5)], some (31, true)⟩,
              ⟨some 35, .pick, [.tmp 31 true, .tmp 34 true, .const (.bool false)], none⟩,
              ⟨some 36, .move, [.tmp 35 true], none⟩,
              ⟨some 37, .fieldAddr 0, [.tmp 5 false], some (36, true)⟩,
              ⟨some 38, .loadF 2 false 1 false, [.tmp 37 true], some (36, true)⟩,
              ⟨some 39, .bin .neq, [.tmp 38 true, .const (.int .i64 6)], some (36, true)⟩,
              ⟨some 40, .pick, [.tmp 36 true, .tmp 39 true, .const (.bool false)], none⟩] none [32, 33, 37, 38])
            (.cond (.tmp 40 true) []
              (.region [
                ⟨some 41, .move, [.tmp 0 false], none⟩,
                ⟨some 42, .call 24, [.tmp 41 true, .const (.int .i64 2)], none⟩] none [42]) []
              .skip))
          (.seq
            (.region [
              ⟨some 43, .move, [.tmp 0 false], none⟩,
              ⟨some 44, .call 27, [.tmp 43 true, .const (.str [61])], none⟩] none [44])
            (.seq
              (.region [
                ⟨some 45, .move, [.tmp 0 false], none⟩,
                ⟨some 46, .call 58, [.tmp 45 true, .const (.int .i64 0)], none⟩,
                ⟨some 6, .allocF 3 [.int .i64 0, .int .i64 0, .str [], .str [], .int .i64 0, .nilSl, .int .i64 0, .int .i64 0, .int .i64 0, .int .i64 0, .int .i64 0], [], none⟩,
                ⟨none, .storeF 3 11, [.tmp 6 false, .tmp 46 true], none⟩] none [])
              (.seq
                (.region [
                  ⟨some 47, .move, [.tmp 0 true], none⟩,
                  ⟨some 48, .call 27, [.tmp 47 true, .const (.str [59])], none⟩] none [48])
                (.seq
                  (.seq
                    (.region [
                      ⟨some 49, .fieldAddr 0, [.tmp 5 false], none⟩,
                      ⟨some 50, .loadF 2 false 1 false, [.tmp 49 true], none⟩,
                      ⟨some 51, .bin .eql, [.tmp 50 true, .const (.int .i64 4)], none⟩] none [])
                    (.cond (.tmp 51 true) []
                      (.seq
                        (.region [
                          ⟨some 52, .fieldAddr 0, [.tmp 3 false], none⟩,
                          ⟨none, .storeF 0 1, [.tmp 52 true, .const (.int .i64 3)], none⟩] none [])
                        (.seq
                          (.region [
                            ⟨some 53, .fieldAddr 2, [.tmp 5 true], none⟩,
                            ⟨some 54, .loadF 2 false 1 false, [.tmp 53 true], none⟩,
                            ⟨some 55, .fieldAddr 1, [.tmp 3 false], none⟩,
                            ⟨none, .storeF 0 1, [.tmp 55 true, .tmp 54 true], none⟩] none [])
                          (.seq
                            (.region [
                              ⟨some 56, .loadF 3 true 11 false, [.tmp 6 true], none⟩,
                              ⟨some 57, .lit 11 1 [.int .i64 0, .int .i64 0, .str [], .str [], .int .i64 0, .nilSl, .int .i64 0, .int .i64 0, .int .i64 0, .int .i64 0, .int .i64 0] [0], [.tmp 56 true], none⟩,
                              ⟨some 58, .fieldAddr 4, [.tmp 3 false], none⟩,
                              ⟨none, .storeF 0 1, [.tmp 58 true, .tmp 57 true], none⟩] none [])
                            (.seq
                              (.region [
                                ⟨some 59, .loadF 0 true 9 false, [.tmp 3 true], none⟩,
                                ⟨none, .storeF 1 9, [.tmp 4 false, .tmp 59 true], none⟩] none [])
                              .ret)))) []
                      .skip))
                  (.seq
                    (.region [
                      ⟨some 60, .fieldAddr 0, [.tmp 3 false], none⟩,
                      ⟨none, .storeF 0 1, [.tmp 60 true, .const (.int .i64 4)], none⟩] none [])
                    (.seq
                      (.region [
                        ⟨some 61, .loadF 2 true 11 false, [.tmp 5 true], none⟩,
                        ⟨some 62, .loadF 3 true 11 false, [.tmp 6 true], none⟩,
                        ⟨some 63, .lit 11 2 [.int .i64 0, .int .i64 0, .str [], .str [], .int .i64 0, .nilSl, .int .i64 0, .int .i64 0, .int .i64 0, .int .i64 0, .int .i64 0] [0, 1], [.tmp 61 true, .tmp 62 true], none⟩,
                        ⟨some 64, .fieldAddr 4, [.tmp 3 false], none⟩,
                        ⟨none, .storeF 0 1, [.tmp 64 true, .tmp 63 true], none⟩] none [])
                      (.seq
                        (.region [
                          ⟨some 65, .loadF 0 true 9 false, [.tmp 3 true], none⟩,
                          ⟨none, .storeF 1 9, [.tmp 4 false, .tmp 65 true], none⟩] none [])
                        .ret))))))))))) }

/-- (*runrig/runrigref3.reader).unary -/

def s60 : SFunc := { fid := 60, mode := .scp, nparams := 1, nboxes := 3, clr := [], results := [.box 2 0 11 true], body :=
  (.seq
    (.region [
      ⟨some 2, .allocF 0 [.int .i64 0, .int .i64 0, .str [], .str [], .int .i64 0, .nilSl, .int .i64 0, .int .i64 0, .int .i64 0, .int .i64 0, .int .i64 0], [], none⟩] none [])
    (.seq
      (.region [
        ⟨some 6, .move, [.tmp 0 false], none⟩,
        ⟨some 7, .call 22, [.tmp 6 true], none⟩,
        ⟨some 3, .allocF 1 [.int .i64 0, .str [], .int .i64 0, .int .i64 0], [], none⟩,
        ⟨none, .storeF 1 4, [.tmp 3 false, .tmp 7 true], none⟩] none [])
      (.seq
        (.region [
          ⟨some 4, .move, [.const (.int .i64 0)], none⟩] none [4])
        (.seq
          (.block 0
            (.seq
              (.region [
                ⟨some 13, .move, [.tmp 0 false], none⟩,
                ⟨some 14, .call 23, [.tmp 13 true, .const (.str [45])], none⟩,
                ⟨some 12, .move, [.tmp 14 true], none⟩] none [])
              (.cond (.tmp 12 true) []
                (.region [
                  ⟨some 4, .move, [.const (.int .i64 12)], none⟩] none []) []
                (.seq
                  (.region [
                    ⟨some 16, .move, [.tmp 0 false], none⟩,
                    ⟨some 17, .call 23, [.tmp 16 true, .const (.str [33])], none⟩,
                    ⟨some 15, .move, [.tmp 17 true], none⟩] none [])
                  (.cond (.tmp 15 true) []
                    (.region [
                      ⟨some 4, .move, [.const (.int .i64 13)], none⟩] none []) [3]
                    (.seq
                      (.region [
                        ⟨some 8, .move, [.tmp 0 false], none⟩,
                        ⟨some 9, .move, [.tmp 0 true], none⟩,
                        ⟨some 10, .call 63, [.tmp 9 true], none⟩,
                        ⟨some 11, .call 62, [.tmp 8 true, .tmp 10 true], none⟩,
                        ⟨none, .storeF 0 11, [.tmp 2 false, .tmp 11 true], none⟩] none [])
                      .ret))))))
          (.seq
            (.region [
              ⟨some 18, .move, [.tmp 0 false], none⟩,
              ⟨some 19, .fieldAddr 1, [.tmp 3 false], none⟩,
              ⟨some 20, .loadF 1 false 1 false, [.tmp 19 true], none⟩,
              ⟨some 21, .call 54, [.tmp 18 true, .tmp 20 true], none⟩] none [21])
            (.seq
              (.region [
                ⟨some 22, .move, [.tmp 0 false], none⟩,
                ⟨some 23, .call 58, [.tmp 22 true, .const (.int .i64 5)], none⟩,
                ⟨some 5, .allocF 2 [.int .i64 0, .int .i64 0, .str [], .str [], .int .i64 0, .nilSl, .int .i64 0, .int .i64 0, .int .i64 0, .int .i64 0, .int .i64 0], [], none⟩,
                ⟨none, .storeF 2 11, [.tmp 5 false, .tmp 23 true], none⟩] none [])
              (.seq
                (.region [
                  ⟨some 24, .move, [.tmp 0 true], none⟩,
                  ⟨some 25, .nilCheck, [.tmp 24 false], none⟩,
                  ⟨some 26, .fieldAddr 2, [.tmp 25 true], none⟩,
                  ⟨some 27, .load false 1 false, [.tmp 26 true], none⟩,
                  ⟨some 28, .bin .sub, [.tmp 27 true, .const (.int .i64 1)], none⟩,
                  ⟨some 29, .nilCheck, [.tmp 24 true], none⟩,
                  ⟨some 30, .fieldAddr 2, [.tmp 29 true], none⟩,
                  ⟨none, .store 1, [.tmp 30 true, .tmp 28 true], none⟩] none [])
                (.seq
                  (.region [
                    ⟨some 31, .move, [.tmp 4 true], none⟩,
                    ⟨some 32, .loadF 2 true 11 false, [.tmp 5 true], none⟩,
                    ⟨some 33, .lit 11 1 [.int .i64 0, .int .i64 0, .str [], .str [], .int .i64 0, .nilSl, .int .i64 0, .int .i64 0, .int .i64 0, .int .i64 0, .int .i64 0] [0], [.tmp 32 true], none⟩,
                    ⟨some 34, .fieldAddr 3, [.tmp 3 true], none⟩,
                    ⟨some 35, .loadF 1 false 1 false, [.tmp 34 true], none⟩,
                    ⟨some 36, .build [.int .i64 0, .int .i64 0, .str [], .str [], .int .i64 0, .nilSl, .int .i64 0, .int .i64 0, .int .i64 0, .int .i64 0, .int .i64 0] [(0, 1), (5, 1), (6, 1)], [.tmp 31 true, .tmp 33 true, .tmp 35 true], none⟩,
                    ⟨none, .storeF 0 11, [.tmp 2 false, .tmp 36 true], none⟩] none [])
                  .ret)))))))) }

/-- runrig/runrigref3.level -/
def s61_l0 : SCode :=
  (.seq
    (.seq
      (.region [
        ⟨some 23, .move, [.tmp 7 false], none⟩,
        ⟨some 24, .move, [.tmp 5 false], none⟩,
        ⟨some 25, .move, [.tmp 0 false], none⟩,
        ⟨some 26, .indexAddr 1, [.tmp 24 true, .tmp 25 true], none⟩,
        ⟨some 27, .load false 1 false, [.tmp 26 true], none⟩,
        ⟨some 28, .len .sl, [.tmp 27 true], none⟩,
        ⟨some 29, .bin .lss, [.tmp 23 true, .tmp 28 true], none⟩] none [])
      (.cond (.tmp 29 true) []
        .skip [0, 3, 5, 6, 7]
        (.exit 0)))
    (.seq
      (.block 1
        (.seq
          (.region [
            ⟨some 32, .move, [.tmp 5 false], none⟩,
            ⟨some 33, .move, [.tmp 0 false], none⟩,
            ⟨some 34, .indexAddr 1, [.tmp 32 true, .tmp 33 true], none⟩,
            ⟨some 35, .load false 1 false, [.tmp 34 true], none⟩,
            ⟨some 36, .move, [.tmp 7 false], none⟩,
            ⟨some 37, .indexAddr 1, [.tmp 35 true, .tmp 36 true], none⟩,
            ⟨some 38, .load false 1 false, [.tmp 37 true], none⟩,
            ⟨some 39, .fieldAddr 1, [.tmp 3 false], none⟩,
            ⟨some 40, .loadF 0 false 1 false, [.tmp 39 true], none⟩,
            ⟨some 41, .bin .eql, [.tmp 38 true, .tmp 40 true], none⟩] (some []) [])
          (.cond (.tmp 41 true) [3, 5]
            (.seq
              (.region [
                ⟨some 42, .move, [.tmp 6 true], none⟩,
                ⟨some 43, .move, [.tmp 0 true], none⟩,
                ⟨some 44, .indexAddr 1, [.tmp 42 true, .tmp 43 true], none⟩,
                ⟨some 45, .load false 1 false, [.tmp 44 true], none⟩,
                ⟨some 46, .move, [.tmp 7 true], none⟩,
                ⟨some 47, .indexAddr 1, [.tmp 45 true, .tmp 46 true], none⟩,
                ⟨some 48, .load false 1 false, [.tmp 47 true], none⟩,
                ⟨some 4, .move, [.tmp 48 true], none⟩] none [])
              .ret) []
            .skip)))
      (.region [
        ⟨some 30, .move, [.tmp 7 true], none⟩,
        ⟨some 31, .bin .add, [.tmp 30 true, .const (.int .i64 1)], none⟩,
        ⟨some 7, .move, [.tmp 31 true], none⟩] none [])))
def s61 : SFunc := { fid := 61, mode := .pure, nparams := 2, nboxes := 1, clr := [], results := [.tmp 4 false], body :=
  (.seq
    (.region [
      ⟨some 3, .boxF 0 4, [.tmp 1 true], none⟩,
      ⟨some 4, .move, [.const (.int .i64 0)], none⟩] none [4])
    (.seq
      (.seq
        (.region [
          ⟨some 8, .fieldAddr 0, [.tmp 3 false], none⟩,
          ⟨some 9, .loadF 0 false 1 false, [.tmp 8 true], none⟩,
          ⟨some 10, .bin .neq, [.tmp 9 true, .const (.int .i64 4)], none⟩] none [])
        (.cond (.tmp 10 true) [0, 3]
          (.seq
            (.region [
              ⟨some 4, .move, [.const (.int .i64 0)], none⟩] none [])
            .ret) []
          .skip))
      (.seq
        (.region [
          ⟨some 11, .lit 1 1 [.str []] [0], [.const (.str [124, 124])], none⟩,
          ⟨some 12, .lit 1 1 [.str []] [0], [.const (.str [38, 38])], none⟩,
          ⟨some 13, .lit 1 4 [.str []] [0, 1, 2, 3], [.const (.str [60]), .const (.str [60, 61]), .const (.str [61, 61]), .const (.str [33, 61])], none⟩,
          ⟨some 14, .lit 1 2 [.str []] [0, 1], [.const (.str [43]), .const (.str [45])], none⟩,
          ⟨some 15, .lit 1 3 [.str []] [0, 1, 2], [.const (.str [42]), .const (.str [47]), .const (.str [37])], none⟩,
          ⟨some 16, .lit 1 5 [.nilSl] [0, 1, 2, 3, 4], [.tmp 11 true, .tmp 12 true, .tmp 13 true, .tmp 14 true, .tmp 15 true], none⟩,
          ⟨some 5, .move, [.tmp 16 true], none⟩] none [])
        (.seq
          (.region [
            ⟨some 17, .lit 1 1 [.int .i64 0] [0], [.const (.int .i64 24)], none⟩,
            ⟨some 18, .lit 1 1 [.int .i64 0] [0], [.const (.int .i64 23)], none⟩,
            ⟨some 19, .lit 1 4 [.int .i64 0] [0, 1, 2, 3], [.const (.int .i64 19), .const (.int .i64 20), .const (.int .i64 21), .const (.int .i64 22)], none⟩,
            ⟨some 20, .lit 1 2 [.int .i64 0] [0, 1], [.const (.int .i64 14), .const (.int .i64 15)], none⟩,
            ⟨some 21, .lit 1 3 [.int .i64 0] [0, 1, 2], [.const (.int .i64 16), .const (.int .i64 17), .const (.int .i64 18)], none⟩,
            ⟨some 22, .lit 1 5 [.nilSl] [0, 1, 2, 3, 4], [.tmp 17 true, .tmp 18 true, .tmp 19 true, .tmp 20 true, .tmp 21 true], none⟩,
            ⟨some 6, .move, [.tmp 22 true], none⟩] none [])
          (.seq
            (.seq
              (.region [
                ⟨some 7, .move, [.const (.int .i64 0)], none⟩] none [])
              (.block 0
                (.loop s61_l0)))
            (.seq
              (.region [
                ⟨some 4, .move, [.const (.int .i64 0)], none⟩] none [])
              .ret)))))) }

/-- (*runrig/runrigref3.reader).behind -/
def s62_l0 : SCode :=
  (.seq
    (.seq
      (.region [
        ⟨some 7, .move, [.tmp 0 false], none⟩,
        ⟨some 8, .call 23, [.tmp 7 true, .const (.str [46])], none⟩,
        ⟨some 9, .move, [.tmp 8 true], none⟩,
        ⟨some 10, .move, [.tmp 0 false], some (9, false)⟩,
        ⟨some 11, .call 23, [.tmp 10 true, .const (.str [91])], some (9, false)⟩,
        ⟨some 12, .pick, [.tmp 9 true, .const (.bool true), .tmp 11 true], none⟩] none [10])
      (.cond (.tmp 12 true) []
        .skip [0]
        (.exit 0)))
    (.block 1
      (.seq
        (.region [
          ⟨some 13, .move, [.tmp 0 false], none⟩,
          ⟨some 14, .call 22, [.tmp 13 true], none⟩,
          ⟨some 5, .allocF 2 [.int .i64 0, .str [], .int .i64 0, .int .i64 0], [], none⟩,
          ⟨none, .storeF 2 4, [.tmp 5 false, .tmp 14 true], none⟩] none [])
        (.seq
          (.seq
            (.region [
              ⟨some 15, .move, [.tmp 0 false], none⟩,
              ⟨some 16, .call 23, [.tmp 15 true, .const (.str [46])], none⟩] none [])
            (.cond (.tmp 16 true) []
              (.seq
                (.region [
                  ⟨some 17, .move, [.tmp 0 false], none⟩,
                  ⟨some 18, .nilCheck, [.tmp 17 false], none⟩,
                  ⟨some 19, .fieldAddr 1, [.tmp 18 true], none⟩,
                  ⟨some 20, .load false 1 false, [.tmp 19 true], none⟩,
                  ⟨some 21, .bin .add, [.tmp 20 true, .const (.int .i64 1)], none⟩,
                  ⟨some 22, .nilCheck, [.tmp 17 true], none⟩,
                  ⟨some 23, .fieldAddr 1, [.tmp 22 true], none⟩,
                  ⟨none, .store 1, [.tmp 23 true, .tmp 21 true], none⟩] none [])
                (.seq
                  (.region [
                    ⟨some 24, .move, [.tmp 0 false], none⟩,
                    ⟨some 25, .call 42, [.tmp 24 true], none⟩,
                    ⟨some 26, .loadF 0 true 11 false, [.tmp 3 false], none⟩,
                    ⟨some 27, .lit 11 1 [.int .i64 0, .int .i64 0, .str [], .str [], .int .i64 0, .nilSl, .int .i64 0, .int .i64 0, .int .i64 0, .int .i64 0, .int .i64 0] [0], [.tmp 26 true], none⟩,
                    ⟨some 28, .fieldAddr 3, [.tmp 5 true], none⟩,
                    ⟨some 29, .loadF 2 false 1 false, [.tmp 28 true], none⟩,
                    ⟨some 30, .build [.int .i64 0, .int .i64 0, .str [], .str [], .int .i64 0, .nilSl, .int .i64 0, .int .i64 0, .int .i64 0, .int .i64 0, .int .i64 0] [(0, 1), (2, 1), (5, 1), (6, 1)], [.const (.int .i64 5), .tmp 25 true, .tmp 27 true, .tmp 29 true], none⟩,
                    ⟨none, .storeF 0 11, [.tmp 3 false, .tmp 30 true], none⟩] (some []) [])
                  (.exit 1))) []
              .skip))
          (.seq
            (.region [
              ⟨some 31, .move, [.tmp 0 false], none⟩,
              ⟨some 32, .call 54, [.tmp 31 true, .const (.str [91])], none⟩] none [32])
            (.seq
              (.region [
                ⟨some 33, .move, [.tmp 0 false], none⟩,
                ⟨some 34, .call 58, [.tmp 33 true, .const (.int .i64 0)], none⟩,
                ⟨some 6, .allocF 3 [.int .i64 0, .int .i64 0, .str [], .str [], .int .i64 0, .nilSl, .int .i64 0, .int .i64 0, .int .i64 0, .int .i64 0, .int .i64 0], [], none⟩,
                ⟨none, .storeF 3 11, [.tmp 6 false, .tmp 34 true], none⟩] none [])
              (.seq
                (.region [
                  ⟨some 35, .move, [.tmp 0 false], none⟩,
                  ⟨some 36, .call 56, [.tmp 35 true, .const (.str [93])], none⟩] none [36])
                (.region [
                  ⟨some 37, .loadF 0 true 11 false, [.tmp 3 false], none⟩,
                  ⟨some 38, .loadF 3 true 11 false, [.tmp 6 true], none⟩,
                  ⟨some 39, .lit 11 2 [.int .i64 0, .int .i64 0, .str [], .str [], .int .i64 0, .nilSl, .int .i64 0, .int .i64 0, .int .i64 0, .int .i64 0, .int .i64 0] [0, 1], [.tmp 37 true, .tmp 38 true], none⟩,
                  ⟨some 40, .fieldAddr 3, [.tmp 5 true], none⟩,
                  ⟨some 41, .loadF 2 false 1 false, [.tmp 40 true], none⟩,
                  ⟨some 42, .build [.int .i64 0, .int .i64 0, .str [], .str [], .int .i64 0, .nilSl, .int .i64 0, .int .i64 0, .int .i64 0, .int .i64 0, .int .i64 0] [(0, 1), (5, 1), (6, 1)], [.const (.int .i64 6), .tmp 39 true, .tmp 41 true], none⟩,
                  ⟨none, .storeF 0 11, [.tmp 3 false, .tmp 42 true], none⟩] none []))))))))
def s62 : SFunc := { fid := 62, mode := .scp, nparams := 2, nboxes := 4, clr := [], results := [.box 4 1 11 true], body :=
  (.seq
    (.region [
      ⟨some 3, .boxF 0 11, [.tmp 1 true], none⟩,
      ⟨some 4, .allocF 1 [.int .i64 0, .int .i64 0, .str [], .str [], .int .i64 0, .nilSl, .int .i64 0, .int .i64 0, .int .i64 0, .int .i64 0, .int .i64 0], [], none⟩] none [])
    (.seq
      (.block 0
        (.loop s62_l0))
      (.seq
        (.region [
          ⟨some 43, .loadF 0 true 11 false, [.tmp 3 true], none⟩,
          ⟨none, .storeF 1 11, [.tmp 4 false, .tmp 43 true], none⟩] none [])
        .ret))) }

/-- (*runrig/runrigref3.reader).first -/

def s63 : SFunc := { fid := 63, mode := .scp, nparams := 1, nboxes := 2, clr := [], results := [.box 2 0 11 true], body :=
  (.seq
    (.region [
      ⟨some 2, .allocF 0 [.int .i64 0, .int .i64 0, .str [], .str [], .int .i64 0, .nilSl, .int .i64 0, .int .i64 0, .int .i64 0, .int .i64 0, .int .i64 0], [], none⟩] none [])
    (.seq
      (.region [
        ⟨some 6, .move, [.tmp 0 false], none⟩,
        ⟨some 7, .call 22, [.tmp 6 true], none⟩,
        ⟨some 3, .allocF 1 [.int .i64 0, .str [], .int .i64 0, .int .i64 0], [], none⟩,
        ⟨none, .storeF 1 4, [.tmp 3 false, .tmp 7 true], none⟩] none [])
      (.seq
        (.block 0
          (.seq
            (.region [
              ⟨some 9, .move, [.tmp 0 false], none⟩,
              ⟨some 10, .call 21, [.tmp 9 true], none⟩,
              ⟨some 11, .move, [.tmp 10 true], none⟩,
              ⟨some 12, .fieldAddr 0, [.tmp 3 false], some (11, true)⟩,
              ⟨some 13, .loadF 1 false 1 false, [.tmp 12 true], some (11, true)⟩,
              ⟨some 14, .bin .eql, [.tmp 13 true, .const (.int .i64 2)], some (11, true)⟩,
              ⟨some 15, .pick, [.tmp 11 true, .tmp 14 true, .const (.bool false)], none⟩,
              ⟨some 8, .move, [.tmp 15 true], none⟩] none [12, 13])
            (.cond (.tmp 8 true) []
              (.seq
                (.region [
                  ⟨some 16, .move, [.tmp 0 true], none⟩,
                  ⟨some 17, .nilCheck, [.tmp 16 false], none⟩,
                  ⟨some 18, .fieldAddr 1, [.tmp 17 true], none⟩,
                  ⟨some 19, .load false 1 false, [.tmp 18 true], none⟩,
                  ⟨some 20, .bin .add, [.tmp 19 true, .const (.int .i64 1)], none⟩,
                  ⟨some 21, .nilCheck, [.tmp 16 true], none⟩,
                  ⟨some 22, .fieldAddr 1, [.tmp 21 true], none⟩,
                  ⟨none, .store 1, [.tmp 22 true, .tmp 20 true], none⟩] none [])
                (.seq
                  (.region [
                    ⟨some 23, .fieldAddr 2, [.tmp 3 false], none⟩,
                    ⟨some 24, .loadF 1 false 1 false, [.tmp 23 true], none⟩,
                    ⟨some 25, .fieldAddr 3, [.tmp 3 true], none⟩,
                    ⟨some 26, .loadF 1 false 1 false, [.tmp 25 true], none⟩,
                    ⟨some 27, .build [.int .i64 0, .int .i64 0, .str [], .str [], .int .i64 0, .nilSl, .int .i64 0, .int .i64 0, .int .i64 0, .int .i64 0, .int .i64 0] [(0, 1), (1, 1), (6, 1)], [.const (.int .i64 1), .tmp 24 true, .tmp 26 true], none⟩,
                    ⟨none, .storeF 0 11, [.tmp 2 false, .tmp 27 true], none⟩] none [])
                  .ret)) []
              (.seq
                (.seq
                  (.region [
                    ⟨some 29, .move, [.tmp 0 false], none⟩,
                    ⟨some 30, .call 23, [.tmp 29 true, .const (.str [116, 114, 117, 101])], none⟩,
                    ⟨some 28, .move, [.tmp 30 true], none⟩] none [])
                  (.cond (.tmp 28 false) []
                    .skip [28]
                    (.region [
                      ⟨some 31, .move, [.tmp 0 false], none⟩,
                      ⟨some 32, .call 23, [.tmp 31 true, .const (.str [102, 97, 108, 115, 101])], none⟩,
                      ⟨some 28, .move, [.tmp 32 true], none⟩] none [])))
                (.cond (.tmp 28 true) []
                  (.seq
                    (.region [
                      ⟨some 33, .move, [.tmp 0 true], none⟩,
                      ⟨some 34, .nilCheck, [.tmp 33 false], none⟩,
                      ⟨some 35, .fieldAddr 1, [.tmp 34 true], none⟩,
                      ⟨some 36, .load false 1 false, [.tmp 35 true], none⟩,
                      ⟨some 37, .bin .add, [.tmp 36 true, .const (.int .i64 1)], none⟩,
                      ⟨some 38, .nilCheck, [.tmp 33 true], none⟩,
                      ⟨some 39, .fieldAddr 1, [.tmp 38 true], none⟩,
                      ⟨none, .store 1, [.tmp 39 true, .tmp 37 true], none⟩] none [])
                    (.seq
                      (.region [
                        ⟨some 4, .move, [.const (.int .i64 0)], none⟩] none [])
                      (.seq
                        (.seq
                          (.region [
                            ⟨some 40, .fieldAddr 1, [.tmp 3 false], none⟩,
                            ⟨some 41, .loadF 1 false 1 false, [.tmp 40 true], none⟩,
                            ⟨some 42, .bin .eql, [.tmp 41 true, .const (.str [116, 114, 117, 101])], none⟩] none [])
                          (.cond (.tmp 42 true) [4]
                            (.region [
                              ⟨some 4, .move, [.const (.int .i64 1)], none⟩] none []) []
                            .skip))
                        (.seq
                          (.region [
                            ⟨some 43, .move, [.tmp 4 true], none⟩,
                            ⟨some 44, .fieldAddr 3, [.tmp 3 true], none⟩,
                            ⟨some 45, .loadF 1 false 1 false, [.tmp 44 true], none⟩,
                            ⟨some 46, .build [.int .i64 0, .int .i64 0, .str [], .str [], .int .i64 0, .nilSl, .int .i64 0, .int .i64 0, .int .i64 0, .int .i64 0, .int .i64 0] [(0, 1), (1, 1), (6, 1)], [.const (.int .i64 2), .tmp 43 true, .tmp 45 true], none⟩,
                            ⟨none, .storeF 0 11, [.tmp 2 false, .tmp 46 true], none⟩] none [])
                          .ret)))) []
                  (.seq
                    (.region [
                      ⟨some 48, .move, [.tmp 0 false], none⟩,
                      ⟨some 49, .call 23, [.tmp 48 true, .const (.str [110, 117, 108, 108])], none⟩,
                      ⟨some 47, .move, [.tmp 49 true], none⟩] none [])
                    (.cond (.tmp 47 true) []
                      (.seq
                        (.region [
                          ⟨some 50, .move, [.tmp 0 false], none⟩,
                          ⟨some 51, .nilCheck, [.tmp 50 false], none⟩,
                          ⟨some 52, .fieldAddr 1, [.tmp 51 true], none⟩,
                          ⟨some 53, .load false 1 false, [.tmp 52 true], none⟩,
                          ⟨some 54, .bin .add, [.tmp 53 true, .const (.int .i64 1)], none⟩,
                          ⟨some 55, .nilCheck, [.tmp 50 true], none⟩,
                          ⟨some 56, .fieldAddr 1, [.tmp 55 true], none⟩,
                          ⟨none, .store 1, [.tmp 56 true, .tmp 54 true], none⟩] none [])
                        (.seq
                          (.region [
                            ⟨some 57, .move, [.tmp 0 true], none⟩,
                            ⟨some 58, .call 43, [.tmp 57 true], none⟩,
                            ⟨some 59, .fieldAddr 3, [.tmp 3 true], none⟩,
                            ⟨some 60, .loadF 1 false 1 false, [.tmp 59 true], none⟩,
                            ⟨some 61, .build [.int .i64 0, .int .i64 0, .str [], .str [], .int .i64 0, .nilSl, .int .i64 0, .int .i64 0, .int .i64 0, .int .i64 0, .int .i64 0] [(0, 1), (3, 2), (6, 1)], [.const (.int .i64 3), .tmp 58 true, .tmp 60 true], none⟩,
                            ⟨none, .storeF 0 11, [.tmp 2 false, .tmp 61 true], none⟩] (some []) [])
                          .ret)) []
                      (.seq
                        (.region [
                          ⟨some 63, .move, [.tmp 0 false], none⟩,
                          ⟨some 64, .call 23, [.tmp 63 true, .const (.str [110, 101, 119])], none⟩,
                          ⟨some 62, .move, [.tmp 64 true], none⟩] none [])
                        (.cond (.tmp 62 true) []
                          (.seq
                            (.region [
                              ⟨some 65, .move, [.tmp 0 false], none⟩,
                              ⟨some 66, .nilCheck, [.tmp 65 false], none⟩,
                              ⟨some 67, .fieldAddr 1, [.tmp 66 true], none⟩,
                              ⟨some 68, .load false 1 false, [.tmp 67 true], none⟩,
                              ⟨some 69, .bin .add, [.tmp 68 true, .const (.int .i64 1)], none⟩,
                              ⟨some 70, .nilCheck, [.tmp 65 true], none⟩,
                              ⟨some 71, .fieldAddr 1, [.tmp 70 true], none⟩,
                              ⟨none, .store 1, [.tmp 71 true, .tmp 69 true], none⟩] none [])
                            (.seq
                              (.region [
                                ⟨some 72, .move, [.tmp 0 true], none⟩,
                                ⟨some 73, .fieldAddr 3, [.tmp 3 true], none⟩,
                                ⟨some 74, .loadF 1 false 1 false, [.tmp 73 true], none⟩,
                                ⟨some 75, .call 64, [.tmp 72 true, .tmp 74 true], none⟩,
                                ⟨none, .storeF 0 11, [.tmp 2 false, .tmp 75 true], none⟩] none [])
                              .ret)) []
                          (.seq
                            (.region [
                              ⟨some 77, .move, [.tmp 0 false], none⟩,
                              ⟨some 78, .call 23, [.tmp 77 true, .const (.str [108, 101, 110])], none⟩,
                              ⟨some 76, .move, [.tmp 78 true], none⟩] none [])
                            (.cond (.tmp 76 true) []
                              (.seq
                                (.region [
                                  ⟨some 79, .move, [.tmp 0 false], none⟩,
                                  ⟨some 80, .nilCheck, [.tmp 79 false], none⟩,
                                  ⟨some 81, .fieldAddr 1, [.tmp 80 true], none⟩,
                                  ⟨some 82, .load false 1 false, [.tmp 81 true], none⟩,
                                  ⟨some 83, .bin .add, [.tmp 82 true, .const (.int .i64 1)], none⟩,
                                  ⟨some 84, .nilCheck, [.tmp 79 true], none⟩,
                                  ⟨some 85, .fieldAddr 1, [.tmp 84 true], none⟩,
                                  ⟨none, .store 1, [.tmp 85 true, .tmp 83 true], none⟩] none [])
                                (.seq
                                  (.region [
                                    ⟨some 86, .move, [.tmp 0 true], none⟩,
                                    ⟨some 87, .call 65, [.tmp 86 true], none⟩,
                                    ⟨some 88, .lit 11 1 [.int .i64 0, .int .i64 0, .str [], .str [], .int .i64 0, .nilSl, .int .i64 0, .int .i64 0, .int .i64 0, .int .i64 0, .int .i64 0] [0], [.tmp 87 true], none⟩,
                                    ⟨some 89, .fieldAddr 3, [.tmp 3 true], none⟩,
                                    ⟨some 90, .loadF 1 false 1 false, [.tmp 89 true], none⟩,
                                    ⟨some 91, .build [.int .i64 0, .int .i64 0, .str [], .str [], .int .i64 0, .nilSl, .int .i64 0, .int .i64 0, .int .i64 0, .int .i64 0, .int .i64 0] [(0, 1), (5, 1), (6, 1)], [.const (.int .i64 10), .tmp 88 true, .tmp 90 true], none⟩,
                                    ⟨none, .storeF 0 11, [.tmp 2 false, .tmp 91 true], none⟩] (some []) [])
                                  .ret)) []
                              (.seq
                                (.region [
                                  ⟨some 93, .move, [.tmp 0 false], none⟩,
                                  ⟨some 94, .call 23, [.tmp 93 true, .const (.str [114, 101, 97, 100])], none⟩,
                                  ⟨some 92, .move, [.tmp 94 true], none⟩] none [])
                                (.cond (.tmp 92 true) []
                                  (.seq
                                    (.region [
                                      ⟨some 95, .move, [.tmp 0 false], none⟩,
                                      ⟨some 96, .nilCheck, [.tmp 95 false], none⟩,
                                      ⟨some 97, .fieldAddr 1, [.tmp 96 true], none⟩,
                                      ⟨some 98, .load false 1 false, [.tmp 97 true], none⟩,
                                      ⟨some 99, .bin .add, [.tmp 98 true, .const (.int .i64 1)], none⟩,
                                      ⟨some 100, .nilCheck, [.tmp 95 true], none⟩,
                                      ⟨some 101, .fieldAddr 1, [.tmp 100 true], none⟩,
                                      ⟨none, .store 1, [.tmp 101 true, .tmp 99 true], none⟩] none [])
                                    (.seq
                                      (.region [
                                        ⟨some 102, .move, [.tmp 0 false], none⟩,
                                        ⟨some 103, .call 54, [.tmp 102 true, .const (.str [40])], none⟩] none [103])
                                      (.seq
                                        (.region [
                                          ⟨some 104, .move, [.tmp 0 true], none⟩,
                                          ⟨some 105, .call 56, [.tmp 104 true, .const (.str [41])], none⟩] none [105])
                                        (.seq
                                          (.region [
                                            ⟨some 106, .fieldAddr 3, [.tmp 3 true], none⟩,
                                            ⟨some 107, .loadF 1 false 1 false, [.tmp 106 true], none⟩,
                                            ⟨some 108, .build [.int .i64 0, .int .i64 0, .str [], .str [], .int .i64 0, .nilSl, .int .i64 0, .int .i64 0, .int .i64 0, .int .i64 0, .int .i64 0] [(0, 1), (6, 1)], [.const (.int .i64 11), .tmp 107 true], none⟩,
                                            ⟨none, .storeF 0 11, [.tmp 2 false, .tmp 108 true], none⟩] none [])
                                          .ret)))) []
                                  (.seq
                                    (.region [
                                      ⟨some 110, .move, [.tmp 0 false], none⟩,
                                      ⟨some 111, .call 23, [.tmp 110 true, .const (.str [40])], none⟩,
                                      ⟨some 109, .move, [.tmp 111 true], none⟩] none [])
                                    (.cond (.tmp 109 true) [3]
                                      (.seq
                                        (.region [
                                          ⟨some 112, .move, [.tmp 0 true], none⟩,
                                          ⟨some 113, .call 65, [.tmp 112 true], none⟩,
                                          ⟨none, .storeF 0 11, [.tmp 2 false, .tmp 113 true], none⟩] none [])
                                        .ret) []
                                      .skip)))))))))))))))
        (.seq
          (.region [
            ⟨some 114, .move, [.tmp 0 false], none⟩,
            ⟨some 115, .call 42, [.tmp 114 true], none⟩,
            ⟨some 5, .move, [.tmp 115 true], none⟩] none [])
          (.seq
            (.seq
              (.region [
                ⟨some 116, .move, [.tmp 0 false], none⟩,
                ⟨some 117, .call 23, [.tmp 116 true, .const (.str [40])], none⟩,
                ⟨some 118, .un .not, [.tmp 117 true], none⟩] none [])
              (.cond (.tmp 118 true) [0]
                (.seq
                  (.region [
                    ⟨some 119, .move, [.tmp 5 true], none⟩,
                    ⟨some 120, .fieldAddr 3, [.tmp 3 true], none⟩,
                    ⟨some 121, .loadF 1 false 1 false, [.tmp 120 true], none⟩,
                    ⟨some 122, .build [.int .i64 0, .int .i64 0, .str [], .str [], .int .i64 0, .nilSl, .int .i64 0, .int .i64 0, .int .i64 0, .int .i64 0, .int .i64 0] [(0, 1), (2, 1), (6, 1)], [.const (.int .i64 4), .tmp 119 true, .tmp 121 true], none⟩,
                    ⟨none, .storeF 0 11, [.tmp 2 false, .tmp 122 true], none⟩] none [])
                  .ret) []
                .skip))
            (.seq
              (.region [
                ⟨some 123, .move, [.tmp 5 true], none⟩,
                ⟨some 124, .move, [.tmp 0 true], none⟩,
                ⟨some 125, .call 66, [.tmp 124 true], none⟩,
                ⟨some 126, .fieldAddr 3, [.tmp 3 true], none⟩,
                ⟨some 127, .loadF 1 false 1 false, [.tmp 126 true], none⟩,
                ⟨some 128, .build [.int .i64 0, .int .i64 0, .str [], .str [], .int .i64 0, .nilSl, .int .i64 0, .int .i64 0, .int .i64 0, .int .i64 0, .int .i64 0] [(0, 1), (2, 1), (5, 1), (6, 1)], [.const (.int .i64 7), .tmp 123 true, .tmp 125 true, .tmp 127 true], none⟩,
                ⟨none, .storeF 0 11, [.tmp 2 false, .tmp 128 true], none⟩] (some []) [])
              .ret)))))) }

/-- (*runrig/runrigref3.reader).fresh -/

def s64 : SFunc := { fid := 64, mode := .scp, nparams := 2, nboxes := 2, clr := [], results := [.box 4 0 11 true], body :=
  (.seq
    (.region [
      ⟨some 4, .allocF 0 [.int .i64 0, .int .i64 0, .str [], .str [], .int .i64 0, .nilSl, .int .i64 0, .int .i64 0, .int .i64 0, .int .i64 0, .int .i64 0], [], none⟩] none [])
    (.seq
      (.seq
        (.region [
          ⟨some 6, .move, [.tmp 0 false], none⟩,
          ⟨some 7, .call 23, [.tmp 6 true, .const (.str [91])], none⟩,
          ⟨some 8, .un .not, [.tmp 7 true], none⟩] none [])
        (.cond (.tmp 8 true) []
          (.seq
            (.region [
              ⟨some 9, .move, [.tmp 0 true], none⟩,
              ⟨some 10, .call 42, [.tmp 9 true], none⟩,
              ⟨some 11, .build [.str [], .int .i64 0] [(0, 1)], [.tmp 10 true], none⟩,
              ⟨some 12, .move, [.tmp 1 true], none⟩,
              ⟨some 13, .build [.int .i64 0, .int .i64 0, .str [], .str [], .int .i64 0, .nilSl, .int .i64 0, .int .i64 0, .int .i64 0, .int .i64 0, .int .i64 0] [(0, 1), (3, 2), (6, 1)], [.const (.int .i64 8), .tmp 11 true, .tmp 12 true], none⟩,
              ⟨none, .storeF 0 11, [.tmp 4 false, .tmp 13 true], none⟩] none [])
            .ret) []
          .skip))
      (.seq
        (.region [
          ⟨some 14, .move, [.tmp 0 false], none⟩,
          ⟨some 15, .nilCheck, [.tmp 14 false], none⟩,
          ⟨some 16, .fieldAddr 1, [.tmp 15 true], none⟩,
          ⟨some 17, .load false 1 false, [.tmp 16 true], none⟩,
          ⟨some 18, .bin .add, [.tmp 17 true, .const (.int .i64 1)], none⟩,
          ⟨some 19, .nilCheck, [.tmp 14 true], none⟩,
          ⟨some 20, .fieldAddr 1, [.tmp 19 true], none⟩,
          ⟨none, .store 1, [.tmp 20 true, .tmp 18 true], none⟩] none [])
        (.seq
          (.region [
            ⟨some 21, .move, [.tmp 0 false], none⟩,
            ⟨some 22, .call 43, [.tmp 21 true], none⟩,
            ⟨some 5, .allocF 1 [.str [], .int .i64 0], [], none⟩,
            ⟨none, .storeF 1 2, [.tmp 5 false, .tmp 22 true], none⟩] none [])
          (.seq
            (.region [
              ⟨some 23, .move, [.tmp 0 false], none⟩,
              ⟨some 24, .call 27, [.tmp 23 true, .const (.str [93])], none⟩] none [24])
            (.seq
              (.region [
                ⟨some 25, .loadF 1 true 2 false, [.tmp 5 true], none⟩,
                ⟨some 26, .move, [.tmp 0 true], none⟩,
                ⟨some 27, .call 65, [.tmp 26 true], none⟩,
                ⟨some 28, .lit 11 1 [.int .i64 0, .int .i64 0, .str [], .str [], .int .i64 0, .nilSl, .int .i64 0, .int .i64 0, .int .i64 0, .int .i64 0, .int .i64 0] [0], [.tmp 27 true], none⟩,
                ⟨some 29, .move, [.tmp 1 true], none⟩,
                ⟨some 30, .build [.int .i64 0, .int .i64 0, .str [], .str [], .int .i64 0, .nilSl, .int .i64 0, .int .i64 0, .int .i64 0, .int .i64 0, .int .i64 0] [(0, 1), (3, 2), (5, 1), (6, 1)], [.const (.int .i64 9), .tmp 25 true, .tmp 28 true, .tmp 29 true], none⟩,
                ⟨none, .storeF 0 11, [.tmp 4 false, .tmp 30 true], none⟩] (some []) [])
              .ret)))))) }

/-- (*runrig/runrigref3.reader).inner -/

def s65 : SFunc := { fid := 65, mode := .scp, nparams := 1, nboxes := 2, clr := [], results := [.box 2 0 11 true], body :=
  (.seq
    (.region [
      ⟨some 2, .allocF 0 [.int .i64 0, .int .i64 0, .str [], .str [], .int .i64 0, .nilSl, .int .i64 0, .int .i64 0, .int .i64 0, .int .i64 0, .int .i64 0], [], none⟩] none [])
    (.seq
      (.region [
        ⟨some 4, .move, [.tmp 0 false], none⟩,
        ⟨some 5, .call 54, [.tmp 4 true, .const (.str [40])], none⟩] none [5])
      (.seq
        (.region [
          ⟨some 6, .move, [.tmp 0 false], none⟩,
          ⟨some 7, .call 58, [.tmp 6 true, .const (.int .i64 0)], none⟩,
          ⟨some 3, .allocF 1 [.int .i64 0, .int .i64 0, .str [], .str [], .int .i64 0, .nilSl, .int .i64 0, .int .i64 0, .int .i64 0, .int .i64 0, .int .i64 0], [], none⟩,
          ⟨none, .storeF 1 11, [.tmp 3 false, .tmp 7 true], none⟩] none [])
        (.seq
          (.region [
            ⟨some 8, .move, [.tmp 0 true], none⟩,
            ⟨some 9, .call 56, [.tmp 8 true, .const (.str [41])], none⟩] none [9])
          (.seq
            (.region [
              ⟨some 10, .loadF 1 true 11 false, [.tmp 3 true], none⟩,
              ⟨none, .storeF 0 11, [.tmp 2 false, .tmp 10 true], none⟩] none [])
            .ret))))) }

/-- (*runrig/runrigref3.reader).args -/
def s66_l0 : SCode :=
  (.seq
    (.seq
      (.region [
        ⟨some 15, .move, [.tmp 0 false], none⟩,
        ⟨some 16, .call 23, [.tmp 15 true, .const (.str [44])], none⟩] none [])
      (.cond (.tmp 16 true) []
        .skip []
        (.exit 0)))
    (.block 1
      (.seq
        (.region [
          ⟨some 17, .move, [.tmp 0 false], none⟩,
          ⟨some 18, .nilCheck, [.tmp 17 false], none⟩,
          ⟨some 19, .fieldAddr 1, [.tmp 18 true], none⟩,
          ⟨some 20, .load false 1 false, [.tmp 19 true], none⟩,
          ⟨some 21, .bin .add, [.tmp 20 true, .const (.int .i64 1)], none⟩,
          ⟨some 22, .nilCheck, [.tmp 17 true], none⟩,
          ⟨some 23, .fieldAddr 1, [.tmp 22 true], none⟩,
          ⟨none, .store 1, [.tmp 23 true, .tmp 21 true], none⟩] none [])
        (.region [
          ⟨some 24, .move, [.tmp 3 true], none⟩,
          ⟨some 25, .move, [.tmp 0 false], none⟩,
          ⟨some 26, .call 58, [.tmp 25 true, .const (.int .i64 0)], none⟩,
          ⟨some 27, .lit 11 1 [.int .i64 0, .int .i64 0, .str [], .str [], .int .i64 0, .nilSl, .int .i64 0, .int .i64 0, .int .i64 0, .int .i64 0, .int .i64 0] [0], [.tmp 26 true], none⟩,
          ⟨some 28, .append 11 120, [.tmp 24 true, .tmp 27 true], none⟩,
          ⟨some 3, .move, [.tmp 28 true], none⟩] none []))))
def s66 : SFunc := { fid := 66, mode := .scp, nparams := 1, nboxes := 0, clr := [], results := [.tmp 2 true], body :=
  (.seq
    (.region [
      ⟨some 2, .move, [.const (.nilSl)], none⟩] none [2])
    (.seq
      (.region [
        ⟨some 3, .move, [.const (.nilSl)], none⟩] none [])
      (.seq
        (.region [
          ⟨some 4, .move, [.tmp 0 false], none⟩,
          ⟨some 5, .call 54, [.tmp 4 true, .const (.str [40])], none⟩] none [5])
        (.seq
          (.seq
            (.region [
              ⟨some 6, .move, [.tmp 0 false], none⟩,
              ⟨some 7, .call 23, [.tmp 6 true, .const (.str [41])], none⟩] none [])
            (.cond (.tmp 7 true) [3]
              (.seq
                (.region [
                  ⟨some 8, .move, [.tmp 0 true], none⟩,
                  ⟨some 9, .call 56, [.tmp 8 true, .const (.str [41])], none⟩] none [9])
                (.seq
                  (.region [
                    ⟨some 2, .move, [.const (.nilSl)], none⟩] none [])
                  .ret)) []
              .skip))
          (.seq
            (.region [
              ⟨some 10, .move, [.tmp 3 true], none⟩,
              ⟨some 11, .move, [.tmp 0 false], none⟩,
              ⟨some 12, .call 58, [.tmp 11 true, .const (.int .i64 0)], none⟩,
              ⟨some 13, .lit 11 1 [.int .i64 0, .int .i64 0, .str [], .str [], .int .i64 0, .nilSl, .int .i64 0, .int .i64 0, .int .i64 0, .int .i64 0, .int .i64 0] [0], [.tmp 12 true], none⟩,
              ⟨some 14, .append 11 120, [.tmp 10 true, .tmp 13 true], none⟩,
              ⟨some 3, .move, [.tmp 14 true], none⟩] none [])
            (.seq
              (.block 0
                (.loop s66_l0))
              (.seq
                (.region [
                  ⟨some 29, .move, [.tmp 0 true], none⟩,
                  ⟨some 30, .call 56, [.tmp 29 true, .const (.str [41])], none⟩] none [30])
                (.seq
                  (.region [
                    ⟨some 31, .move, [.tmp 3 true], none⟩,
                    ⟨some 2, .move, [.tmp 31 true], none⟩] none [])
                  .ret)))))))) }

def tbl : List (Option SFunc) := [none, none, none, some s3, some s4, some s5, some s6, some s7, some s8, some s9, some s10, some s11, some s12, some s13, some s14, some s15, some s16, some s17, some s18, some s19, some s20, some s21, some s22, some s23, some s24, some s25, some s26, some s27, some s28, some s29, some s30, some s31, some s32, some s33, some s34, some s35, some s36, some s37, some s38, some s39, some s40, some s41, some s42, some s43, some s44, some s45, some s46, some s47, some s48, some s49, some s50, some s51, some s52, some s53, some s54, some s55, some s56, some s57, some s58, some s59, some s60, some s61, some s62, some s63, some s64, some s65, some s66, none, none, none, none, none, none, none, none, none, none, none, none, none, none, none, none]
def vtbl : List (Option SFunc) := []
def S : Nat → Option SFunc := tabS tbl vtbl
end Code7
