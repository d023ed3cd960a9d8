/- What the program's functions come to, by the evaluator's rules; the intermediate code. -/
import Derived.Test.YtlnpapkkcmbhmaaGreatDoorAc1
set_option linter.unusedSimpArgs false
set_option linter.unusedVariables false
namespace Go.Abs.Pr
open Go Go.Abs
def b159 : IC :=
  (.ops [i 4 (.p (.mov (.t 0))), i 5 (.p (.mki 2 (.t 4))), i 6 (.p (.mov (.t 1))), i 7 (.p (.mki 3 (.t 6))), i 8 (.call (.dir 199) [(.t 5), (.t 7)] false)])
def f159 : IFn := ⟨false, 9, [], b159⟩
def b160 : IC :=
  (.seq (.ops [i 2 (.p (.mov (.c (.int .i64 0))))])
  (.seq (.ops [i 3 (.p (.mov (.t 0))), i 4 (.p (.nilc (.t 3))), i 5 (.r (.load none (.t 4))), i 6 (.r (.len .sl (.t 5))), i 2 (.p (.mov (.t 6)))])
   .ret))
def f160 : IFn := ⟨false, 7, [.tm 2], b160⟩
def b161 : IC :=
  (.seq (.ops [i 2 (.p (.mov (.c (.int .i64 0))))])
  (.seq (.ops [i 6 (.p (.mov (.t 0))), i 7 (.p (.mki 2 (.t 6))), i 8 (.call (.dir 200) [(.t 7)] false), i 9 (.p (.asrt 3 true (.int .i64 0) (.t 8))), i 5 (.p (.mov (.t 9))), i 10 (.p (.ext 0 (.t 5))), i 11 (.p (.ext 1 (.t 5))), i 3 (.p (.mov (.t 10))), i 4 (.p (.mov (.t 11)))])
   (.seq (.ops [i 12 (.p (.mov (.t 3))), i 2 (.p (.mov (.t 12)))])
    .ret)))
def f161 : IFn := ⟨false, 13, [.tm 2], b161⟩
def b162 : IC :=
  (.seq (.ops [i 1 (.a (.box 2 (.t 0)) none), i 2 (.p (.mov (.c .nilp)))])
  (.seq (.ops [i 5 (.r (.load (some 2) (.t 1))), i 6 (.a (.mkm) none), i 7 (.p (.build [.nils, .nils, .nilm] [(0, 2, (.t 5)), (2, 1, (.t 6))])), i 8 (.a (.box 3 (.t 7)) none), i 3 (.a (.alloc [.nilp]) none), n (.w (.store 1 (.t 3) (.t 8)))])
   (.seq (.seq (.ops [i 9 (.r (.load none (.t 3))), i 10 (.call (.dir 201) [(.t 9)] false)])
     (.block 0
      (.rangeF (.t 10) [11]
       (.ops [i 4 (.p (.mov (.t 11)))])
       (.block 1
        (.ops [i 12 (.r (.load none (.t 3))), i 13 (.p (.nilc (.t 12))), i 14 (.p (.faddr 2 (.t 13))), i 15 (.r (.load none (.t 14))), i 16 (.p (.mov (.t 4))), n (.w (.mupd (.one .int) (.t 15) (.t 16) (.c (.bool true))))])))))
    (.seq (.ops [i 17 (.r (.load none (.t 3))), i 2 (.p (.mov (.t 17)))])
     .ret))))
def f162 : IFn := ⟨false, 18, [.tm 2], b162⟩
def b163 : IC :=
  (.seq (.ops [i 2 (.a (.box 1 (.t 0)) none), i 4 (.p (.mov (.c (.bool false))))])
  (.seq (.ops [i 5 (.p (.mov (.t 1))), i 6 (.p (.mkf 202 [] [(.t 2)])), i 7 (.call (.dir 57) [(.t 5), (.t 6)] false), i 8 (.p (.un .not (.t 7))), i 4 (.p (.mov (.t 8)))])
   .ret))
def f163 : IFn := ⟨true, 9, [.tm 4], b163⟩
def b164 : IC :=
  (.seq (.ops [i 4 (.p (.mov (.c .nils)))])
  (.seq (.seq (.ops [i 5 (.p (.mov (.t 1))), i 6 (.p (.bin .lss (.t 5) (.c (.int .i64 0))))])
    (.cond (.t 6)
     (.ops [i 7 (.p (.mki 1 (.c (.str [99, 97, 110, 110, 111, 116, 32, 98, 101, 32, 110, 101, 103, 97, 116, 105, 118, 101])))), n (.bad)])
     .skip))
   (.seq (.seq (.ops [i 8 (.p (.mov (.t 1))), i 9 (.p (.mov (.t 0))), i 10 (.p (.cap (.t 9))), i 11 (.p (.mov (.t 0))), i 12 (.r (.len .sl (.t 11))), i 13 (.p (.bin .sub (.t 10) (.t 12))), i 14 (.p (.bin .sub (.t 8) (.t 13))), i 1 (.p (.mov (.t 14)))])
     (.seq (.ops [i 15 (.p (.mov (.t 1))), i 16 (.p (.bin .gtr (.t 15) (.c (.int .i64 0))))])
      (.cond (.t 16)
       (.ops [i 17 (.p (.mov (.t 0))), i 18 (.p (.mov (.t 0))), i 19 (.p (.cap (.t 18))), i 20 (.p (.slice 3 (.t 17) none (some (.t 19)) none)), i 21 (.p (.mov (.t 1))), i 22 (.w (.appendZ [.int .i64 0, .nils, .int .i64 0] 40 (.t 20) (.t 21))), i 23 (.p (.mov (.t 0))), i 24 (.r (.len .sl (.t 23))), i 25 (.p (.slice 3 (.t 22) none (some (.t 24)) none)), i 0 (.p (.mov (.t 25)))])
       .skip)))
    (.seq (.ops [i 26 (.p (.mov (.t 0))), i 4 (.p (.mov (.t 26)))])
     .ret))))
def f164 : IFn := ⟨false, 27, [.tm 4], b164⟩
def b165 : IC :=
  (.seq (.ops [i 1 (.a (.box 3 (.t 0)) none), i 2 (.p (.mov (.c (.bool false))))])
  (.seq (.ops [i 3 (.r (.load (some 3) (.t 1))), i 4 (.call (.dir 102) [(.t 3), (.c (.int .i64 0))] false), i 5 (.p (.mov (.t 4))), ⟨some 6, some (5, false), .p (.faddr 2 (.t 1))⟩, ⟨some 7, some (5, false), .r (.load none (.t 6))⟩, ⟨some 8, some (5, false), .r (.len .sl (.t 7))⟩, ⟨some 9, some (5, false), .p (.bin .gtr (.t 8) (.c (.int .i64 0)))⟩, i 10 (.p (.pick (.t 5) (.c (.bool true)) (.t 9))), i 2 (.p (.mov (.t 10)))])
   .ret))
def f165 : IFn := ⟨true, 11, [.tm 2], b165⟩
def b166 : IC :=
  (.seq (.ops [i 6 (.p (.mov (.c (.int .i64 0))))])
  (.seq (.seq (.ops [i 10 (.p (.mov (.t 2))), i 11 (.p (.bin .lss (.t 10) (.c (.int .i64 0)))), i 12 (.p (.mov (.t 11))), ⟨some 13, some (12, false), .p (.mov (.t 2))⟩, ⟨some 14, some (12, false), .p (.mov (.t 1))⟩, ⟨some 15, some (12, false), .r (.len .sl (.t 14))⟩, ⟨some 16, some (12, false), .p (.bin .gtr (.t 13) (.t 15))⟩, i 17 (.p (.pick (.t 12) (.c (.bool true)) (.t 16)))])
    (.cond (.t 17)
     (.seq (.ops [i 6 (.p (.mov (.c (.int .i64 0))))])
      .ret)
     .skip))
   (.seq (.seq (.ops [i 18 (.p (.mov (.t 0))), i 19 (.r (.len .sl (.t 18))), i 20 (.p (.mov (.c (.int .i64 0))))])
     (.block 0
      (.loop
       (.seq (.ops [i 21 (.p (.bin .lss (.t 20) (.t 19)))])
        (.seq (.cond (.t 21)
          .skip
          (.exit 0))
         (.seq (.block 1
           (.seq (.ops [i 22 (.p (.iaddr 1 (.t 18) (.t 20))), i 23 (.r (.load none (.t 22))), i 8 (.p (.mov (.t 23)))])
            (.seq (.ops [i 24 (.p (.mov (.t 8))), i 25 (.p (.mov (.t 1))), i 26 (.p (.mov (.t 2))), i 27 (.p (.slice 1 (.t 25) (some (.t 26)) none none)), i 28 (.call (.dir 179) [(.t 24), (.t 27)] false), i 9 (.p (.mov (.t 28)))])
             (.seq (.ops [i 29 (.p (.mov (.t 9))), i 30 (.p (.mov (.t 8))), i 31 (.r (.len .sl (.t 30))), i 32 (.p (.bin .eql (.t 29) (.t 31)))])
              (.cond (.t 32)
               (.seq (.ops [i 33 (.p (.mov (.t 9))), i 6 (.p (.mov (.t 33)))])
                .ret)
               .skip)))))
          (.ops [i 34 (.p (.bin .add (.t 20) (.c (.int .i64 1)))), i 20 (.p (.mov (.t 34)))])))))))
    (.seq (.ops [i 6 (.p (.mov (.c (.int .i64 0))))])
     .ret))))
def f166 : IFn := ⟨true, 35, [.tm 6], b166⟩
def b178 : IC :=
  (.seq (.ops [i 3 (.a (.box 1 (.t 1)) none), i 4 (.p (.mov (.c (.bool false))))])
  (.seq (.ops [i 5 (.p (.mov (.t 0))), i 6 (.p (.mkf 210 [] [(.t 3)])), i 7 (.call (.dir 209) [(.t 5), (.t 6)] false), i 4 (.p (.mov (.t 7)))])
   .ret))
def f178 : IFn := ⟨true, 8, [.tm 4], b178⟩
def b179 : IC :=
  (.seq (.ops [i 4 (.p (.mov (.c (.int .i64 0))))])
  (.seq (.ops [i 8 (.p (.mov (.t 1))), i 9 (.p (.mov (.t 1))), i 10 (.r (.len .sl (.t 9))), i 11 (.p (.mov (.t 0))), i 12 (.r (.len .sl (.t 11))), i 13 (.p (.min (.t 10) [(.t 12)])), i 14 (.p (.mov (.t 1))), i 15 (.r (.len .sl (.t 14))), i 16 (.p (.mov (.t 0))), i 17 (.r (.len .sl (.t 16))), i 18 (.p (.min (.t 15) [(.t 17)])), i 19 (.p (.slice 1 (.t 8) none (some (.t 13)) (some (.t 18)))), i 1 (.p (.mov (.t 19)))])
   (.seq (.seq (.ops [i 20 (.p (.mov (.t 1))), i 21 (.r (.len .sl (.t 20))), i 22 (.p (.mov (.c (.int .i64 0))))])
     (.block 0
      (.loop
       (.seq (.ops [i 23 (.p (.bin .lss (.t 22) (.t 21)))])
        (.seq (.cond (.t 23)
          .skip
          (.exit 0))
         (.seq (.block 1
           (.seq (.ops [i 24 (.p (.mov (.t 22))), i 25 (.p (.iaddr 1 (.t 20) (.t 22))), i 26 (.r (.load none (.t 25))), i 5 (.p (.mov (.t 24))), i 6 (.p (.mov (.t 26)))])
            (.seq (.ops [i 27 (.p (.mov (.t 6))), i 28 (.p (.ci .i64 (.t 27))), i 7 (.p (.mov (.t 28)))])
             (.seq (.ops [i 29 (.p (.mov (.t 7))), i 30 (.p (.mov (.t 0))), i 31 (.p (.mov (.t 5))), i 32 (.p (.iaddr 2 (.t 30) (.t 31))), i 33 (.p (.faddr 0 (.t 32))), i 34 (.r (.load none (.t 33))), i 35 (.p (.bin .lss (.t 29) (.t 34))), i 36 (.p (.mov (.t 35))), ⟨some 37, some (36, false), .p (.mov (.t 7))⟩, ⟨some 38, some (36, false), .p (.mov (.t 0))⟩, ⟨some 39, some (36, false), .p (.mov (.t 5))⟩, ⟨some 40, some (36, false), .p (.iaddr 2 (.t 38) (.t 39))⟩, ⟨some 41, some (36, false), .p (.faddr 1 (.t 40))⟩, ⟨some 42, some (36, false), .r (.load none (.t 41))⟩, ⟨some 43, some (36, false), .p (.bin .gtr (.t 37) (.t 42))⟩, i 44 (.p (.pick (.t 36) (.c (.bool true)) (.t 43)))])
              (.cond (.t 44)
               (.seq (.ops [i 45 (.p (.mov (.t 5))), i 4 (.p (.mov (.t 45)))])
                .ret)
               .skip)))))
          (.ops [i 46 (.p (.bin .add (.t 22) (.c (.int .i64 1)))), i 22 (.p (.mov (.t 46)))])))))))
    (.seq (.ops [i 47 (.p (.mov (.t 1))), i 48 (.r (.len .sl (.t 47))), i 4 (.p (.mov (.t 48)))])
     .ret))))
def f179 : IFn := ⟨true, 49, [.tm 4], b179⟩
def b180 : IC :=
  (.seq (.ops [i 0 (.a (.alloc [.int .i64 0, .int .i64 0, .int .i64 0, .int .i64 0, .int .i64 0, .int .i64 0, .int .i64 0, .int .i64 0, .int .i64 0, .int .i64 0, .int .i64 0, .int .i64 0, .int .i64 0, .int .i64 0, .int .i64 0]) none)])
  (.seq (.ops [i 1 (.p (.build [.int .i64 0, .int .i64 0] [(0, 1, (.c (.int .i64 0))), (1, 1, (.c (.int .i64 127)))])), i 2 (.p (.build [.int .i64 0, .int .i64 0, .int .i64 0] [(0, 2, (.t 1)), (2, 1, (.c (.int .i64 0)))])), i 3 (.p (.build [.int .i64 0, .int .i64 0] [(0, 1, (.c (.int .i64 128))), (1, 1, (.c (.int .i64 2047)))])), i 4 (.p (.build [.int .i64 0, .int .i64 0, .int .i64 0] [(0, 2, (.t 3)), (2, 1, (.c (.int .i64 1)))])), i 5 (.p (.build [.int .i64 0, .int .i64 0] [(0, 1, (.c (.int .i64 2048))), (1, 1, (.c (.int .i64 55295)))])), i 6 (.p (.build [.int .i64 0, .int .i64 0, .int .i64 0] [(0, 2, (.t 5)), (2, 1, (.c (.int .i64 2)))])), i 7 (.p (.build [.int .i64 0, .int .i64 0] [(0, 1, (.c (.int .i64 57344))), (1, 1, (.c (.int .i64 65535)))])), i 8 (.p (.build [.int .i64 0, .int .i64 0, .int .i64 0] [(0, 2, (.t 7)), (2, 1, (.c (.int .i64 2)))])), i 9 (.p (.build [.int .i64 0, .int .i64 0] [(0, 1, (.c (.int .i64 65536))), (1, 1, (.c (.int .i64 1114111)))])), i 10 (.p (.build [.int .i64 0, .int .i64 0, .int .i64 0] [(0, 2, (.t 9)), (2, 1, (.c (.int .i64 3)))])), i 11 (.p (.build [.int .i64 0, .int .i64 0, .int .i64 0, .int .i64 0, .int .i64 0, .int .i64 0, .int .i64 0, .int .i64 0, .int .i64 0, .int .i64 0, .int .i64 0, .int .i64 0, .int .i64 0, .int .i64 0, .int .i64 0] [(0, 3, (.t 2)), (3, 3, (.t 4)), (6, 3, (.t 6)), (9, 3, (.t 8)), (12, 3, (.t 10))])), n (.w (.store 15 (.t 0) (.t 11)))])
   .ret))
def f180 : IFn := ⟨true, 12, [.cell (some 15) 0], b180⟩
def b181 : IC :=
  (.seq (.ops [i 4 (.p (.mov (.c .nils)))])
  (.seq (.ops [i 5 (.p (.mov (.t 0))), i 6 (.p (.mov (.t 1))), i 7 (.call (.dir 154) [(.t 5), (.t 6), (.c (.fn 211 [] []))] false), i 4 (.p (.mov (.t 7)))])
   .ret))
def f181 : IFn := ⟨true, 8, [.tm 4], b181⟩
def b182 : IC :=
  (.seq (.ops [i 4 (.p (.mov (.c .nils)))])
  (.seq (.ops [i 5 (.p (.mov (.c .nils)))])
   (.seq (.ops [i 10 (.p (.mov (.t 0))), i 11 (.p (.bin .shl (.c (.int .i64 1)) (.t 10))), i 12 (.p (.bin .sub (.t 11) (.c (.int .i64 1)))), i 6 (.p (.mov (.t 12)))])
    (.seq (.seq (.ops [i 13 (.p (.mov (.t 1))), i 14 (.r (.len .sl (.t 13))), i 15 (.p (.mov (.c (.int .i64 0))))])
      (.block 0
       (.loop
        (.seq (.ops [i 16 (.p (.bin .lss (.t 15) (.t 14)))])
         (.seq (.cond (.t 16)
           .skip
           (.exit 0))
          (.seq (.block 1
            (.seq (.ops [i 17 (.p (.iaddr 2 (.t 13) (.t 15))), i 18 (.r (.load (some 2) (.t 17))), i 8 (.a (.alloc [.int .i64 0, .int .i64 0]) none), n (.w (.store 2 (.t 8) (.t 18)))])
             (.seq (.seq (.dops 0 [] [i 19 (.p (.faddr 0 (.t 8))), i 20 (.r (.load none (.t 19))), i 21 (.p (.mov (.t 0))), i 22 (.p (.bin .shr (.t 20) (.t 21))), i 23 (.p (.faddr 1 (.t 8))), i 24 (.r (.load none (.t 23))), i 25 (.p (.mov (.t 0))), i 26 (.p (.bin .shr (.t 24) (.t 25))), i 27 (.p (.bin .eql (.t 22) (.t 26)))])
               (.cond (.t 27)
                (.seq (.ops [i 28 (.p (.mov (.t 5))), i 29 (.r (.load (some 2) (.t 8))), i 30 (.a (.bslice true [.int .i64 0, .int .i64 0] 1 [(0, (.t 29))]) none), i 31 (.w (.append 2 16 (.t 28) (.t 30))), i 5 (.p (.mov (.t 31)))])
                 (.exit 1))
                .skip))
              (.seq (.seq (.ops [i 32 (.p (.faddr 0 (.t 8))), i 33 (.r (.load none (.t 32))), i 34 (.p (.mov (.t 6))), i 35 (.p (.bin .and (.t 33) (.t 34))), i 36 (.p (.bin .neq (.t 35) (.c (.int .i64 0))))])
                (.cond (.t 36)
                 (.seq (.ops [i 37 (.p (.mov (.t 5))), i 38 (.p (.faddr 0 (.t 8))), i 39 (.r (.load none (.t 38))), i 40 (.p (.faddr 0 (.t 8))), i 41 (.r (.load none (.t 40))), i 42 (.p (.mov (.t 6))), i 43 (.p (.bin .or (.t 41) (.t 42))), i 44 (.p (.build [.int .i64 0, .int .i64 0] [(0, 1, (.t 39)), (1, 1, (.t 43))])), i 45 (.a (.bslice true [.int .i64 0, .int .i64 0] 1 [(0, (.t 44))]) none), i 46 (.w (.append 2 16 (.t 37) (.t 45))), i 5 (.p (.mov (.t 46)))])
                  (.ops [i 47 (.p (.faddr 0 (.t 8))), i 48 (.r (.load none (.t 47))), i 49 (.p (.mov (.t 6))), i 50 (.p (.bin .or (.t 48) (.t 49))), i 51 (.p (.bin .add (.t 50) (.c (.int .i64 1)))), i 52 (.p (.faddr 0 (.t 8))), n (.w (.store 1 (.t 52) (.t 51)))]))
                 .skip))
               (.seq (.ops [i 53 (.r (.load (some 2) (.t 8))), i 9 (.a (.alloc [.int .i64 0, .int .i64 0]) none), n (.w (.store 2 (.t 9) (.t 53)))])
                (.seq (.seq (.ops [i 54 (.p (.faddr 1 (.t 8))), i 55 (.r (.load none (.t 54))), i 56 (.p (.mov (.t 6))), i 57 (.p (.bin .and (.t 55) (.t 56))), i 58 (.p (.mov (.t 6))), i 59 (.p (.bin .neq (.t 57) (.t 58)))])
                  (.cond (.t 59)
                   (.ops [i 60 (.p (.faddr 1 (.t 8))), i 61 (.r (.load none (.t 60))), i 62 (.p (.mov (.t 6))), i 63 (.p (.bin .andNot (.t 61) (.t 62))), i 64 (.p (.bin .sub (.t 63) (.c (.int .i64 1)))), i 65 (.p (.faddr 1 (.t 8))), n (.w (.store 1 (.t 65) (.t 64)))])
                   .skip))
                 (.seq (.seq (.ops [i 66 (.p (.faddr 0 (.t 8))), i 67 (.r (.load none (.t 66))), i 68 (.p (.faddr 1 (.t 8))), i 69 (.r (.load none (.t 68))), i 70 (.p (.bin .leq (.t 67) (.t 69)))])
                   (.cond (.t 70)
                    (.ops [i 71 (.p (.mov (.t 5))), i 72 (.r (.load (some 2) (.t 8))), i 73 (.a (.bslice true [.int .i64 0, .int .i64 0] 1 [(0, (.t 72))]) none), i 74 (.w (.append 2 16 (.t 71) (.t 73))), i 5 (.p (.mov (.t 74)))])
                    .skip))
                  (.seq (.ops [i 75 (.p (.faddr 1 (.t 8))), i 76 (.r (.load none (.t 75))), i 77 (.p (.faddr 1 (.t 9))), i 78 (.r (.load none (.t 77))), i 79 (.p (.bin .lss (.t 76) (.t 78)))])
                   (.cond (.t 79)
                    (.ops [i 80 (.p (.mov (.t 5))), i 81 (.p (.faddr 1 (.t 8))), i 82 (.r (.load none (.t 81))), i 83 (.p (.bin .add (.t 82) (.c (.int .i64 1)))), i 84 (.p (.faddr 1 (.t 9))), i 85 (.r (.load none (.t 84))), i 86 (.p (.build [.int .i64 0, .int .i64 0] [(0, 1, (.t 83)), (1, 1, (.t 85))])), i 87 (.a (.bslice true [.int .i64 0, .int .i64 0] 1 [(0, (.t 86))]) none), i 88 (.w (.append 2 16 (.t 80) (.t 87))), i 5 (.p (.mov (.t 88)))])
                    .skip)))))))))
           (.ops [i 89 (.p (.bin .add (.t 15) (.c (.int .i64 1)))), i 15 (.p (.mov (.t 89)))])))))))
     (.seq (.ops [i 90 (.p (.mov (.t 5))), i 4 (.p (.mov (.t 90)))])
      .ret)))))
def f182 : IFn := ⟨true, 91, [.tm 4], b182⟩
def b183 : IC :=
  (.seq (.ops [i 1 (.a (.box 2 (.t 0)) none), i 2 (.p (.mov (.c .nils)))])
  (.seq (.ops [i 10 (.p (.faddr 0 (.t 1))), i 11 (.r (.load none (.t 10))), i 12 (.call (.dir 212) [(.t 11)] false), i 9 (.p (.mov (.t 12))), i 13 (.p (.ext 0 (.t 9))), i 14 (.p (.ext 1 (.t 9))), i 3 (.p (.mov (.t 13))), i 4 (.p (.mov (.t 14)))])
   (.seq (.ops [i 16 (.p (.faddr 1 (.t 1))), i 17 (.r (.load none (.t 16))), i 18 (.call (.dir 212) [(.t 17)] false), i 15 (.p (.mov (.t 18))), i 19 (.p (.ext 0 (.t 15))), i 20 (.p (.ext 1 (.t 15))), i 5 (.p (.mov (.t 19))), i 6 (.p (.mov (.t 20)))])
    (.seq (.ops [i 7 (.p (.mov (.c .nils)))])
     (.seq (.seq (.ops [i 21 (.p (.mov (.t 3))), i 22 (.r (.len .sl (.t 21))), i 23 (.p (.mov (.c (.int .i64 0))))])
       (.block 0
        (.loop
         (.seq (.ops [i 24 (.p (.bin .lss (.t 23) (.t 22)))])
          (.seq (.cond (.t 24)
            .skip
            (.exit 0))
           (.seq (.block 1
             (.seq (.ops [i 25 (.p (.mov (.t 23))), i 8 (.p (.mov (.t 25)))])
              (.dops 0 [] [i 26 (.p (.mov (.t 7))), i 27 (.p (.mov (.t 3))), i 28 (.p (.mov (.t 8))), i 29 (.p (.iaddr 1 (.t 27) (.t 28))), i 30 (.r (.load none (.t 29))), i 31 (.p (.ci .i64 (.t 30))), i 32 (.p (.mov (.t 5))), i 33 (.p (.mov (.t 8))), i 34 (.p (.iaddr 1 (.t 32) (.t 33))), i 35 (.r (.load none (.t 34))), i 36 (.p (.ci .i64 (.t 35))), i 37 (.p (.build [.int .i64 0, .int .i64 0] [(0, 1, (.t 31)), (1, 1, (.t 36))])), i 38 (.a (.bslice true [.int .i64 0, .int .i64 0] 1 [(0, (.t 37))]) none), i 39 (.w (.append 2 16 (.t 26) (.t 38))), i 7 (.p (.mov (.t 39)))])))
            (.ops [i 40 (.p (.bin .add (.t 23) (.c (.int .i64 1)))), i 23 (.p (.mov (.t 40)))])))))))
      (.seq (.ops [i 41 (.p (.mov (.t 7))), i 2 (.p (.mov (.t 41)))])
       .ret))))))
def f183 : IFn := ⟨true, 42, [.tm 2], b183⟩
def b186 : IC :=
  (.seq (.ops [i 4 (.p (.mov (.c (.int .i64 0))))])
  (.seq (.ops [i 5 (.p (.mov (.t 0))), i 6 (.p (.mov (.t 1))), i 7 (.call (.dir 214) [(.t 5), (.t 6)] false), i 4 (.p (.mov (.t 7)))])
   .ret))
def f186 : IFn := ⟨false, 8, [.tm 4], b186⟩
def b187 : IC :=
  (.seq (.ops [i 2 (.a (.box 1 (.t 0)) none), i 4 (.p (.mov (.c .nils)))])
  (.seq (.ops [i 5 (.a (.alloc [.nils]) none)])
   (.seq (.seq (.ops [i 9 (.p (.mov (.t 1))), i 10 (.call (.dir 215) [(.t 9)] false)])
     (.block 0
      (.rangeF (.t 10) [11, 12]
       (.seq (.ops [i 6 (.p (.mov (.t 11)))])
        (.ops [i 7 (.p (.mov (.t 12)))]))
       (.block 1
        (.seq (.seq (.ops [i 13 (.r (.load none (.t 2))), i 14 (.p (.mov (.t 6))), i 15 (.call (.val (.t 13)) [(.t 14)] false), i 16 (.p (.un .not (.t 15)))])
          (.cond (.t 16)
           (.exit 1)
           .skip))
         (.seq (.seq (.ops [i 17 (.r (.load none (.t 5))), i 18 (.r (.len .sl (.t 17))), i 19 (.p (.bin .sub (.t 18) (.c (.int .i64 1)))), i 8 (.p (.mov (.t 19)))])
           (.seq (.ops [i 20 (.p (.mov (.t 8))), i 21 (.p (.bin .geq (.t 20) (.c (.int .i64 0)))), i 22 (.p (.mov (.t 21))), ⟨some 23, some (22, true), .r (.load none (.t 5))⟩, ⟨some 24, some (22, true), .p (.mov (.t 8))⟩, ⟨some 25, some (22, true), .p (.iaddr 2 (.t 23) (.t 24))⟩, ⟨some 26, some (22, true), .p (.faddr 1 (.t 25))⟩, ⟨some 27, some (22, true), .r (.load none (.t 26))⟩, ⟨some 28, some (22, true), .p (.mov (.t 6))⟩, ⟨some 29, some (22, true), .p (.bin .sub (.t 28) (.c (.int .i64 1)))⟩, ⟨some 30, some (22, true), .p (.bin .eql (.t 27) (.t 29))⟩, i 31 (.p (.pick (.t 22) (.t 30) (.c (.bool false))))])
            (.cond (.t 31)
             (.seq (.ops [i 32 (.r (.load none (.t 5))), i 33 (.p (.mov (.t 8))), i 34 (.p (.mov (.t 7))), i 35 (.p (.iaddr 2 (.t 32) (.t 33))), i 36 (.p (.faddr 1 (.t 35))), n (.w (.store 1 (.t 36) (.t 34)))])
              (.exit 1))
             .skip)))
          (.ops [i 37 (.r (.load none (.t 5))), i 38 (.p (.mov (.t 6))), i 39 (.p (.mov (.t 7))), i 40 (.p (.build [.int .i64 0, .int .i64 0] [(0, 1, (.t 38)), (1, 1, (.t 39))])), i 41 (.a (.bslice true [.int .i64 0, .int .i64 0] 1 [(0, (.t 40))]) none), i 42 (.w (.append 2 16 (.t 37) (.t 41))), n (.w (.store 1 (.t 5) (.t 42)))])))))))
    (.seq (.ops [i 43 (.r (.load none (.t 5))), i 4 (.p (.mov (.t 43)))])
     .ret))))
def f187 : IFn := ⟨true, 44, [.tm 4], b187⟩
def b188 : IC :=
  (.seq (.ops [i 2 (.p (.mov (.c (.int .i64 0)))), i 3 (.p (.mov (.c (.bool false))))])
  (.seq (.ops [i 4 (.p (.mov (.t 0))), i 5 (.call (.dir 216) [(.t 4), (.c (.int .i64 1)), (.c (.int .i64 0))] false), i 6 (.p (.ext 0 (.t 5))), i 7 (.p (.ext 1 (.t 5))), i 2 (.p (.mov (.t 6))), i 3 (.p (.mov (.t 7)))])
   .ret))
def f188 : IFn := ⟨false, 8, [.tm 2, .tm 3], b188⟩
def b189 : IC :=
  (.seq (.ops [i 2 (.p (.mov (.c (.int .i64 0)))), i 3 (.p (.mov (.c (.bool false))))])
  (.seq (.ops [i 4 (.p (.mov (.t 0))), i 5 (.call (.dir 217) [] false), i 6 (.p (.idxA 5 1 false (.t 5) (.c (.int .i64 2)))), i 7 (.call (.dir 216) [(.t 4), (.c (.int .i64 2)), (.t 6)] false), i 8 (.p (.ext 0 (.t 7))), i 9 (.p (.ext 1 (.t 7))), i 2 (.p (.mov (.t 8))), i 3 (.p (.mov (.t 9)))])
   .ret))
def f189 : IFn := ⟨false, 10, [.tm 2, .tm 3], b189⟩
def b190 : IC :=
  (.seq (.ops [i 2 (.p (.mov (.c (.int .i64 0)))), i 3 (.p (.mov (.c (.bool false))))])
  (.seq (.ops [i 4 (.p (.mov (.t 0))), i 5 (.call (.dir 217) [] false), i 6 (.p (.idxA 5 1 false (.t 5) (.c (.int .i64 3)))), i 7 (.call (.dir 216) [(.t 4), (.c (.int .i64 3)), (.t 6)] false), i 8 (.p (.ext 0 (.t 7))), i 9 (.p (.ext 1 (.t 7))), i 2 (.p (.mov (.t 8))), i 3 (.p (.mov (.t 9)))])
   .ret))
def f190 : IFn := ⟨false, 10, [.tm 2, .tm 3], b190⟩
def b191 : IC :=
  (.seq (.ops [i 2 (.p (.mov (.c (.int .i64 0)))), i 3 (.p (.mov (.c (.bool false))))])
  (.seq (.ops [i 4 (.p (.mov (.t 0))), i 5 (.call (.dir 217) [] false), i 6 (.p (.idxA 5 1 false (.t 5) (.c (.int .i64 4)))), i 7 (.call (.dir 216) [(.t 4), (.c (.int .i64 4)), (.t 6)] false), i 8 (.p (.ext 0 (.t 7))), i 9 (.p (.ext 1 (.t 7))), i 2 (.p (.mov (.t 8))), i 3 (.p (.mov (.t 9)))])
   .ret))
def f191 : IFn := ⟨false, 10, [.tm 2, .tm 3], b191⟩
def b192 : IC :=
  (.seq (.ops [i 5 (.p (.mov (.c (.bool false))))])
  (.seq (.dops 0 [(0, 4), (0, 7), (4, 3)] [i 6 (.r (.load none (.t 1))), i 7 (.r (.load none (.t 2))), i 8 (.p (.mov (.t 0))), i 9 (.call (.val (.t 7)) [(.t 8)] false), i 10 (.r (.load none (.t 3))), i 11 (.p (.mov (.t 0))), i 12 (.call (.val (.t 10)) [(.t 11)] false), i 13 (.call (.val (.t 6)) [(.t 9), (.t 12)] false), i 5 (.p (.mov (.t 13)))])
   .ret))
def f192 : IFn := ⟨true, 14, [.tm 5], b192⟩
def b193 : IC :=
  (.seq (.ops [i 2 (.p (.mov (.c .nils)))])
  (.seq (.ops [i 3 (.p (.mov (.c (.int .i64 0))))])
   (.seq (.seq (.ops [i 9 (.p (.mov (.t 0))), i 10 (.r (.len .sl (.t 9))), i 11 (.p (.mov (.c (.int .i64 0))))])
     (.block 0
      (.loop
       (.seq (.ops [i 12 (.p (.bin .lss (.t 11) (.t 10)))])
        (.seq (.cond (.t 12)
          .skip
          (.exit 0))
         (.seq (.block 1
           (.seq (.ops [i 13 (.p (.iaddr 1 (.t 9) (.t 11))), i 14 (.r (.load none (.t 13))), i 5 (.p (.mov (.t 14)))])
            (.seq (.ops [i 15 (.p (.mov (.t 3))), i 16 (.p (.mov (.t 5))), i 17 (.r (.len .sl (.t 16))), i 18 (.p (.bin .add (.t 15) (.t 17))), i 3 (.p (.mov (.t 18)))])
             (.seq (.ops [i 19 (.p (.mov (.t 3))), i 20 (.p (.bin .lss (.t 19) (.c (.int .i64 0))))])
              (.cond (.t 20)
               (.ops [i 21 (.p (.mki 1 (.c (.str [108, 101, 110, 32, 111, 117, 116, 32, 111, 102, 32, 114, 97, 110, 103, 101])))), n (.bad)])
               .skip)))))
          (.ops [i 22 (.p (.bin .add (.t 11) (.c (.int .i64 1)))), i 11 (.p (.mov (.t 22)))])))))))
    (.seq (.ops [i 23 (.p (.mov (.t 3))), i 24 (.call (.dir 218) [(.c .nils), (.t 23)] false), i 6 (.p (.mov (.t 24)))])
     (.seq (.seq (.ops [i 25 (.p (.mov (.t 0))), i 26 (.r (.len .sl (.t 25))), i 27 (.p (.mov (.c (.int .i64 0))))])
       (.block 2
        (.loop
         (.seq (.ops [i 28 (.p (.bin .lss (.t 27) (.t 26)))])
          (.seq (.cond (.t 28)
            .skip
            (.exit 2))
           (.seq (.block 3
             (.seq (.ops [i 29 (.p (.iaddr 1 (.t 25) (.t 27))), i 30 (.r (.load none (.t 29))), i 8 (.p (.mov (.t 30)))])
              (.ops [i 31 (.p (.mov (.t 6))), i 32 (.p (.mov (.t 8))), i 33 (.w (.append 2 16 (.t 31) (.t 32))), i 6 (.p (.mov (.t 33)))])))
            (.ops [i 34 (.p (.bin .add (.t 27) (.c (.int .i64 1)))), i 27 (.p (.mov (.t 34)))])))))))
      (.seq (.ops [i 35 (.p (.mov (.t 6))), i 2 (.p (.mov (.t 35)))])
       .ret))))))
def f193 : IFn := ⟨true, 36, [.tm 2], b193⟩
def b197 : IC :=
  (.seq (.ops [i 2 (.a (.alloc [.int .i64 0, .str [], .nils, .nils, .int .i64 0]) none), i 3 (.p (.mov (.c (.bool false))))])
  (.seq (.ops [i 6 (.p (.mov (.t 0))), i 7 (.p (.mov (.t 0))), i 8 (.p (.nilc (.t 7))), i 9 (.p (.faddr 0 (.t 8))), i 10 (.r (.load none (.t 9))), i 11 (.p (.iaddr 4 (.t 10) (.c (.int .i64 0)))), i 12 (.p (.faddr 0 (.t 11))), i 13 (.r (.load none (.t 12))), i 14 (.call (.dir 48) [(.t 6), (.t 13), (.c (.str []))] false), i 4 (.a (.alloc [.int .i64 0, .str [], .nils, .int .i64 0]) none), n (.w (.store 4 (.t 4) (.t 14)))])
   (.seq (.ops [i 15 (.p (.build [.int .i64 0, .int .i64 0, .int .i64 0, .int .i64 0] [(0, 1, (.c (.int .i64 0))), (1, 1, (.c (.int .i64 1))), (2, 1, (.c (.int .i64 2))), (3, 1, (.c (.int .i64 3)))])), i 5 (.a (.alloc [.int .i64 0, .int .i64 0, .int .i64 0, .int .i64 0]) none), n (.w (.store 4 (.t 5) (.t 15)))])
    (.seq (.dops 0 [] [i 16 (.p (.faddr 0 (.t 4))), i 17 (.r (.load none (.t 16))), i 18 (.p (.iaddrA 4 1 (.t 5) (.t 17))), i 19 (.r (.load none (.t 18))), i 20 (.p (.faddr 1 (.t 4))), i 21 (.r (.load none (.t 20))), i 22 (.p (.faddr 2 (.t 4))), i 23 (.r (.load none (.t 22))), i 24 (.p (.faddr 3 (.t 4))), i 25 (.r (.load none (.t 24))), i 26 (.p (.build [.int .i64 0, .str [], .nils, .nils, .int .i64 0] [(0, 1, (.t 19)), (1, 1, (.t 21)), (2, 1, (.t 23)), (4, 1, (.t 25))])), n (.w (.store 5 (.t 2) (.t 26))), i 3 (.p (.mov (.c (.bool true))))])
     .ret))))
def f197 : IFn := ⟨false, 27, [.cell (some 5) 2, .tm 3], b197⟩
def b198 : IC :=
  (.seq (.ops [i 2 (.a (.alloc [.int .i64 0, .str [], .nils, .nils, .int .i64 0]) none), i 3 (.p (.mov (.c (.bool false))))])
  (.seq (.seq (.ops [i 5 (.p (.mov (.t 0))), i 6 (.call (.dir 49) [(.t 5), (.c (.int .i64 4)), (.c (.str [40]))] false), i 7 (.p (.un .not (.t 6)))])
    (.cond (.t 7)
     (.seq (.ops [i 8 (.p (.build [.int .i64 0, .str [], .nils, .nils, .int .i64 0] [])), n (.w (.store 5 (.t 2) (.t 8))), i 3 (.p (.mov (.c (.bool false))))])
      .ret)
     .skip))
   (.seq (.seq (.ops [i 9 (.p (.mov (.t 0))), i 10 (.p (.nilc (.t 9))), i 11 (.p (.faddr 2 (.t 10))), i 12 (.r (.load none (.t 11))), i 13 (.p (.bin .eql (.t 12) (.c (.int .i64 12))))])
     (.cond (.t 13)
      (.ops [i 14 (.p (.mov (.t 0))), i 15 (.call (.dir 50) [(.t 14), (.c (.int .i64 4))] false)])
      .skip))
    (.seq (.ops [i 16 (.p (.mov (.t 0))), i 17 (.call (.dir 47) [(.t 16), (.c (.str [40]))] false)])
     (.seq (.ops [i 18 (.p (.mov (.t 0))), i 19 (.p (.nilc (.t 18))), i 20 (.p (.faddr 2 (.t 19))), i 21 (.r (.load none (.t 20))), i 22 (.p (.bin .add (.t 21) (.c (.int .i64 1)))), i 23 (.p (.nilc (.t 18))), i 24 (.p (.faddr 2 (.t 23))), n (.w (.store 1 (.t 24) (.t 22)))])
      (.seq (.ops [i 25 (.p (.mov (.t 0))), i 26 (.call (.dir 52) [(.t 25)] false), i 4 (.a (.alloc [.int .i64 0, .str [], .nils, .nils, .int .i64 0]) none), n (.w (.store 5 (.t 4) (.t 26)))])
       (.seq (.ops [i 27 (.p (.mov (.t 0))), i 28 (.p (.nilc (.t 27))), i 29 (.p (.faddr 2 (.t 28))), i 30 (.r (.load none (.t 29))), i 31 (.p (.bin .sub (.t 30) (.c (.int .i64 1)))), i 32 (.p (.nilc (.t 27))), i 33 (.p (.faddr 2 (.t 32))), n (.w (.store 1 (.t 33) (.t 31)))])
        (.seq (.ops [i 34 (.p (.mov (.t 0))), i 35 (.call (.dir 48) [(.t 34), (.c (.int .i64 4)), (.c (.str [41]))] false)])
         (.seq (.ops [i 36 (.r (.load (some 5) (.t 4))), n (.w (.store 5 (.t 2) (.t 36))), i 3 (.p (.mov (.c (.bool true))))])
          .ret)))))))))
def f198 : IFn := ⟨false, 37, [.cell (some 5) 2, .tm 3], b198⟩
def b199 : IC :=
  (.seq (.ops [i 4 (.p (.mov (.t 0))), i 5 (.p (.mov (.t 1))), i 6 (.call (.inv (.t 4) "Push") [(.t 5)] false)])
  (.ops [i 7 (.p (.mov (.t 0))), i 8 (.p (.mov (.t 0))), i 9 (.call (.inv (.t 8) "Len") [] false), i 10 (.p (.bin .sub (.t 9) (.c (.int .i64 1)))), i 11 (.call (.dir 219) [(.t 7), (.t 10)] false)]))
def f199 : IFn := ⟨false, 12, [], b199⟩
def b200 : IC :=
  (.seq (.ops [i 2 (.p (.mov (.c .nili)))])
  (.seq (.ops [i 4 (.p (.mov (.t 0))), i 5 (.call (.inv (.t 4) "Len") [] false), i 6 (.p (.bin .sub (.t 5) (.c (.int .i64 1)))), i 3 (.p (.mov (.t 6)))])
   (.seq (.ops [i 7 (.p (.mov (.t 0))), i 8 (.p (.mov (.t 3))), i 9 (.call (.inv (.t 7) "Swap") [(.c (.int .i64 0)), (.t 8)] false)])
    (.seq (.ops [i 10 (.p (.mov (.t 0))), i 11 (.p (.mov (.t 3))), i 12 (.call (.dir 220) [(.t 10), (.c (.int .i64 0)), (.t 11)] false)])
     (.seq (.ops [i 13 (.p (.mov (.t 0))), i 14 (.call (.inv (.t 13) "Pop") [] false), i 2 (.p (.mov (.t 14)))])
      .ret)))))
def f200 : IFn := ⟨false, 15, [.tm 2], b200⟩
def b201 : IC :=
  (.seq (.ops [i 1 (.a (.box 1 (.t 0)) none), i 2 (.p (.mov (.c .nilf)))])
  (.seq (.ops [i 3 (.p (.mkf 221 [] [(.t 1)])), i 2 (.p (.mov (.t 3)))])
   .ret))
def f201 : IFn := ⟨false, 4, [.tm 2], b201⟩
def b202 : IC :=
  (.seq (.ops [i 2 (.a (.box 3 (.t 0)) none), i 3 (.p (.mov (.c (.bool false))))])
  (.seq (.dops 0 [] [i 4 (.p (.faddr 0 (.t 2))), i 5 (.r (.load none (.t 4))), i 6 (.p (.bin .neq (.t 5) (.c (.int .i64 2)))), i 7 (.p (.mov (.t 6))), ⟨some 8, some (7, false), .r (.load none (.t 1))⟩, ⟨some 9, some (7, false), .p (.nilc (.t 8))⟩, ⟨some 10, some (7, false), .p (.faddr 2 (.t 9))⟩, ⟨some 11, some (7, false), .r (.load none (.t 10))⟩, ⟨some 12, some (7, false), .p (.faddr 2 (.t 2))⟩, ⟨some 13, some (7, false), .r (.load none (.t 12))⟩, ⟨some 14, some (7, false), .r (.lookup (.one .int) (.bool false) false (.t 11) (.t 13))⟩, ⟨some 15, some (7, false), .p (.un .not (.t 14))⟩, i 16 (.p (.pick (.t 7) (.c (.bool true)) (.t 15))), i 3 (.p (.mov (.t 16)))])
   .ret))
def f202 : IFn := ⟨true, 17, [.tm 3], b202⟩
def b208 : IC :=
  (.seq (.ops [i 2 (.p (.mov (.c (.bool false))))])
  (.seq (.ops [i 3 (.p (.mov (.t 0))), i 4 (.p (.mov (.t 0))), i 5 (.p (.bin .neq (.t 3) (.t 4))), i 2 (.p (.mov (.t 5)))])
   .ret))
def f208 : IFn := ⟨false, 6, [.tm 2], b208⟩
def b209 : IC :=
  (.seq (.ops [i 4 (.p (.mov (.c (.bool false))))])
  (.seq (.ops [i 5 (.p (.mov (.t 0))), i 6 (.p (.mov (.t 1))), i 7 (.call (.dir 223) [(.t 5), (.t 6)] false), i 8 (.p (.bin .geq (.t 7) (.c (.int .i64 0)))), i 4 (.p (.mov (.t 8)))])
   .ret))
def f209 : IFn := ⟨true, 9, [.tm 4], b209⟩
def b210 : IC :=
  (.seq (.ops [i 2 (.a (.box 2 (.t 0)) none), i 3 (.p (.mov (.c (.bool false))))])
  (.seq (.ops [i 4 (.p (.faddr 0 (.t 2))), i 5 (.r (.load none (.t 4))), i 6 (.r (.load none (.t 1))), i 7 (.p (.bin .leq (.t 5) (.t 6))), i 8 (.p (.mov (.t 7))), ⟨some 9, some (8, true), .r (.load none (.t 1))⟩, ⟨some 10, some (8, true), .p (.faddr 1 (.t 2))⟩, ⟨some 11, some (8, true), .r (.load none (.t 10))⟩, ⟨some 12, some (8, true), .p (.bin .leq (.t 9) (.t 11))⟩, i 13 (.p (.pick (.t 8) (.t 12) (.c (.bool false)))), i 3 (.p (.mov (.t 13)))])
   .ret))
def f210 : IFn := ⟨true, 14, [.tm 3], b210⟩
def b211 : IC :=
  (.seq (.ops [i 4 (.p (.mov (.c (.bool false))))])
  (.seq (.ops [i 5 (.p (.mov (.t 0))), i 6 (.p (.mov (.t 5))), ⟨some 7, some (6, true), .p (.mov (.t 1))⟩, i 8 (.p (.pick (.t 6) (.t 7) (.c (.bool false)))), i 4 (.p (.mov (.t 8)))])
   .ret))
def f211 : IFn := ⟨true, 9, [.tm 4], b211⟩
def b212 : IC :=
  (.seq (.ops [i 2 (.p (.mov (.c .nils))), i 3 (.p (.mov (.c (.bool false))))])
  (.seq (.seq (.ops [i 7 (.p (.mov (.t 0))), i 8 (.call (.dir 152) [(.t 7)] false), i 9 (.p (.un .not (.t 8)))])
    (.cond (.t 9)
     (.seq (.ops [i 2 (.p (.mov (.c .nils))), i 3 (.p (.mov (.c (.bool false))))])
      .ret)
     .skip))
   (.seq (.ops [i 10 (.p (.mov (.t 0))), i 11 (.call (.dir 224) [(.t 10)] false), i 4 (.p (.mov (.t 11)))])
    (.seq (.ops [i 12 (.p (.mov (.t 4))), i 13 (.a (.mks [.int .u8 0] 1 (.t 12) (.t 12)) none), i 5 (.p (.mov (.t 13)))])
     (.seq (.seq (.ops [i 14 (.p (.mov (.t 4))), i 15 (.p (.bin .sub (.t 14) (.c (.int .i64 1)))), i 6 (.p (.mov (.t 15)))])
       (.block 0
        (.loop
         (.seq (.seq (.ops [i 16 (.p (.mov (.t 6))), i 17 (.p (.bin .gtr (.t 16) (.c (.int .i64 0))))])
           (.cond (.t 17)
            .skip
            (.exit 0)))
          (.seq (.block 1
            (.seq (.ops [i 20 (.p (.mov (.t 5))), i 21 (.p (.mov (.t 6))), i 22 (.p (.mov (.t 0))), i 23 (.p (.bin .and (.t 22) (.c (.int .i64 63)))), i 24 (.p (.bin .or (.c (.int .i64 128)) (.t 23))), i 25 (.p (.ci .u8 (.t 24))), i 26 (.p (.iaddr 1 (.t 20) (.t 21))), n (.w (.store 1 (.t 26) (.t 25)))])
             (.ops [i 27 (.p (.mov (.t 0))), i 28 (.p (.bin .shr (.t 27) (.c (.int .u64 6)))), i 0 (.p (.mov (.t 28)))])))
           (.ops [i 18 (.p (.mov (.t 6))), i 19 (.p (.bin .sub (.t 18) (.c (.int .i64 1)))), i 6 (.p (.mov (.t 19)))]))))))
      (.seq (.ops [i 29 (.p (.mov (.t 5))), i 30 (.call (.dir 217) [] false), i 31 (.p (.mov (.t 4))), i 32 (.p (.idxA 5 1 false (.t 30) (.t 31))), i 33 (.p (.mov (.t 0))), i 34 (.p (.bin .or (.t 32) (.t 33))), i 35 (.p (.ci .u8 (.t 34))), i 36 (.p (.iaddr 1 (.t 29) (.c (.int .i64 0)))), n (.w (.store 1 (.t 36) (.t 35)))])
       (.seq (.ops [i 37 (.p (.mov (.t 5))), i 2 (.p (.mov (.t 37))), i 3 (.p (.mov (.c (.bool true))))])
        .ret)))))))
def f212 : IFn := ⟨true, 38, [.tm 2, .tm 3], b212⟩
def b214 : IC :=
  (.seq (.ops [i 4 (.p (.mov (.c (.int .i64 0))))])
  (.seq (.ops [i 5 (.p (.mov (.t 0))), i 6 (.p (.mov (.t 1))), i 7 (.call (.dir 225) [(.t 5), (.t 6)] false), i 4 (.p (.mov (.t 7)))])
   .ret))
def f214 : IFn := ⟨false, 8, [.tm 4], b214⟩
def b215 : IC :=
  (.seq (.ops [i 2 (.p (.mov (.c .nilf)))])
  (.seq (.ops [i 6 (.a (.bslice false [.int .i64 0] 2 [(0, (.c (.int .i64 0))), (1, (.c (.int .i64 1114112)))]) none), i 3 (.a (.alloc [.nils]) none), n (.w (.store 1 (.t 3) (.t 6)))])
   (.seq (.seq (.ops [i 7 (.p (.mov (.t 0))), i 8 (.r (.len .sl (.t 7))), i 9 (.p (.mov (.c (.int .i64 0))))])
     (.block 0
      (.loop
       (.seq (.ops [i 10 (.p (.bin .lss (.t 9) (.t 8)))])
        (.seq (.cond (.t 10)
          .skip
          (.exit 0))
         (.seq (.block 1
           (.seq (.ops [i 11 (.p (.iaddr 2 (.t 7) (.t 9))), i 12 (.r (.load (some 2) (.t 11))), i 5 (.a (.alloc [.int .i64 0, .int .i64 0]) none), n (.w (.store 2 (.t 5) (.t 12)))])
            (.ops [i 13 (.r (.load none (.t 3))), i 14 (.p (.faddr 0 (.t 5))), i 15 (.r (.load none (.t 14))), i 16 (.p (.max (.t 15) [(.c (.int .i64 0))])), i 17 (.p (.min (.t 16) [(.c (.int .i64 1114112))])), i 18 (.p (.faddr 1 (.t 5))), i 19 (.r (.load none (.t 18))), i 20 (.p (.max (.t 19) [(.c (.int .i64 (-1)))])), i 21 (.p (.min (.t 20) [(.c (.int .i64 1114111))])), i 22 (.p (.bin .add (.t 21) (.c (.int .i64 1)))), i 23 (.a (.bslice false [.int .i64 0] 2 [(0, (.t 17)), (1, (.t 22))]) none), i 24 (.w (.append 1 8 (.t 13) (.t 23))), n (.w (.store 1 (.t 3) (.t 24)))])))
          (.ops [i 25 (.p (.bin .add (.t 9) (.c (.int .i64 1)))), i 9 (.p (.mov (.t 25)))])))))))
    (.seq (.ops [i 26 (.r (.load none (.t 3))), i 27 (.call (.dir 226) [(.t 26), (.c (.fn 227 [] []))] false)])
     (.seq (.ops [i 28 (.r (.load none (.t 3))), i 29 (.call (.dir 106) [(.t 28)] false), n (.w (.store 1 (.t 3) (.t 29)))])
      (.seq (.ops [i 30 (.p (.mkf 228 [] [(.t 3)])), i 2 (.p (.mov (.t 30)))])
       .ret))))))
def f215 : IFn := ⟨false, 31, [.tm 2], b215⟩
def b216 : IC :=
  (.seq (.ops [i 6 (.p (.mov (.c (.int .i64 0)))), i 7 (.p (.mov (.c (.bool false))))])
  (.seq (.seq (.ops [i 11 (.p (.mov (.t 1))), i 12 (.p (.mov (.t 0))), i 13 (.r (.len .sl (.t 12))), i 14 (.p (.bin .gtr (.t 11) (.t 13))), i 15 (.p (.mov (.t 14))), ⟨some 16, some (15, false), .p (.mov (.t 0))⟩, ⟨some 17, some (15, false), .p (.iaddr 1 (.t 16) (.c (.int .i64 0)))⟩, ⟨some 18, some (15, false), .r (.load none (.t 17))⟩, ⟨some 19, some (15, false), .p (.ci .i64 (.t 18))⟩, ⟨some 20, some (15, false), .p (.mov (.t 2))⟩, ⟨some 21, some (15, false), .p (.bin .lss (.t 19) (.t 20))⟩, i 22 (.p (.pick (.t 15) (.c (.bool true)) (.t 21)))])
    (.cond (.t 22)
     (.seq (.ops [i 6 (.p (.mov (.c (.int .i64 0)))), i 7 (.p (.mov (.c (.bool false))))])
      .ret)
     .skip))
   (.seq (.ops [i 23 (.p (.mov (.t 0))), i 24 (.p (.iaddr 1 (.t 23) (.c (.int .i64 0)))), i 25 (.r (.load none (.t 24))), i 26 (.p (.ci .i64 (.t 25))), i 27 (.p (.mov (.t 2))), i 28 (.p (.bin .sub (.t 26) (.t 27))), i 8 (.p (.mov (.t 28)))])
    (.seq (.seq (.ops [i 29 (.p (.mov (.t 0))), i 30 (.p (.mov (.t 1))), i 31 (.p (.slice 1 (.t 29) (some (.c (.int .i64 1))) (some (.t 30)) none)), i 32 (.r (.len .sl (.t 31))), i 33 (.p (.mov (.c (.int .i64 0))))])
      (.block 0
       (.loop
        (.seq (.ops [i 34 (.p (.bin .lss (.t 33) (.t 32)))])
         (.seq (.cond (.t 34)
           .skip
           (.exit 0))
          (.seq (.block 1
            (.seq (.ops [i 35 (.p (.iaddr 1 (.t 31) (.t 33))), i 36 (.r (.load none (.t 35))), i 10 (.p (.mov (.t 36)))])
             (.seq (.seq (.ops [i 37 (.p (.mov (.t 10))), i 38 (.p (.bin .andNot (.t 37) (.c (.int .u8 63)))), i 39 (.p (.bin .neq (.t 38) (.c (.int .u8 128))))])
               (.cond (.t 39)
                (.seq (.ops [i 6 (.p (.mov (.c (.int .i64 0)))), i 7 (.p (.mov (.c (.bool false))))])
                 .ret)
                .skip))
              (.ops [i 40 (.p (.mov (.t 8))), i 41 (.p (.bin .shl (.t 40) (.c (.int .u64 6)))), i 42 (.p (.mov (.t 10))), i 43 (.p (.bin .and (.t 42) (.c (.int .u8 63)))), i 44 (.p (.ci .i64 (.t 43))), i 45 (.p (.bin .or (.t 41) (.t 44))), i 8 (.p (.mov (.t 45)))]))))
           (.ops [i 46 (.p (.bin .add (.t 33) (.c (.int .i64 1)))), i 33 (.p (.mov (.t 46)))])))))))
     (.seq (.ops [i 47 (.p (.mov (.t 8))), i 48 (.p (.mov (.t 8))), i 49 (.call (.dir 152) [(.t 48)] false), i 50 (.p (.mov (.t 49))), ⟨some 51, some (50, true), .p (.mov (.t 8))⟩, ⟨some 52, some (50, true), .call (.dir 224) [(.t 51)] false⟩, ⟨some 53, some (50, true), .p (.mov (.t 1))⟩, ⟨some 54, some (50, true), .p (.bin .eql (.t 52) (.t 53))⟩, i 55 (.p (.pick (.t 50) (.t 54) (.c (.bool false)))), i 6 (.p (.mov (.t 47))), i 7 (.p (.mov (.t 55)))])
      .ret)))))
def f216 : IFn := ⟨true, 56, [.tm 6, .tm 7], b216⟩
def b217 : IC :=
  (.seq (.ops [i 0 (.a (.alloc [.int .i64 0, .int .i64 0, .int .i64 0, .int .i64 0, .int .i64 0]) none)])
  (.seq (.ops [i 1 (.p (.build [.int .i64 0, .int .i64 0, .int .i64 0, .int .i64 0, .int .i64 0] [(0, 1, (.c (.int .i64 0))), (1, 1, (.c (.int .i64 0))), (2, 1, (.c (.int .i64 192))), (3, 1, (.c (.int .i64 224))), (4, 1, (.c (.int .i64 240)))])), n (.w (.store 5 (.t 0) (.t 1)))])
   .ret))
def f217 : IFn := ⟨true, 2, [.cell (some 5) 0], b217⟩
def b218 : IC :=
  (.seq (.ops [i 4 (.p (.mov (.c .nils)))])
  (.seq (.seq (.ops [i 5 (.p (.mov (.t 1))), i 6 (.p (.bin .lss (.t 5) (.c (.int .i64 0))))])
    (.cond (.t 6)
     (.ops [i 7 (.p (.mki 1 (.c (.str [99, 97, 110, 110, 111, 116, 32, 98, 101, 32, 110, 101, 103, 97, 116, 105, 118, 101])))), n (.bad)])
     .skip))
   (.seq (.seq (.ops [i 8 (.p (.mov (.t 1))), i 9 (.p (.mov (.t 0))), i 10 (.p (.cap (.t 9))), i 11 (.p (.mov (.t 0))), i 12 (.r (.len .sl (.t 11))), i 13 (.p (.bin .sub (.t 10) (.t 12))), i 14 (.p (.bin .sub (.t 8) (.t 13))), i 1 (.p (.mov (.t 14)))])
     (.seq (.ops [i 15 (.p (.mov (.t 1))), i 16 (.p (.bin .gtr (.t 15) (.c (.int .i64 0))))])
      (.cond (.t 16)
       (.ops [i 17 (.p (.mov (.t 0))), i 18 (.p (.mov (.t 0))), i 19 (.p (.cap (.t 18))), i 20 (.p (.slice 2 (.t 17) none (some (.t 19)) none)), i 21 (.p (.mov (.t 1))), i 22 (.w (.appendZ [.int .i64 0, .int .i64 0] 16 (.t 20) (.t 21))), i 23 (.p (.mov (.t 0))), i 24 (.r (.len .sl (.t 23))), i 25 (.p (.slice 2 (.t 22) none (some (.t 24)) none)), i 0 (.p (.mov (.t 25)))])
       .skip)))
    (.seq (.ops [i 26 (.p (.mov (.t 0))), i 4 (.p (.mov (.t 26)))])
     .ret))))
def f218 : IFn := ⟨false, 27, [.tm 4], b218⟩
def b219 : IC :=
  (.block 0
  (.loop
   (.block 1
    (.seq (.ops [i 5 (.p (.mov (.t 1))), i 6 (.p (.bin .sub (.t 5) (.c (.int .i64 1)))), i 7 (.p (.bin .quo (.t 6) (.c (.int .i64 2)))), i 4 (.p (.mov (.t 7)))])
     (.seq (.seq (.ops [i 8 (.p (.mov (.t 4))), i 9 (.p (.mov (.t 1))), i 10 (.p (.bin .eql (.t 8) (.t 9))), i 11 (.p (.mov (.t 10))), ⟨some 12, some (11, false), .p (.mov (.t 0))⟩, ⟨some 13, some (11, false), .p (.mov (.t 1))⟩, ⟨some 14, some (11, false), .p (.mov (.t 4))⟩, ⟨some 15, some (11, false), .call (.inv (.t 12) "Less") [(.t 13), (.t 14)] false⟩, ⟨some 16, some (11, false), .p (.un .not (.t 15))⟩, i 17 (.p (.pick (.t 11) (.c (.bool true)) (.t 16)))])
       (.cond (.t 17)
        (.exit 0)
        .skip))
      (.seq (.ops [i 18 (.p (.mov (.t 0))), i 19 (.p (.mov (.t 4))), i 20 (.p (.mov (.t 1))), i 21 (.call (.inv (.t 18) "Swap") [(.t 19), (.t 20)] false)])
       (.ops [i 22 (.p (.mov (.t 4))), i 1 (.p (.mov (.t 22)))])))))))
def f219 : IFn := ⟨false, 23, [], b219⟩
def b220 : IC :=
  (.seq (.ops [i 6 (.p (.mov (.c (.bool false))))])
  (.seq (.ops [i 11 (.p (.mov (.t 1))), i 7 (.p (.mov (.t 11)))])
   (.seq (.block 0
     (.loop
      (.block 1
       (.seq (.ops [i 12 (.p (.mov (.t 7))), i 13 (.p (.bin .mul (.c (.int .i64 2)) (.t 12))), i 14 (.p (.bin .add (.t 13) (.c (.int .i64 1)))), i 8 (.p (.mov (.t 14)))])
        (.seq (.seq (.ops [i 15 (.p (.mov (.t 8))), i 16 (.p (.mov (.t 2))), i 17 (.p (.bin .geq (.t 15) (.t 16))), i 18 (.p (.mov (.t 17))), ⟨some 19, some (18, false), .p (.mov (.t 8))⟩, ⟨some 20, some (18, false), .p (.bin .lss (.t 19) (.c (.int .i64 0)))⟩, i 21 (.p (.pick (.t 18) (.c (.bool true)) (.t 20)))])
          (.cond (.t 21)
           (.exit 0)
           .skip))
         (.seq (.ops [i 22 (.p (.mov (.t 8))), i 9 (.p (.mov (.t 22)))])
          (.seq (.seq (.ops [i 23 (.p (.mov (.t 8))), i 24 (.p (.bin .add (.t 23) (.c (.int .i64 1)))), i 10 (.p (.mov (.t 24)))])
            (.seq (.ops [i 25 (.p (.mov (.t 10))), i 26 (.p (.mov (.t 2))), i 27 (.p (.bin .lss (.t 25) (.t 26))), i 28 (.p (.mov (.t 27))), ⟨some 29, some (28, true), .p (.mov (.t 0))⟩, ⟨some 30, some (28, true), .p (.mov (.t 10))⟩, ⟨some 31, some (28, true), .p (.mov (.t 8))⟩, ⟨some 32, some (28, true), .call (.inv (.t 29) "Less") [(.t 30), (.t 31)] false⟩, i 33 (.p (.pick (.t 28) (.t 32) (.c (.bool false))))])
             (.cond (.t 33)
              (.ops [i 34 (.p (.mov (.t 10))), i 9 (.p (.mov (.t 34)))])
              .skip)))
           (.seq (.seq (.ops [i 35 (.p (.mov (.t 0))), i 36 (.p (.mov (.t 9))), i 37 (.p (.mov (.t 7))), i 38 (.call (.inv (.t 35) "Less") [(.t 36), (.t 37)] false), i 39 (.p (.un .not (.t 38)))])
             (.cond (.t 39)
              (.exit 0)
              .skip))
            (.seq (.ops [i 40 (.p (.mov (.t 0))), i 41 (.p (.mov (.t 7))), i 42 (.p (.mov (.t 9))), i 43 (.call (.inv (.t 40) "Swap") [(.t 41), (.t 42)] false)])
             (.ops [i 44 (.p (.mov (.t 9))), i 7 (.p (.mov (.t 44)))]))))))))))
    (.seq (.ops [i 45 (.p (.mov (.t 7))), i 46 (.p (.mov (.t 1))), i 47 (.p (.bin .gtr (.t 45) (.t 46))), i 6 (.p (.mov (.t 47)))])
     .ret))))
def f220 : IFn := ⟨false, 48, [.tm 6], b220⟩
def b221 : IC :=
  (.seq (.ops [i 3 (.p (.mov (.c (.bool true))))])
  (.block 0
   (.loop
    (.seq (.seq (.ops [i 6 (.p (.mov (.t 3)))])
      (.cond (.t 6)
       .skip
       (.exit 0)))
     (.block 1
      (.seq (.ops [i 3 (.p (.mov (.c (.bool false))))])
       (.seq (.ops [i 7 (.r (.load none (.t 1))), i 8 (.p (.nilc (.t 7))), i 9 (.p (.faddr 0 (.t 8))), i 10 (.p (.faddr 0 (.t 9))), i 11 (.r (.load none (.t 10))), i 12 (.r (.len .sl (.t 11))), i 13 (.p (.mov (.c (.int .i64 0))))])
        (.block 2
         (.loop
          (.seq (.ops [i 14 (.p (.bin .lss (.t 13) (.t 12)))])
           (.seq (.cond (.t 14)
             .skip
             (.exit 2))
            (.seq (.block 3
              (.seq (.ops [i 15 (.p (.mov (.t 13))), i 16 (.p (.iaddr 3 (.t 11) (.t 13))), i 17 (.r (.load (some 3) (.t 16))), i 5 (.a (.alloc [.nils, .int .i64 0, .nils]) none), i 4 (.p (.mov (.t 15))), n (.w (.store 3 (.t 5) (.t 17)))])
               (.seq (.seq (.ops [i 18 (.r (.load none (.t 1))), i 19 (.p (.nilc (.t 18))), i 20 (.p (.faddr 2 (.t 19))), i 21 (.r (.load none (.t 20))), i 22 (.p (.mov (.t 4))), i 23 (.r (.lookup (.one .int) (.bool false) false (.t 21) (.t 22))), i 24 (.p (.mov (.t 23))), ⟨some 25, some (24, false), .p (.faddr 0 (.t 5))⟩, ⟨some 26, some (24, false), .r (.load none (.t 25))⟩, ⟨some 27, some (24, false), .r (.load none (.t 1))⟩, ⟨some 28, some (24, false), .p (.mkf 163 [(.t 27)] [])⟩, ⟨some 29, some (24, false), .call (.dir 59) [(.t 26), (.t 28)] false⟩, ⟨some 30, some (24, false), .p (.un .not (.t 29))⟩, i 31 (.p (.pick (.t 24) (.c (.bool true)) (.t 30)))])
                 (.cond (.t 31)
                  (.exit 3)
                  .skip))
                (.seq (.ops [i 3 (.p (.mov (.c (.bool true))))])
                 (.seq (.ops [i 32 (.p (.mov (.t 0))), i 33 (.p (.mov (.t 4))), i 34 (.call (.val (.t 32)) [(.t 33)] false), i 35 (.p (.un .not (.t 34)))])
                  (.cond (.t 35)
                   .ret
                   .skip))))))
             (.ops [i 36 (.p (.bin .add (.t 13) (.c (.int .i64 1)))), i 13 (.p (.mov (.t 36)))])))))))))))))
def f221 : IFn := ⟨false, 37, [], b221⟩
def b223 : IC :=
  (.seq (.ops [i 4 (.p (.mov (.c (.int .i64 0))))])
  (.seq (.seq (.ops [i 6 (.p (.mov (.t 0))), i 7 (.r (.len .sl (.t 6))), i 8 (.p (.mov (.c (.int .i64 0))))])
    (.block 0
     (.loop
      (.seq (.ops [i 9 (.p (.bin .lss (.t 8) (.t 7)))])
       (.seq (.cond (.t 9)
         .skip
         (.exit 0))
        (.seq (.block 1
          (.seq (.ops [i 10 (.p (.mov (.t 8))), i 5 (.p (.mov (.t 10)))])
           (.seq (.ops [i 11 (.p (.mov (.t 1))), i 12 (.p (.mov (.t 0))), i 13 (.p (.mov (.t 5))), i 14 (.p (.iaddr 2 (.t 12) (.t 13))), i 15 (.r (.load (some 2) (.t 14))), i 16 (.call (.val (.t 11)) [(.t 15)] false)])
            (.cond (.t 16)
             (.seq (.ops [i 17 (.p (.mov (.t 5))), i 4 (.p (.mov (.t 17)))])
              .ret)
             .skip))))
         (.ops [i 18 (.p (.bin .add (.t 8) (.c (.int .i64 1)))), i 8 (.p (.mov (.t 18)))])))))))
   (.seq (.ops [i 4 (.p (.mov (.c (.int .i64 (-1)))))])
    .ret)))
def f223 : IFn := ⟨true, 19, [.tm 4], b223⟩
def b224 : IC :=
  (.seq (.ops [i 2 (.p (.mov (.c (.int .i64 0))))])
  (.seq (.block 0
    (.seq (.ops [i 4 (.p (.mov (.t 0))), i 5 (.p (.bin .lss (.t 4) (.c (.int .i64 128)))), i 3 (.p (.mov (.t 5)))])
     (.cond (.t 3)
      (.seq (.ops [i 2 (.p (.mov (.c (.int .i64 1))))])
       .ret)
      (.seq (.ops [i 7 (.p (.mov (.t 0))), i 8 (.p (.bin .lss (.t 7) (.c (.int .i64 2048)))), i 6 (.p (.mov (.t 8)))])
       (.cond (.t 6)
        (.seq (.ops [i 2 (.p (.mov (.c (.int .i64 2))))])
         .ret)
        (.seq (.ops [i 10 (.p (.mov (.t 0))), i 11 (.p (.bin .lss (.t 10) (.c (.int .i64 65536)))), i 9 (.p (.mov (.t 11)))])
         (.cond (.t 9)
          (.seq (.ops [i 2 (.p (.mov (.c (.int .i64 3))))])
           .ret)
          .skip)))))))
   (.seq (.ops [i 2 (.p (.mov (.c (.int .i64 4))))])
    .ret)))
def f224 : IFn := ⟨true, 12, [.tm 2], b224⟩
def b227 : IC :=
  (.seq (.ops [i 4 (.p (.mov (.c (.int .i64 0))))])
  (.seq (.ops [i 7 (.p (.mov (.t 0))), i 8 (.call (.dir 208) [(.t 7)] false), i 5 (.p (.mov (.t 8)))])
   (.seq (.ops [i 9 (.p (.mov (.t 1))), i 10 (.call (.dir 208) [(.t 9)] false), i 6 (.p (.mov (.t 10)))])
    (.seq (.seq (.ops [i 11 (.p (.mov (.t 5)))])
      (.cond (.t 11)
       (.seq (.seq (.ops [i 12 (.p (.mov (.t 6)))])
         (.cond (.t 12)
          (.seq (.ops [i 4 (.p (.mov (.c (.int .i64 0))))])
           .ret)
          .skip))
        (.seq (.ops [i 4 (.p (.mov (.c (.int .i64 (-1)))))])
         .ret))
       .skip))
     (.seq (.seq (.ops [i 13 (.p (.mov (.t 6)))])
       (.cond (.t 13)
        (.seq (.ops [i 4 (.p (.mov (.c (.int .i64 1))))])
         .ret)
        .skip))
      (.seq (.seq (.ops [i 14 (.p (.mov (.t 0))), i 15 (.p (.mov (.t 1))), i 16 (.p (.bin .lss (.t 14) (.t 15)))])
        (.cond (.t 16)
         (.seq (.ops [i 4 (.p (.mov (.c (.int .i64 (-1)))))])
          .ret)
         .skip))
       (.seq (.seq (.ops [i 17 (.p (.mov (.t 0))), i 18 (.p (.mov (.t 1))), i 19 (.p (.bin .gtr (.t 17) (.t 18)))])
         (.cond (.t 19)
          (.seq (.ops [i 4 (.p (.mov (.c (.int .i64 1))))])
           .ret)
          .skip))
        (.seq (.ops [i 4 (.p (.mov (.c (.int .i64 0))))])
         .ret))))))))
def f227 : IFn := ⟨false, 20, [.tm 4], b227⟩
def b228 : IC :=
  (.seq (.ops [i 3 (.p (.mov (.c (.int .i64 1))))])
  (.block 0
   (.loop
    (.seq (.seq (.ops [i 4 (.p (.mov (.t 3))), i 5 (.r (.load none (.t 1))), i 6 (.r (.len .sl (.t 5))), i 7 (.p (.bin .lss (.t 4) (.t 6)))])
      (.cond (.t 7)
       .skip
       (.exit 0)))
     (.seq (.block 1
       (.seq (.dops 0 [] [i 10 (.p (.mov (.t 0))), i 11 (.r (.load none (.t 1))), i 12 (.p (.mov (.t 3))), i 13 (.p (.bin .sub (.t 12) (.c (.int .i64 1)))), i 14 (.p (.iaddr 1 (.t 11) (.t 13))), i 15 (.r (.load none (.t 14))), i 16 (.r (.load none (.t 1))), i 17 (.p (.mov (.t 3))), i 18 (.p (.iaddr 1 (.t 16) (.t 17))), i 19 (.r (.load none (.t 18))), i 20 (.p (.bin .sub (.t 19) (.c (.int .i64 1)))), i 21 (.call (.val (.t 10)) [(.t 15), (.t 20)] false), i 22 (.p (.un .not (.t 21)))])
        (.cond (.t 22)
         .ret
         .skip)))
      (.ops [i 8 (.p (.mov (.t 3))), i 9 (.p (.bin .add (.t 8) (.c (.int .i64 1)))), i 3 (.p (.mov (.t 9)))]))))))
def f228 : IFn := ⟨false, 23, [], b228⟩
def b258 : IC :=
  (.seq (.ops [i 6 (.p (.mov (.c (.bool false))))])
  (.seq (.dops 0 [] [i 7 (.p (.mov (.t 0))), i 8 (.p (.nilc (.t 7))), i 9 (.r (.load none (.t 8))), i 10 (.p (.mov (.t 1))), i 11 (.p (.iaddr 1 (.t 9) (.t 10))), i 12 (.r (.load none (.t 11))), i 13 (.p (.mov (.t 0))), i 14 (.p (.nilc (.t 13))), i 15 (.r (.load none (.t 14))), i 16 (.p (.mov (.t 2))), i 17 (.p (.iaddr 1 (.t 15) (.t 16))), i 18 (.r (.load none (.t 17))), i 19 (.p (.bin .lss (.t 12) (.t 18))), i 6 (.p (.mov (.t 19)))])
   .ret))
def f258 : IFn := ⟨false, 20, [.tm 6], b258⟩
def b259 : IC :=
  (.seq (.ops [i 2 (.p (.mov (.c .nili)))])
  (.seq (.ops [i 5 (.p (.mov (.t 0))), i 6 (.p (.nilc (.t 5))), i 7 (.r (.load none (.t 6))), i 8 (.r (.len .sl (.t 7))), i 9 (.p (.bin .sub (.t 8) (.c (.int .i64 1)))), i 3 (.p (.mov (.t 9)))])
   (.seq (.ops [i 10 (.p (.mov (.t 0))), i 11 (.p (.nilc (.t 10))), i 12 (.r (.load none (.t 11))), i 13 (.p (.mov (.t 3))), i 14 (.p (.iaddr 1 (.t 12) (.t 13))), i 15 (.r (.load none (.t 14))), i 4 (.p (.mov (.t 15)))])
    (.seq (.ops [i 16 (.p (.mov (.t 0))), i 17 (.p (.mov (.t 0))), i 18 (.p (.nilc (.t 17))), i 19 (.r (.load none (.t 18))), i 20 (.p (.mov (.t 3))), i 21 (.p (.slice 1 (.t 19) none (some (.t 20)) none)), i 22 (.p (.nilc (.t 16))), n (.w (.store 1 (.t 22) (.t 21)))])
     (.seq (.ops [i 23 (.p (.mov (.t 4))), i 24 (.p (.mki 3 (.t 23))), i 2 (.p (.mov (.t 24)))])
      .ret)))))
def f259 : IFn := ⟨false, 25, [.tm 2], b259⟩
def b260 : IC :=
  (.seq (.ops [i 7 (.p (.mov (.t 1))), i 8 (.p (.asrt 3 true (.int .i64 0) (.t 7))), i 6 (.p (.mov (.t 8))), i 9 (.p (.ext 0 (.t 6))), i 10 (.p (.ext 1 (.t 6))), i 4 (.p (.mov (.t 9))), i 5 (.p (.mov (.t 10)))])
  (.seq (.ops [i 11 (.p (.mov (.t 5)))])
   (.cond (.t 11)
    (.ops [i 12 (.p (.mov (.t 0))), i 13 (.p (.mov (.t 0))), i 14 (.p (.nilc (.t 13))), i 15 (.r (.load none (.t 14))), i 16 (.p (.mov (.t 4))), i 17 (.a (.bslice true [.int .i64 0] 1 [(0, (.t 16))]) none), i 18 (.w (.append 1 8 (.t 15) (.t 17))), i 19 (.p (.nilc (.t 12))), n (.w (.store 1 (.t 19) (.t 18)))])
    .skip)))
def f260 : IFn := ⟨false, 20, [], b260⟩
def b261 : IC :=
  (.dops 0 [] [i 6 (.p (.mov (.t 0))), i 7 (.p (.nilc (.t 6))), i 8 (.r (.load none (.t 7))), i 9 (.p (.mov (.t 1))), i 10 (.p (.mov (.t 0))), i 11 (.p (.nilc (.t 10))), i 12 (.r (.load none (.t 11))), i 13 (.p (.mov (.t 2))), i 14 (.p (.mov (.t 0))), i 15 (.p (.nilc (.t 14))), i 16 (.r (.load none (.t 15))), i 17 (.p (.mov (.t 2))), i 18 (.p (.iaddr 1 (.t 16) (.t 17))), i 19 (.r (.load none (.t 18))), i 20 (.p (.mov (.t 0))), i 21 (.p (.nilc (.t 20))), i 22 (.r (.load none (.t 21))), i 23 (.p (.mov (.t 1))), i 24 (.p (.iaddr 1 (.t 22) (.t 23))), i 25 (.r (.load none (.t 24))), i 26 (.p (.iaddr 1 (.t 8) (.t 9))), n (.w (.store 1 (.t 26) (.t 19))), i 27 (.p (.iaddr 1 (.t 12) (.t 13))), n (.w (.store 1 (.t 27) (.t 25)))])
def f261 : IFn := ⟨false, 28, [], b261⟩
end Go.Abs.Pr
namespace Go.Abs.Pr
open Go Go.Abs
def fns (i : Nat) : Option IFn := cond (Nat.blt i 115) (cond (Nat.blt i 64) (cond (Nat.blt i 33) (cond (Nat.blt i 16) (cond (Nat.blt i 10) (cond (Nat.blt i 6) (cond (Nat.blt i 5) (cond (Nat.beq i 3) (some f3) none) (cond (Nat.beq i 5) (some f5) none)) (cond (Nat.blt i 7) (cond (Nat.beq i 6) (some f6) none) (cond (Nat.blt i 9) (cond (Nat.beq i 7) (some f7) none) (cond (Nat.beq i 9) (some f9) none)))) (cond (Nat.blt i 12) (cond (Nat.blt i 11) (cond (Nat.beq i 10) (some f10) none) (cond (Nat.beq i 11) (some f11) none)) (cond (Nat.blt i 13) (cond (Nat.beq i 12) (some f12) none) (cond (Nat.blt i 15) (cond (Nat.beq i 13) (some f13) none) (cond (Nat.beq i 15) (some f15) none))))) (cond (Nat.blt i 27) (cond (Nat.blt i 18) (cond (Nat.blt i 17) (cond (Nat.beq i 16) (some f16) none) (cond (Nat.beq i 17) (some f17) none)) (cond (Nat.blt i 25) (cond (Nat.beq i 18) (some f18) none) (cond (Nat.blt i 26) (cond (Nat.beq i 25) (some f25) none) (cond (Nat.beq i 26) (some f26) none)))) (cond (Nat.blt i 30) (cond (Nat.blt i 28) (cond (Nat.beq i 27) (some f27) none) (cond (Nat.blt i 29) (cond (Nat.beq i 28) (some f28) none) (cond (Nat.beq i 29) (some f29) none))) (cond (Nat.blt i 31) (cond (Nat.beq i 30) (some f30) none) (cond (Nat.blt i 32) (cond (Nat.beq i 31) (some f31) none) (cond (Nat.beq i 32) (some f32) none)))))) (cond (Nat.blt i 53) (cond (Nat.blt i 47) (cond (Nat.blt i 44) (cond (Nat.blt i 34) (cond (Nat.beq i 33) (some f33) none) (cond (Nat.beq i 34) (some f34) none)) (cond (Nat.blt i 45) (cond (Nat.beq i 44) (some f44) none) (cond (Nat.blt i 46) (cond (Nat.beq i 45) (some f45) none) (cond (Nat.beq i 46) (some f46) none)))) (cond (Nat.blt i 50) (cond (Nat.blt i 48) (cond (Nat.beq i 47) (some f47) none) (cond (Nat.blt i 49) (cond (Nat.beq i 48) (some f48) none) (cond (Nat.beq i 49) (some f49) none))) (cond (Nat.blt i 51) (cond (Nat.beq i 50) (some f50) none) (cond (Nat.blt i 52) (cond (Nat.beq i 51) (some f51) none) (cond (Nat.beq i 52) (some f52) none))))) (cond (Nat.blt i 58) (cond (Nat.blt i 55) (cond (Nat.blt i 54) (cond (Nat.beq i 53) (some f53) none) (cond (Nat.beq i 54) (some f54) none)) (cond (Nat.blt i 56) (cond (Nat.beq i 55) (some f55) none) (cond (Nat.blt i 57) (cond (Nat.beq i 56) (some f56) none) (cond (Nat.beq i 57) (some f57) none)))) (cond (Nat.blt i 61) (cond (Nat.blt i 59) (cond (Nat.beq i 58) (some f58) none) (cond (Nat.blt i 60) (cond (Nat.beq i 59) (some f59) none) (cond (Nat.beq i 60) (some f60) none))) (cond (Nat.blt i 62) (cond (Nat.beq i 61) (some f61) none) (cond (Nat.blt i 63) (cond (Nat.beq i 62) (some f62) none) (cond (Nat.beq i 63) (some f63) none))))))) (cond (Nat.blt i 88) (cond (Nat.blt i 77) (cond (Nat.blt i 71) (cond (Nat.blt i 66) (cond (Nat.blt i 65) (cond (Nat.beq i 64) (some f64) none) (cond (Nat.beq i 65) (some f65) none)) (cond (Nat.blt i 67) (cond (Nat.beq i 66) (some f66) none) (cond (Nat.blt i 68) (cond (Nat.beq i 67) (some f67) none) (cond (Nat.beq i 68) (some f68) none)))) (cond (Nat.blt i 74) (cond (Nat.blt i 72) (cond (Nat.beq i 71) (some f71) none) (cond (Nat.blt i 73) (cond (Nat.beq i 72) (some f72) none) (cond (Nat.beq i 73) (some f73) none))) (cond (Nat.blt i 75) (cond (Nat.beq i 74) (some f74) none) (cond (Nat.blt i 76) (cond (Nat.beq i 75) (some f75) none) (cond (Nat.beq i 76) (some f76) none))))) (cond (Nat.blt i 82) (cond (Nat.blt i 79) (cond (Nat.blt i 78) (cond (Nat.beq i 77) (some f77) none) (cond (Nat.beq i 78) (some f78) none)) (cond (Nat.blt i 80) (cond (Nat.beq i 79) (some f79) none) (cond (Nat.blt i 81) (cond (Nat.beq i 80) (some f80) none) (cond (Nat.beq i 81) (some f81) none)))) (cond (Nat.blt i 85) (cond (Nat.blt i 83) (cond (Nat.beq i 82) (some f82) none) (cond (Nat.blt i 84) (cond (Nat.beq i 83) (some f83) none) (cond (Nat.beq i 84) (some f84) none))) (cond (Nat.blt i 86) (cond (Nat.beq i 85) (some f85) none) (cond (Nat.blt i 87) (cond (Nat.beq i 86) (some f86) none) (cond (Nat.beq i 87) (some f87) none)))))) (cond (Nat.blt i 99) (cond (Nat.blt i 93) (cond (Nat.blt i 90) (cond (Nat.blt i 89) (cond (Nat.beq i 88) (some f88) none) (cond (Nat.beq i 89) (some f89) none)) (cond (Nat.blt i 91) (cond (Nat.beq i 90) (some f90) none) (cond (Nat.blt i 92) (cond (Nat.beq i 91) (some f91) none) (cond (Nat.beq i 92) (some f92) none)))) (cond (Nat.blt i 96) (cond (Nat.blt i 94) (cond (Nat.beq i 93) (some f93) none) (cond (Nat.blt i 95) (cond (Nat.beq i 94) (some f94) none) (cond (Nat.beq i 95) (some f95) none))) (cond (Nat.blt i 97) (cond (Nat.beq i 96) (some f96) none) (cond (Nat.blt i 98) (cond (Nat.beq i 97) (some f97) none) (cond (Nat.beq i 98) (some f98) none))))) (cond (Nat.blt i 104) (cond (Nat.blt i 101) (cond (Nat.blt i 100) (cond (Nat.beq i 99) (some f99) none) (cond (Nat.beq i 100) (some f100) none)) (cond (Nat.blt i 102) (cond (Nat.beq i 101) (some f101) none) (cond (Nat.blt i 103) (cond (Nat.beq i 102) (some f102) none) (cond (Nat.beq i 103) (some f103) none)))) (cond (Nat.blt i 108) (cond (Nat.blt i 106) (cond (Nat.beq i 104) (some f104) none) (cond (Nat.blt i 107) (cond (Nat.beq i 106) (some f106) none) (cond (Nat.beq i 107) (some f107) none))) (cond (Nat.blt i 109) (cond (Nat.beq i 108) (some f108) none) (cond (Nat.blt i 110) (cond (Nat.beq i 109) (some f109) none) (cond (Nat.beq i 110) (some f110) none)))))))) (cond (Nat.blt i 164) (cond (Nat.blt i 137) (cond (Nat.blt i 126) (cond (Nat.blt i 120) (cond (Nat.blt i 117) (cond (Nat.blt i 116) (cond (Nat.beq i 115) (some f115) none) (cond (Nat.beq i 116) (some f116) none)) (cond (Nat.blt i 118) (cond (Nat.beq i 117) (some f117) none) (cond (Nat.blt i 119) (cond (Nat.beq i 118) (some f118) none) (cond (Nat.beq i 119) (some f119) none)))) (cond (Nat.blt i 123) (cond (Nat.blt i 121) (cond (Nat.beq i 120) (some f120) none) (cond (Nat.blt i 122) (cond (Nat.beq i 121) (some f121) none) (cond (Nat.beq i 122) (some f122) none))) (cond (Nat.blt i 124) (cond (Nat.beq i 123) (some f123) none) (cond (Nat.blt i 125) (cond (Nat.beq i 124) (some f124) none) (cond (Nat.beq i 125) (some f125) none))))) (cond (Nat.blt i 131) (cond (Nat.blt i 128) (cond (Nat.blt i 127) (cond (Nat.beq i 126) (some f126) none) (cond (Nat.beq i 127) (some f127) none)) (cond (Nat.blt i 129) (cond (Nat.beq i 128) (some f128) none) (cond (Nat.blt i 130) (cond (Nat.beq i 129) (some f129) none) (cond (Nat.beq i 130) (some f130) none)))) (cond (Nat.blt i 134) (cond (Nat.blt i 132) (cond (Nat.beq i 131) (some f131) none) (cond (Nat.blt i 133) (cond (Nat.beq i 132) (some f132) none) (cond (Nat.beq i 133) (some f133) none))) (cond (Nat.blt i 135) (cond (Nat.beq i 134) (some f134) none) (cond (Nat.blt i 136) (cond (Nat.beq i 135) (some f135) none) (cond (Nat.beq i 136) (some f136) none)))))) (cond (Nat.blt i 152) (cond (Nat.blt i 144) (cond (Nat.blt i 139) (cond (Nat.blt i 138) (cond (Nat.beq i 137) (some f137) none) (cond (Nat.beq i 138) (some f138) none)) (cond (Nat.blt i 140) (cond (Nat.beq i 139) (some f139) none) (cond (Nat.blt i 141) (cond (Nat.beq i 140) (some f140) none) (cond (Nat.beq i 141) (some f141) none)))) (cond (Nat.blt i 149) (cond (Nat.blt i 145) (cond (Nat.beq i 144) (some f144) none) (cond (Nat.blt i 146) (cond (Nat.beq i 145) (some f145) none) (cond (Nat.beq i 146) (some f146) none))) (cond (Nat.blt i 150) (cond (Nat.beq i 149) (some f149) none) (cond (Nat.blt i 151) (cond (Nat.beq i 150) (some f150) none) (cond (Nat.beq i 151) (some f151) none))))) (cond (Nat.blt i 158) (cond (Nat.blt i 154) (cond (Nat.blt i 153) (cond (Nat.beq i 152) (some f152) none) (cond (Nat.beq i 153) (some f153) none)) (cond (Nat.blt i 155) (cond (Nat.beq i 154) (some f154) none) (cond (Nat.blt i 156) (cond (Nat.beq i 155) (some f155) none) (cond (Nat.beq i 156) (some f156) none)))) (cond (Nat.blt i 161) (cond (Nat.blt i 159) (cond (Nat.beq i 158) (some f158) none) (cond (Nat.blt i 160) (cond (Nat.beq i 159) (some f159) none) (cond (Nat.beq i 160) (some f160) none))) (cond (Nat.blt i 162) (cond (Nat.beq i 161) (some f161) none) (cond (Nat.blt i 163) (cond (Nat.beq i 162) (some f162) none) (cond (Nat.beq i 163) (some f163) none))))))) (cond (Nat.blt i 202) (cond (Nat.blt i 188) (cond (Nat.blt i 180) (cond (Nat.blt i 166) (cond (Nat.blt i 165) (cond (Nat.beq i 164) (some f164) none) (cond (Nat.beq i 165) (some f165) none)) (cond (Nat.blt i 178) (cond (Nat.beq i 166) (some f166) none) (cond (Nat.blt i 179) (cond (Nat.beq i 178) (some f178) none) (cond (Nat.beq i 179) (some f179) none)))) (cond (Nat.blt i 183) (cond (Nat.blt i 181) (cond (Nat.beq i 180) (some f180) none) (cond (Nat.blt i 182) (cond (Nat.beq i 181) (some f181) none) (cond (Nat.beq i 182) (some f182) none))) (cond (Nat.blt i 186) (cond (Nat.beq i 183) (some f183) none) (cond (Nat.blt i 187) (cond (Nat.beq i 186) (some f186) none) (cond (Nat.beq i 187) (some f187) none))))) (cond (Nat.blt i 193) (cond (Nat.blt i 190) (cond (Nat.blt i 189) (cond (Nat.beq i 188) (some f188) none) (cond (Nat.beq i 189) (some f189) none)) (cond (Nat.blt i 191) (cond (Nat.beq i 190) (some f190) none) (cond (Nat.blt i 192) (cond (Nat.beq i 191) (some f191) none) (cond (Nat.beq i 192) (some f192) none)))) (cond (Nat.blt i 199) (cond (Nat.blt i 197) (cond (Nat.beq i 193) (some f193) none) (cond (Nat.blt i 198) (cond (Nat.beq i 197) (some f197) none) (cond (Nat.beq i 198) (some f198) none))) (cond (Nat.blt i 200) (cond (Nat.beq i 199) (some f199) none) (cond (Nat.blt i 201) (cond (Nat.beq i 200) (some f200) none) (cond (Nat.beq i 201) (some f201) none)))))) (cond (Nat.blt i 219) (cond (Nat.blt i 212) (cond (Nat.blt i 209) (cond (Nat.blt i 208) (cond (Nat.beq i 202) (some f202) none) (cond (Nat.beq i 208) (some f208) none)) (cond (Nat.blt i 210) (cond (Nat.beq i 209) (some f209) none) (cond (Nat.blt i 211) (cond (Nat.beq i 210) (some f210) none) (cond (Nat.beq i 211) (some f211) none)))) (cond (Nat.blt i 216) (cond (Nat.blt i 214) (cond (Nat.beq i 212) (some f212) none) (cond (Nat.blt i 215) (cond (Nat.beq i 214) (some f214) none) (cond (Nat.beq i 215) (some f215) none))) (cond (Nat.blt i 217) (cond (Nat.beq i 216) (some f216) none) (cond (Nat.blt i 218) (cond (Nat.beq i 217) (some f217) none) (cond (Nat.beq i 218) (some f218) none))))) (cond (Nat.blt i 227) (cond (Nat.blt i 221) (cond (Nat.blt i 220) (cond (Nat.beq i 219) (some f219) none) (cond (Nat.beq i 220) (some f220) none)) (cond (Nat.blt i 223) (cond (Nat.beq i 221) (some f221) none) (cond (Nat.blt i 224) (cond (Nat.beq i 223) (some f223) none) (cond (Nat.beq i 224) (some f224) none)))) (cond (Nat.blt i 259) (cond (Nat.blt i 228) (cond (Nat.beq i 227) (some f227) none) (cond (Nat.blt i 258) (cond (Nat.beq i 228) (some f228) none) (cond (Nat.beq i 258) (some f258) none))) (cond (Nat.blt i 260) (cond (Nat.beq i 259) (some f259) none) (cond (Nat.blt i 261) (cond (Nat.beq i 260) (some f260) none) (cond (Nat.beq i 261) (some f261) none))))))))
def top : Nat := 262
def meths (t : Nat) (m : String) : Option Nat := cond (Nat.beq t 2 && m == "Len") (some 160) (cond (Nat.beq t 2 && m == "Less") (some 258) (cond (Nat.beq t 2 && m == "Pop") (some 259) (cond (Nat.beq t 2 && m == "Push") (some 260) (cond (Nat.beq t 2 && m == "Swap") (some 261) (none)))))
end Go.Abs.Pr
namespace Go.Abs
open Go
def findB (c : Nat) : List UInt8 → Nat → Int
 | [], _ => -1
 | x :: l, i => cond (Nat.beq x.toNat c) (.ofNat i) (findB c l (i + 1))
def indexByteP : Nat → List V → Heap → ND VH := fun _ as h =>
 match as with
 | [.str s, .int .u8 (.ofNat c)] => cond (Nat.blt c 256) (some [⟨.int .i64 (findB c s 0), h⟩]) none
 | _ => none
def insI (x : Int) : List Int → List Int
 | [] => [x]
 | y :: l => cond (leB x y) (x :: y :: l) (y :: insI x l)
def sortI : List Int → List Int
 | [] => []
 | x :: l => insI x (sortI l)
def intsOf : List (List V) → Option (List Int)
 | [] => some []
 | r :: rs => match r with
  | [.int .i64 n] => (match intsOf rs with
   | some l => some (n :: l)
   | none => none)
  | _ => none
def intRows (l : List Int) : List (List V) := l.map fun n => [.int .i64 n]
def sortP : Nat → List V → Heap → ND VH := fun mk as h =>
 match as with
 | [.nils] => some [⟨.tup [], h⟩]
 | [.sl id lo len e _] => (match h.get id with
  | some (.rows rs) => cond (Nat.beq e 1 && Nat.beq lo 0 && Nat.beq len rs.length && Nat.ble mk id && Nat.blt len 4294967296) (match intsOf rs with
   | some l => some [⟨.tup [], h.set id (.rows (intRows (sortI l)))⟩]
   | none => none) none
  | _ => none)
 | _ => none
def sortFuncP : Nat → List V → Heap → ND VH := fun mk as h =>
 match as with
 | [s, .fn 227 [] []] => sortP mk [s] h
 | _ => none
def prims (i : Nat) : Option (Nat → List V → Heap → ND VH) :=
 cond (Nat.beq i 225) (some indexByteP) (cond (Nat.beq i 105) (some sortP) (cond (Nat.beq i 226) (some sortFuncP) none))
def PR : Prog := ⟨fun i => cond (Nat.blt i Pr.top) (Pr.fns i) none, prims, Pr.meths⟩
end Go.Abs
namespace Go.Abs
open Go
set_option maxRecDepth 10000
theorem few_ok (g : Gr) (hg : g.p.l.length < 1000000000 ∧ ∀ p ∈ g.p.l, p.a.l.length < 1000000000 ∧ ∀ a ∈ p.a.l, a.l.length < 1000000000) (d : Bool) (mk : Nat) (h : Heap) : WF PR d mk (.fn 12 [] []) [.agg g.cells] h (fun r => r.h = h ∧ ∃ b, r.v = .bool b) := by
 obtain ⟨g1, g2⟩ := hg
 refine WF.pureFn (F := Pr.f12) (Q := fun v => ∃ b, v = .bool b) rfl rfl rfl (Nat.le_of_ble_eq_true rfl) ?_
 refine wbodyS Pr.b12 [.tm 2] rfl rfl ?_
 unfold Pr.b12
 simp -dsimp [Gr.cells]
 rw [Gd_f]
 refine ⟨fun hb => ?_, fun hb => ?_⟩
 ·simp -dsimp [hb]
  rw [Br_bool]
  refine ⟨fun hc => ?_, fun hc => ?_⟩
  ·simp -dsimp [hc]
  ·simp -dsimp [hc]
   refine wk_loop (fun k st => ∃ (i : Int), 0 ≤ i ∧ (k : Int) = g.p.l.length - i ∧ (gK 4).run st.tm = .int .i64 i ∧ IsI ((gK 3).run st.tm) ∧ st.h = h.push (Obj.rows [[Sl.enc Pd.cells g.p, Sl.enc keyCells g.keys]]) ∧ st.defs = [] ∧ st.round = false) g.p.l.length ⟨0, by simp⟩ ?_
   rintro k ⟨tm, h', defs, round⟩ ⟨i, hi, hk, h4, ⟨n, h3⟩, rfl, rfl, rfl⟩ hK
   have h1 := hK 1 rfl
   simp at h1 h4 h3
   clear hK
   simp -dsimp [h1, h4]
   rw [Br_bool]
   refine ⟨fun hc => ?_, fun hc => ?_⟩
   ·simp at hc
    simp -dsimp [hc]
    have hp := g2 _ (lat_mem (l := g.p.l) (i := i.toNat) (by omega))
    obtain ⟨P, hP⟩ : ∃ P, lat g.p.l i.toNat = P := ⟨_, rfl⟩
    rw [hP] at hp
    refine wk_loop (fun k st => ∃ (i : Int), 0 ≤ i ∧ (k : Int) = P.a.l.length - i ∧ (gK 5).run st.tm = .int .i64 i ∧ IsI ((gK 3).run st.tm) ∧ st.h = h.push (Obj.rows [[Sl.enc Pd.cells g.p, Sl.enc keyCells g.keys]]) ∧ st.defs = [] ∧ st.round = false) P.a.l.length ⟨0, by simp [h3]⟩ ?_
    rintro k2 ⟨tm2, h', defs, round⟩ ⟨i2, hi2, hk2, h5, ⟨n2, h3'⟩, rfl, rfl, rfl⟩ hK
    have h1' := hK 1 rfl
    have h4' := hK 4 rfl
    simp [h1, h4] at h1' h4' h5 h3'
    clear hK
    simp -dsimp [h1', h4', h5, hi, hc, hP, Pd.cells]
    rw [Br_bool]
    refine ⟨fun hc2 => ?_, fun hc2 => ?_⟩
    ·simp at hc2
     simp -dsimp [hc2]
     have hA := hp.2 _ (lat_mem (l := P.a.l) (i := i2.toNat) (by omega))
     obtain ⟨A, hAe⟩ : ∃ A, lat P.a.l i2.toNat = A := ⟨_, rfl⟩
     rw [hAe] at hA
     simp -dsimp [h1', h4', h5, h3', hi, hc, hP, hi2, hc2, hAe, Pd.cells, altCells]
     refine wk_loop (fun k st => ∃ (i : Int), 0 ≤ i ∧ (k : Int) = A.l.length - i ∧ (gK 6).run st.tm = .int .i64 i ∧ IsI ((gK 3).run st.tm) ∧ st.h = h.push (Obj.rows [[Sl.enc Pd.cells g.p, Sl.enc keyCells g.keys]]) ∧ st.defs = [] ∧ st.round = false) A.l.length ⟨0, by simp⟩ ?_
     rintro k3 ⟨tm3, h', defs, round⟩ ⟨i3, hi3, hk3, h6, ⟨n3, h3''⟩, rfl, rfl, rfl⟩ hK
     have h1'' := hK 1 rfl
     have h4'' := hK 4 rfl
     have h5'' := hK 5 rfl
     simp [h1', h4', h5] at h1'' h4'' h5'' h6 h3''
     clear hK
     simp -dsimp [h1'', h4'', h5'', h6, h3'', hi, hc, hP, hi2, hc2, hAe, Pd.cells, altCells]
     rw [Gd_t]
     refine ⟨fun hc3 => ?_, fun hc3 => ?_⟩
     ·simp -dsimp [hc3, h3'']
      rw [Br_bool]
      simp at hc3
      refine ⟨fun hc4 => ?_, fun hc4 => ?_⟩
      ·simp -dsimp [hc3, hc4, h1'', h4'', h5'', h6, h3'', hi, hc, hP, hi2, hc2, hAe, hi3, Pd.cells, altCells, Sy.cells]
       exact Again.intro (k3 - 1) (by omega) ⟨i3 + 1, by omega, by omega, by simp [fw64 (n := i3 + 1) (by omega) (by omega)]⟩
      ·simp -dsimp [hc4, h5'']
       exact Again.intro (k2 - 1) (by omega) ⟨i2 + 1, by omega, by omega, by simp [h3'', fw64 (n := i2 + 1) (by omega) (by omega)]⟩
     ·simp -dsimp [hc3, h5'']
      exact Again.intro (k2 - 1) (by omega) ⟨i2 + 1, by omega, by omega, by simp [h3'', fw64 (n := i2 + 1) (by omega) (by omega)]⟩
    ·simp -dsimp [hc2, h1', h4', h3', hi, hc, hP, Pd.cells]
     rw [Br_bool]
     refine ⟨fun hc4 => ?_, fun hc4 => ?_⟩
     ·simp -dsimp [hc4]
     ·simp -dsimp [hc4, h4']
      exact Again.intro (k - 1) (by omega) ⟨i + 1, by omega, by omega, by simp [fw64 (n := i + 1) (by omega) (by omega)]⟩
   ·simp -dsimp [hc]
 ·simp -dsimp [hb]
end Go.Abs
namespace Go.Abs
open Go Pr
set_option maxRecDepth 10000
def idxBody (esz : Nat) (ld : Option Nat) : IC :=
  (.seq (.ops [i 4 (.p (.mov (.c (.int .i64 0))))])
  (.seq (.seq (.ops [i 6 (.p (.mov (.t 0))), i 7 (.r (.len .sl (.t 6))), i 8 (.p (.mov (.c (.int .i64 0))))])
    (.block 0
     (.loop
      (.seq (.ops [i 9 (.p (.bin .lss (.t 8) (.t 7)))])
       (.seq (.cond (.t 9)
         .skip
         (.exit 0))
        (.seq (.block 1
          (.seq (.ops [i 10 (.p (.mov (.t 8))), i 5 (.p (.mov (.t 10)))])
           (.seq (.ops [i 11 (.p (.mov (.t 1))), i 12 (.p (.mov (.t 0))), i 13 (.p (.mov (.t 5))), i 14 (.p (.iaddr esz (.t 12) (.t 13))), i 15 (.r (.load ld (.t 14))), i 16 (.call (.val (.t 11)) [(.t 15)] false)])
            (.cond (.t 16)
             (.seq (.ops [i 17 (.p (.mov (.t 5))), i 4 (.p (.mov (.t 17)))])
              .ret)
             .skip))))
         (.ops [i 18 (.p (.bin .add (.t 8) (.c (.int .i64 1)))), i 8 (.p (.mov (.t 18)))])))))))
   (.seq (.ops [i 4 (.p (.mov (.c (.int .i64 (-1)))))])
    .ret)))
def idxF (esz : Nat) (ld : Option Nat) : IFn := ⟨true, 19, [.tm 4], idxBody esz ld⟩
def conBody (f : Nat) : IC :=
  (.seq (.ops [i 4 (.p (.mov (.c (.bool false))))])
  (.seq (.ops [i 5 (.p (.mov (.t 0))), i 6 (.p (.mov (.t 1))), i 7 (.call (.dir f) [(.t 5), (.t 6)] false), i 8 (.p (.bin .geq (.t 7) (.c (.int .i64 0)))), i 4 (.p (.mov (.t 8)))])
   .ret))
def conF (f : Nat) : IFn := ⟨true, 9, [.tm 4], conBody f⟩
def idxP {α : Type} (p : α → Bool) : List α → Int → Int
  | [], _ => -1
  | a :: l, i => if p a then i else idxP p l (i + 1)
theorem idxP_any {α : Type} (p : α → Bool) : ∀ (l : List α) (i : Int), 0 ≤ i → decide (0 ≤ idxP p l i) = l.any p
  | [], i, _ => by simp [idxP]
  | a :: l, i, h => by
    simp only [idxP, List.any_cons]
    by_cases hp : p a = true
    · simp [hp, h]
    · simpa [hp] using idxP_any p l (i + 1) (by omega)
theorem drop_lat {α : Type} [Inhabited α] {l : List α} {i : Nat} (h : i < l.length) : l.drop i = lat l i :: l.drop (i + 1) := by
  rw [lat_eq h]; exact List.drop_eq_getElem_cons h
section
variable {α : Type} [Inhabited α] {f g esz mk : Nat} {ld : Option Nat} {d : Bool} {enc : α → List V} {arg : α → V} {p : α → Bool} {s : Sl α} {fv : V} {h : Heap}
theorem idx_ok (hF : PR.fn f = some (idxF esz ld)) (hp : PR.prim f = none) (he : ∀ a, (enc a).length = esz) (hld : ∀ a, loadN (enc a) 0 ld = some (arg a)) (hs : s.l.length < 1000000000)
    (hc : ∀ a ∈ s.l, WF PR false h.n fv [arg a] h fun r => r = ⟨.bool (p a), h⟩) : WF PR d mk (.fn f [] []) [s.enc enc, fv] h fun r => r = ⟨.int .i64 (idxP p s.l 0), h⟩ := by
  refine WF.pureOne hp hF rfl (Nat.le_of_ble_eq_true rfl) ?_
  refine wbodyS (idxBody esz ld) [.tm 4] rfl rfl ?_
  unfold idxBody
  simp -dsimp
  refine wk_loop (fun k st => ∃ (i : Int), 0 ≤ i ∧ (k : Int) = s.l.length - i ∧ idxP p (s.l.drop i.toNat) i = idxP p s.l 0 ∧ (gK 8).run st.tm = .int .i64 i ∧ st.h = h ∧ st.defs = []) s.l.length ⟨0, by simp⟩ ?_
  rintro k ⟨tm, h', defs, round⟩ ⟨i, hi, hk, hx, h8, rfl, rfl⟩ hK
  have h0 := hK 0 rfl
  have h1 := hK 1 rfl
  have h7 := hK 7 rfl
  simp at h0 h1 h7 h8
  clear hK
  simp -dsimp [h7, h8]
  rw [Br_bool]
  refine ⟨fun hl => ?_, fun hl => ?_⟩
  · simp at hl
    have ha := iaddr_enc (f := enc) (s := s) (k := .i64) hi hl he
    simp -dsimp [h0, h1, h7, h8, hl, ha, hld]
    refine WFS.by (hc _ (lat_mem (by omega))) ?_
    intro v h'' e
    cases e
    simp -dsimp
    rw [drop_lat (by omega)] at hx
    simp only [idxP] at hx
    rw [Br_bool]
    refine ⟨fun hb => ?_, fun hb => ?_⟩
    · simp [hb] at hx
      simp -dsimp [h8, hx]
    · simp [hb] at hx
      simp -dsimp [h8]
      refine Again.intro (k - 1) (by omega) ⟨i + 1, by omega, by omega, ?_, by simp [fw64 (n := i + 1) (by omega) (by omega)]⟩
      rw [show (i + 1).toNat = i.toNat + 1 by omega]; exact hx
  · simp at hl
    rw [List.drop_eq_nil_of_le (by omega)] at hx
    simp [idxP] at hx
    have hl' : decide (i < (s.l.length : Int)) = false := by simpa using hl
    simp -dsimp [hl', ← hx]
theorem con_ok (hF : PR.fn g = some (conF f)) (hp : PR.prim g = none) (hF' : PR.fn f = some (idxF esz ld)) (hp' : PR.prim f = none) (he : ∀ a, (enc a).length = esz) (hld : ∀ a, loadN (enc a) 0 ld = some (arg a)) (hs : s.l.length < 1000000000)
    (hc : ∀ a ∈ s.l, WF PR false h.n fv [arg a] h fun r => r = ⟨.bool (p a), h⟩) : WF PR d mk (.fn g [] []) [s.enc enc, fv] h fun r => r = ⟨.bool (s.l.any p), h⟩ := by
  refine WF.pureOne hp hF rfl (Nat.le_of_ble_eq_true rfl) ?_
  refine wbodyS (conBody f) [.tm 4] rfl rfl ?_
  unfold conBody
  simp -dsimp
  refine WFS.by (idx_ok (s := s) hF' hp' he hld hs hc) ?_
  intro v h' e
  cases e
  simp -dsimp [idxP_any]
end
end Go.Abs
namespace Go.Abs
open Go
def Lo (mk : Nat) (h h' : Heap) : Prop := h.n ≤ h'.n ∧ ∀ i, i < mk → h'.get i = h.get i
theorem Lo.refl {mk : Nat} {h : Heap} : Lo mk h h := ⟨Nat.le_refl _, fun _ _ => rfl⟩
theorem Lo.trans {mk : Nat} {h h' h'' : Heap} (a : Lo mk h h') (b : Lo mk h' h'') : Lo mk h h'' := ⟨Nat.le_trans a.1 b.1, fun i hi => (b.2 i hi).trans (a.2 i hi)⟩
theorem Lo.set {mk : Nat} {h : Heap} {i : Nat} {o : Obj} (hi : mk ≤ i) : Lo mk h (h.set i o) := ⟨Nat.le_refl _, fun j hj => by rw [Heap.get_set, if_neg (by omega)]⟩
theorem Lo.kill {mk : Nat} {h : Heap} {i : Nat} (hi : mk ≤ i) : Lo mk h (h.kill i) := ⟨Nat.le_refl _, fun j hj => by rw [Heap.get_kill, if_neg (by omega)]⟩
theorem Lo.push {mk : Nat} {h : Heap} {o : Obj} (hi : mk ≤ h.n) : Lo mk h (h.push o) := ⟨by simp, fun j hj => by rw [Heap.get_push, if_neg (by omega)]⟩
theorem cond_t {α : Type} {c : Bool} {x : Option α} {y : α} (h : cond c x none = some y) : c = true ∧ x = some y := by
 cases c with
 | true => exact ⟨rfl, h⟩
 | false => cases h
theorem and_t {a b : Bool} (h : (a && b) = true) : a = true ∧ b = true := by simpa using h
theorem ble_t {a b : Nat} (h : Nat.ble a b = true) : a ≤ b := Nat.le_of_ble_eq_true h
theorem append_low {mk : Nat} {h : Heap} {esz bytes : Nat} {s : V} {xs : List (List V)} {r : VH} (hr : appendRows mk h esz bytes s xs = some r) (hm : mk ≤ h.n) : Lo mk h r.h := by
 unfold appendRows at hr
 cases xs with
 | nil =>
  simp only at hr
  split at hr <;> first | (cases hr; exact Lo.refl) | cases hr
 | cons x xs =>
  simp only at hr
  cases hrow : rowsOf h s with
  | none => rw [hrow] at hr; cases hr
  | some rs =>
   rw [hrow] at hr
   obtain ⟨_, hr⟩ := cond_t hr
   cases s with
   | nils => cases hr; exact Lo.push hm
   | slR a f => obtain ⟨_, hr⟩ := cond_t hr; cases hr; exact Lo.push hm
   | sl i a b e f =>
    obtain ⟨_, hr⟩ := cond_t hr
    cases f with
    | true => cases hr; exact Lo.push hm
    | false =>
     obtain ⟨h2, hr⟩ := cond_t hr
     cases hr
     exact (Lo.kill (ble_t h2)).trans (Lo.push hm)
   | _ => cases hr
theorem W_low {mk : Nat} {o : WO} {tm : Tm} {h : Heap} {r : VH} (hr : (compW o).run mk tm h = some r) (hm : mk ≤ h.n) : Lo mk h r.h := by
 cases o with
 | store n a x =>
  simp only [compW] at hr
  split at hr
  ·split at hr
   ·split at hr
    ·obtain ⟨h1, hr⟩ := cond_t hr
     simp only [Bool.and_eq_true] at h1
     cases hr; exact Lo.set (ble_t h1.1.1.1.1)
    ·cases hr
   ·cases hr
  ·cases hr
 | mupd kn m k v =>
  simp only [compW] at hr
  split at hr
  ·split at hr
   ·obtain ⟨h1, hr⟩ := cond_t hr
    have := ble_t (and_t h1).1
    split at hr <;> first | (cases hr; exact Lo.set this) | cases hr
   ·cases hr
  ·cases hr
 | del kn m k =>
  simp only [compW] at hr
  split at hr
  ·split at hr
   ·obtain ⟨h1, hr⟩ := cond_t hr
    have := ble_t (and_t h1).1
    split at hr <;> first | (cases hr; exact Lo.set this) | (cases hr; exact Lo.refl) | cases hr
   ·cases hr
  ·cases hr
 | rngM x =>
  simp only [compW] at hr
  split at hr
  ·split at hr
   ·cases hr; exact Lo.push hm
   ·cases hr
  ·cases hr
 | nxtS it =>
  simp only [compW] at hr
  split at hr
  ·split at hr
   ·obtain ⟨h1, hr⟩ := cond_t hr
    rename_i s pos hget hr0
    cases hb : Nat.blt pos s.length with
    | true =>
     rw [hb] at hr
     simp only [cond] at hr
     split at hr
     ·cases hr; exact Lo.set (ble_t h1)
     ·cases hr
    | false => rw [hb] at hr; cases hr; exact Lo.refl
   ·cases hr
  ·cases hr
 | append esz bytes s x =>
  simp only [compW] at hr
  split at hr
  ·exact append_low hr hm
  ·cases hr
 | appendS s x =>
  simp only [compW] at hr
  split at hr
  ·exact append_low hr hm
  ·cases hr
 | appendZ zero bytes s n =>
  simp only [compW] at hr
  split at hr
  ·split at hr
   ·obtain ⟨_, hr⟩ := cond_t hr
    split at hr
    ·cases hr; exact Lo.push hm
    ·cases hr
   ·cases hr
  ·cases hr
 | clear zero x =>
  simp only [compW] at hr
  split at hr
  ·cases hr; exact Lo.refl
  ·obtain ⟨_, hr⟩ := cond_t hr; cases hr; exact Lo.refl
  ·rename_i i lo len e f _
   cases hb : Nat.beq len 0 with
   | true => rw [hb] at hr; cases hr; exact Lo.refl
   | false =>
    rw [hb] at hr
    simp only [cond] at hr
    split at hr
    ·obtain ⟨h1, hr⟩ := cond_t hr
     cases hr; exact Lo.set (ble_t (and_t (and_t h1).1).1)
    ·cases hr
  ·cases hr
 | same x =>
  simp only [compW] at hr
  split at hr
  ·obtain ⟨_, hr⟩ := cond_t hr; cases hr; exact Lo.refl
  ·cases hr
def LowF (mk : Nat) (callF : V → List V → Heap → ND VH) : Prop := ∀ fv args h l, callF fv args h = some l → mk ≤ h.n → ∀ r ∈ l, Lo mk h r.h
section
variable {mk : Nat} {e : Env}
theorem cal_low (he : LowF mk e.callF) {c : Cal} {args : List V} {tm : Tm} {h : Heap} {l : List VH} (hr : (calK c).run e args tm h = some l) (hm : mk ≤ h.n) : ∀ r ∈ l, Lo mk h r.h := by
 cases c with
 | dir f => exact he _ _ _ _ hr hm
 | val x => exact he _ _ _ _ hr hm
 | inv x m =>
  simp only [calK] at hr
  split at hr
  ·split at hr
   ·exact he _ _ _ _ hr hm
   ·cases hr
  ·cases hr
theorem frz_low {r r' : VH} (h : frzV mk r = some r') : Lo mk r.h r'.h := by
 unfold frzV at h
 split at h
 ·obtain ⟨h1, h⟩ := cond_t h
  split at h
  ·split at h
   ·cases h; exact Lo.kill (ble_t h1)
   ·cases h
  ·cases h
 ·cases h; exact Lo.refl
 ·cases h; exact Lo.refl
 ·cases h
theorem next_low {it : V} {h : Heap} {l : List VH} (hr : nextM mk it h = some l) : ∀ r ∈ l, Lo mk h r.h := by
 unfold nextM at hr
 split at hr
 ·split at hr
  ·split at hr
   ·obtain ⟨h1, hr⟩ := cond_t hr
    have hi := ble_t (and_t (and_t (and_t h1).1).1).1
    split at hr
    ·cases hr; simp [Lo.refl]
    ·cases hr
     intro r hr
     obtain ⟨x, _, rfl⟩ := List.mem_map.1 hr
     exact Lo.set hi
   ·cases hr
  ·cases hr
 ·cases hr
theorem one_low {s : St} (t : St) {l : List St} {h : Heap} (hr : some [s] = some l) (hp : Lo mk h s.h) : ∀ r ∈ l, Lo mk h r.h := by
 cases hr; simpa using hp
theorem put_h {dst : Option Nat} {v : V} {h : Heap} {st : St} : ((putK dst).run v h st).h = h := by cases dst <;> rfl
theorem op_low (he : LowF mk e.callF) (hl : e.lim = mk) {dst : Option Nat} {op : IOp} {base : Nat} {st : St} {l : List St} (hr : (compOp dst op).run e base st = some l) (hm : mk ≤ st.h.n) (hb : ∀ o j, op = .a o (some j) → mk ≤ base) : ∀ r ∈ l, Lo mk st.h r.h := by
 subst hl
 cases op with
 | p o =>
  simp only [compOp] at hr
  split at hr
  ·exact one_low st hr (by rw [put_h]; exact Lo.refl)
  ·cases hr
 | r o =>
  simp only [compOp] at hr
  split at hr
  ·exact one_low st hr (by rw [put_h]; exact Lo.refl)
  ·cases hr
 | a o hole =>
  simp only [compOp] at hr
  split at hr
  ·exact one_low st hr (by rw [put_h]; exact Lo.refl)
  ·cases hole with
   | none => exact one_low st hr (by rw [put_h]; exact Lo.push hm)
   | some j => exact one_low st hr (by rw [put_h]; exact Lo.set (Nat.le_trans (hb o j rfl) (Nat.le_add_right _ _)))
  ·cases hr
 | w o =>
  simp only [compOp] at hr
  split at hr
  ·rename_i r e1
   exact one_low st hr (by rw [put_h]; exact W_low e1 hm)
  ·cases hr
 | call c args frz =>
  intro y hy
  obtain ⟨k, e1, x, hx, r, hr, hyr⟩ := ND.mem_bind hr y hy
  have h1 := cal_low he e1 hm x hx
  cases frz with
  | false => exact one_low st hr (by rw [put_h]; exact h1) y hyr
  | true =>
   simp only [cond] at hr
   split at hr
   ·rename_i r2 e2
    exact one_low st hr (by rw [put_h]; exact h1.trans (frz_low e2)) y hyr
   ·cases hr
 | nxtM it =>
  intro y hy
  obtain ⟨k, e1, x, hx, r, hr, hyr⟩ := ND.mem_bind hr y hy
  exact one_low st hr (by rw [put_h]; exact next_low e1 x hx) y hyr
 | defer x =>
  simp only [compOp] at hr
  split at hr
  ·cases h2 : st.round with
   | true => rw [h2] at hr; cases hr
   | false => rw [h2] at hr; exact one_low st hr (by rw [put_h]; exact Lo.refl)
  ·cases hr
 | recover =>
  simp only [compOp] at hr
  cases h2 : st.round with
  | true => rw [h2] at hr; cases hr
  | false => rw [h2] at hr; exact one_low st hr (by rw [put_h]; exact Lo.refl)
 | bad => cases hr
theorem ins_low (he : LowF mk e.callF) (hl : e.lim = mk) {i : Ins} {base : Nat} {st : St} {l : List St} (hr : (compI i).run e base st = some l) (hm : mk ≤ st.h.n) (hb : ∀ o j, i.op = .a o (some j) → mk ≤ base) : ∀ r ∈ l, Lo mk st.h r.h := by
 unfold compI at hr
 split at hr
 ·exact op_low he hl hr hm hb
 ·rename_i g hg
  simp only at hr
  split at hr
  ·rename_i c hc
   cases hcg : (c == g.2) with
   | true => rw [hcg] at hr; exact op_low he hl hr hm hb
   | false => rw [hcg] at hr; exact one_low st hr (by rw [put_h]; exact Lo.refl)
  ·exact one_low st hr (by rw [put_h]; exact Lo.refl)
  ·cases hr
theorem list_low (he : LowF mk e.callF) (hl : e.lim = mk) {base : Nat} (hb : mk ≤ base) : ∀ {l : List Ins} {st : St} {k : List St}, (compL l).run e base st = some k → mk ≤ st.h.n → ∀ r ∈ k, Lo mk st.h r.h
 | [], st, k, hr, _ => one_low st hr Lo.refl
 | i :: l, st, k, hr, hm => by
  intro y hy
  obtain ⟨k', e1, x, hx, r, hr, hyr⟩ := ND.mem_bind hr y hy
  have h1 := ins_low he hl e1 hm (fun _ _ _ => hb) x hx
  exact h1.trans (list_low he hl hb (l := l) hr (Nat.le_trans hm h1.1) y hyr)
theorem opsH_low (he : LowF mk e.callF) (hl : e.lim = mk) {base : Nat} (hb : mk ≤ base) : ∀ {l : List Ins} {st : St} {hs : List Heap} {k : St × List Heap}, opsH e base l st hs = some k → mk ≤ st.h.n → Lo mk st.h k.1.h
 | [], st, hs, k, hr, _ => by simp [opsH] at hr; subst hr; exact Lo.refl
 | i :: l, st, hs, k, hr, hm => by
  simp only [opsH] at hr
  split at hr
  ·rename_i st' e1
   have h1 := ins_low he hl (ND.of_single e1) hm (fun _ _ _ => hb) st' (by simp)
   exact h1.trans (opsH_low he hl hb (l := l) hr (Nat.le_trans hm h1.1))
  ·cases hr
theorem os_low {s : OS} {l : List OS} {h : Heap} (hr : some [s] = some l) (hp : Lo mk h s.s.h) : ∀ r ∈ l, Lo mk h r.s.h := by
 cases hr; simpa using hp
theorem loopN_low {body : St → ND OS} (hb : ∀ st l, body st = some l → mk ≤ st.h.n → ∀ r ∈ l, Lo mk st.h r.s.h) : ∀ (n : Nat) (st : St) (l : List OS), loopN body n st = some l → mk ≤ st.h.n → ∀ r ∈ l, Lo mk st.h r.s.h
 | 0, _, _, h, _ => by cases h
 | n + 1, st, l, h, hm => by
  intro y hy
  obtain ⟨k, e1, z, hz, r, hr, hyr⟩ := ND.mem_bind h y hy
  have h1 := hb _ _ e1 hm z hz
  split at hr
  ·exact h1.trans (loopN_low hb n _ _ hr (Nat.le_trans hm h1.1) y hyr)
  ·exact os_low hr h1 y hyr
  ·exact os_low hr h1 y hyr
theorem range_low (he : LowF mk e.callF) {fv : V} {ps : List Nat} {asg body : IC} {st : St} {l : List OS} (hr : evRange e fv ps asg body st = some l) (hm : mk ≤ st.h.n) : ∀ r ∈ l, Lo mk st.h r.s.h := by
 unfold evRange at hr
 cases h2 : st.round with
 | true => rw [h2] at hr; cases hr
 | false =>
  rw [h2] at hr
  simp only [cond] at hr
  intro y hy
  obtain ⟨k, e1, x, hx, r, hr, hyr⟩ := ND.mem_bind hr y hy
  have h0 : Lo mk st.h ((st.h.push .dfr).push (.loop .ready none st.tm ps asg body)) := (Lo.push hm).trans (Lo.push (by simp; omega))
  have h1 := h0.trans (he _ _ _ _ e1 (Nat.le_trans hm h0.1) x hx)
  split at hr
  ·split at hr
   ·cases hr
   ·have h3 : ∀ o, Lo mk st.h (x.h.set (st.h.push .dfr).n o) := fun o => h1.trans (Lo.set (by simp; omega))
    split at hr
    ·exact os_low hr (h3 _) y hyr
    ·exact os_low hr (h3 _) y hyr
    ·exact os_low hr (h3 _) y hyr
    ·cases hr
  ·cases hr
theorem code_low (he : LowF mk e.callF) (hl : e.lim = mk) : ∀ (c : IC) (st : St) (l : List OS), (compC c).run e st = some l → mk ≤ st.h.n → ∀ r ∈ l, Lo mk st.h r.s.h
 | .skip, st, l, hr, _ => os_low hr Lo.refl
 | .ops x, st, l, hr, hm => by
  intro y hy
  obtain ⟨k, e1, z, hz, r, hr, hyr⟩ := ND.mem_bind hr y hy
  exact os_low hr (list_low he hl hm e1 hm z hz) y hyr
 | .dops na chk x, st, l, hr, hm => by
  simp only [compC, evDops] at hr
  split at hr
  ·rename_i st' hs e1
   obtain ⟨_, hr⟩ := cond_t hr
   have := opsH_low he hl (base := st.h.n) hm e1 (show mk ≤ st.h.n + na by omega)
   exact os_low hr ⟨Nat.le_trans (Nat.le_add_right _ _) this.1, this.2⟩
  ·cases hr
 | .seq a b, st, l, hr, hm => by
  intro y hy
  obtain ⟨k, e1, z, hz, r, hr, hyr⟩ := ND.mem_bind hr y hy
  have h1 := code_low he hl a st k e1 hm z hz
  split at hr
  ·exact h1.trans (code_low he hl b _ _ hr (Nat.le_trans hm h1.1) y hyr)
  ·exact os_low hr h1 y hyr
  ·exact os_low hr h1 y hyr
 | .cond c a b, st, l, hr, hm => by
  simp only [compC] at hr
  split at hr
  ·rename_i t ht
   cases t with
   | true => exact code_low he hl a st l hr hm
   | false => exact code_low he hl b st l hr hm
  ·cases hr
 | .block id c, st, l, hr, hm => by
  intro y hy
  obtain ⟨k, e1, z, hz, r, hr, hyr⟩ := ND.mem_bind hr y hy
  have h1 := code_low he hl c st k e1 hm z hz
  split at hr
  ·rename_i j hj
   cases hc : Nat.beq j id <;> rw [hc] at hr <;> exact os_low hr h1 y hyr
  ·exact os_low hr h1 y hyr
  ·exact os_low hr h1 y hyr
 | .loop c, st, l, hr, hm => loopN_low (fun st l h h2 => code_low he hl c st l h h2) _ st l hr hm
 | .rangeF .., st, l, hr, hm => range_low he hr hm
 | .exit _, st, l, hr, _ => os_low hr Lo.refl
 | .ret, st, l, hr, _ => os_low hr Lo.refl
 | .bad, _, _, hr, _ => by cases hr
theorem unwind_low {callF : V → List V → Heap → ND VH} (he : LowF mk callF) : ∀ (ds : List DefI) (h : Heap) (l : List Heap), unwindD callF mk ds h = some l → mk ≤ h.n → ∀ r ∈ l, Lo mk h r
 | [], h, l, hr, _ => by simp [unwindD] at hr; subst hr; simp [Lo.refl]
 | .mark i :: ds, h, l, hr, hm => by
  simp only [unwindD] at hr
  split at hr
  ·obtain ⟨h1, hr⟩ := cond_t hr
   intro r hr'
   exact (Lo.kill (ble_t h1)).trans (unwind_low he ds _ _ hr hm r hr')
  ·cases hr
 | .call v :: ds, h, l, hr, hm => by
  intro y hy
  obtain ⟨k, e1, z, hz, r, hr, hyr⟩ := ND.mem_bind hr y hy
  have h1 := he _ _ _ _ e1 hm z hz
  exact h1.trans (unwind_low he ds _ _ hr (Nat.le_trans hm h1.1) y hyr)
end
def Prog.Low (AP : Prog) : Prop := ∀ f p, AP.prim f = some p → ∀ mk args h l, p mk args h = some l → mk ≤ h.n → ∀ r ∈ l, Lo mk h r.h
theorem noPrim_low {AP : Prog} {callF : V → List V → Heap → ND VH} {mk : Nat} (he : LowF mk callF) : LowF mk (noPrim AP callF) := by
 intro fv args h l hr
 unfold noPrim at hr
 split at hr
 ·split at hr
  ·cases hr
  ·exact he _ _ _ _ hr
 ·cases hr
theorem runFn_low {AP : Prog} {callF : V → List V → Heap → ND VH} {mk fu : Nat} (he : LowF mk callF) {F : IFn} {args : List V} {h : Heap} {l : List VH} (hr : runFn AP callF fu mk F args h = some l) (hm : mk ≤ h.n) : ∀ r ∈ l, Lo mk h r.h := by
 unfold runFn at hr
 obtain ⟨_, hr⟩ := cond_t hr
 intro y hy
 obtain ⟨k, e1, z, hz, r, hr, hyr⟩ := ND.mem_bind hr y hy
 have h1 := code_low (e := ⟨callF, AP.meth, fu, mk⟩) he rfl F.body _ k e1 hm z hz
 have key : ∀ (r : List VH), (ND.bind (unwindD (noPrim AP callF) mk z.s.defs z.s.h) fun h' => match results z.s.tm h' F.res with | some v => some [⟨v, h'⟩] | none => none) = some r → y ∈ r → Lo mk h y.h := by
  intro r hr hyr
  obtain ⟨k2, e2, h', hh', r2, hr2, hyr2⟩ := ND.mem_bind hr y hyr
  have h2 := unwind_low (noPrim_low he) _ _ _ e2 (Nat.le_trans hm h1.1) h' hh'
  split at hr2
  ·cases hr2; simp at hyr2; subst hyr2; exact h1.trans h2
  ·cases hr2
 split at hr
 ·cases hr
 ·exact key r hr hyr
theorem end_low {mk l : Nat} {j : Option IC} {h : Heap} {k : List VH} (hl : mk ≤ l) (hr : endRound l j h = some k) : ∀ r ∈ k, Lo mk h r.h := by
 unfold endRound at hr
 split at hr
 ·cases hr; simpa using Lo.set hl
 ·cases hr
theorem round_low {AP : Prog} {callF : V → List V → Heap → ND VH} {mk fu l : Nat} (he : LowF mk callF) {args : List V} {h : Heap} {k : List VH}  (hr : runRound AP callF fu mk l args h = some k) (hm : mk ≤ h.n) : ∀ r ∈ k, Lo mk h r.h := by
 unfold runRound at hr
 split at hr
 ·rename_i s0 p0 tm ps asg body hg
  obtain ⟨h1, hr⟩ := cond_t hr
  have hl := ble_t (and_t h1).1
  intro y hy
  obtain ⟨k1, e1, z, hz, r, hr, hyr⟩ := ND.mem_bind hr y hy
  have h2 := code_low (e := ⟨callF, AP.meth, fu, mk⟩) he rfl asg _ k1 e1 hm z hz
  split at hr
  ·obtain ⟨k3, e3, z3, hz3, r3, hr3, hyr3⟩ := ND.mem_bind hr y hyr
   have h4 : ∀ o, Lo mk h (z.s.h.set l o) := fun o => h2.trans (Lo.set hl)
   have h5 := (h4 _).trans (code_low (e := ⟨callF, AP.meth, fu, mk⟩) he rfl body _ k3 e3 (Nat.le_trans hm (h4 .dfr).1) z3 hz3)
   split at hr3
   ·split at hr3 <;> exact h5.trans (end_low hl hr3 y hyr3)
   ·cases hr3
  ·cases hr
 ·cases hr
theorem evCall_low {AP : Prog} (hp : AP.Low) : ∀ (n mk : Nat), LowF mk (evCall AP n mk)
 | 0, _ => fun _ _ _ _ h => by cases h
 | n + 1, mk => fun fv args h l hr hm => by
  simp only [evCall] at hr
  split at hr
  ·split at hr
   ·rename_i p hpp
    exact hp _ p hpp mk _ _ _ hr hm
   ·split at hr
    ·cases hr
    ·rename_i F hF
     cases hpu : F.pure with
     | true =>
      rw [hpu] at hr
      simp only [cond, pureRun] at hr
      generalize hb : ND.bind _ _ = q at hr
      cases q with
      | none => cases hr
      | some k => intro r hr'; rw [(dedup_mem hr r hr').1]; exact Lo.refl
     | false =>
      rw [hpu] at hr
      exact runFn_low (evCall_low hp n mk) hr hm
  ·exact round_low (evCall_low hp n mk) hr hm
  ·cases hr
theorem WF.low {AP : Prog} (hp : AP.Low) {d : Bool} {mk : Nat} {fv : V} {args : List V} {h : Heap} {Q : VH → Prop} (hw : WF AP d mk fv args h Q) (hm : mk ≤ h.n) : WF AP d mk fv args h fun r => Q r ∧ Lo mk h r.h :=
 W.conj hw fun n l e r hr => evCall_low hp n mk fv args h l e hm r hr
end Go.Abs
namespace Go.Abs
open Go
def Le {α : Type} (x y : Option α) : Prop := ∀ l, x = some l → y = some l
theorem Le.refl {α : Type} {x : Option α} : Le x x := fun _ h => h
theorem join_le {β : Type} : ∀ {xs ys : List (ND β)}, xs.length = ys.length → (∀ (i : Nat) (x y : ND β), xs[i]? = some x → ys[i]? = some y → Le x y) → Le (ND.join xs) (ND.join ys)
 | [], [], _, _ => Le.refl
 | x :: xs, y :: ys, hl, h => by
  intro l e
  have h1 := h 0 x y rfl rfl
  have h2 : Le (ND.join xs) (ND.join ys) := join_le (by simpa using hl) fun i a b ha hb => h (i + 1) a b (by simpa using ha) (by simpa using hb)
  simp only [ND.join] at e ⊢
  cases hx : x with
  | none => rw [hx] at e; cases e
  | some k =>
   cases hr : ND.join xs with
   | none => rw [hx, hr] at e; cases e
   | some m => rw [hx, hr] at e; rw [h1 k hx, h2 m hr]; exact e
theorem bind_le {α β : Type} {m m' : ND α} {f g : α → ND β} (hm : Le m m') (hf : ∀ x, Le (f x) (g x)) : Le (ND.bind m f) (ND.bind m' g) := by
 intro l e
 cases hk : m with
 | none => rw [hk] at e; cases e
 | some k =>
  rw [hk] at e
  rw [hm k hk]
  match k, e with
  | [], e => exact e
  | [x], e => exact hf x l e
  | x :: y :: r, e =>
   refine join_le (by simp) (fun i a b ha hb => ?_) l e
   simp only [List.getElem?_map] at ha hb
   cases hc : (x :: y :: r)[i]? with
   | none => rw [hc] at ha; cases ha
   | some z => rw [hc] at ha hb; cases ha; cases hb; exact hf z
theorem cond_le {α : Type} {c c' : Bool} {x y : Option α} (hc : c = true → c' = true) (h : Le x y) : Le (cond c x none) (cond c' y none) := by
 intro l e
 obtain ⟨h1, e⟩ := cond_t e
 rw [hc h1]; exact h l e
theorem ble_le {mk mk' i : Nat} (h : mk ≤ mk') : Nat.ble mk' i = true → Nat.ble mk i = true := fun e => Nat.ble_eq ▸ Nat.le_trans h (ble_t e)
theorem and_le {a a' b : Bool} (h : a = true → a' = true) : (a && b) = true → (a' && b) = true := fun e => by
 obtain ⟨h1, h2⟩ := and_t e; rw [h h1, h2]; rfl
theorem append_le {mk mk' : Nat} (hm : mk ≤ mk') {h : Heap} {esz bytes : Nat} {s : V} {xs : List (List V)} : Le (appendRows mk' h esz bytes s xs) (appendRows mk h esz bytes s xs) := by
 unfold appendRows
 cases xs with
 | nil => exact Le.refl
 | cons x xs =>
  dsimp only
  cases rowsOf h s with
  | none => exact Le.refl
  | some rs =>
   refine cond_le id ?_
   cases s with
   | sl i a b e f =>
    refine cond_le id ?_
    cases f with
    | true => exact Le.refl
    | false => exact cond_le (ble_le hm) Le.refl
   | _ => exact Le.refl
theorem W_le {mk mk' : Nat} (hm : mk ≤ mk') (o : WO) (tm : Tm) (h : Heap) : Le ((compW o).run mk' tm h) ((compW o).run mk tm h) := by
 cases o with
 | store n a x =>
  simp only [compW]
  split
  ·split
   ·split
    ·exact cond_le (and_le (and_le (and_le (and_le (ble_le hm))))) Le.refl
    ·exact Le.refl
   ·exact Le.refl
  ·exact Le.refl
 | mupd kn m k v =>
  simp only [compW]
  split
  ·split
   ·exact cond_le (and_le (ble_le hm)) Le.refl
   ·exact Le.refl
  ·exact Le.refl
 | del kn m k =>
  simp only [compW]
  split
  ·split
   ·exact cond_le (and_le (ble_le hm)) Le.refl
   ·exact Le.refl
  ·exact Le.refl
 | rngM x => exact Le.refl
 | nxtS it =>
  simp only [compW]
  split
  ·split
   ·exact cond_le (ble_le hm) Le.refl
   ·exact Le.refl
  ·exact Le.refl
 | append esz bytes s x =>
  simp only [compW]
  split
  ·exact append_le hm
  ·exact Le.refl
 | appendS s x =>
  simp only [compW]
  split
  ·exact append_le hm
  ·exact Le.refl
 | appendZ zero bytes s n => exact Le.refl
 | clear zero x =>
  simp only [compW]
  split
  ·exact Le.refl
  ·exact Le.refl
  ·rename_i i lo len e f _
   cases Nat.beq len 0 with
   | true => exact Le.refl
   | false =>
    simp only [cond]
    split
    ·exact cond_le (and_le (and_le (ble_le hm))) Le.refl
    ·exact Le.refl
  ·exact Le.refl
 | same x => exact Le.refl
structure EnvLe (e e' : Env) : Prop where
 call : ∀ fv args h, Le (e.callF fv args h) (e'.callF fv args h)
 meth : e'.meth = e.meth
 fu : e.fu ≤ e'.fu
 lim : e'.lim ≤ e.lim
section
variable {e e' : Env}
theorem cal_le (he : EnvLe e e') (c : Cal) (args : List V) (tm : Tm) (h : Heap) : Le ((calK c).run e args tm h) ((calK c).run e' args tm h) := by
 cases c with
 | dir f => exact he.call _ _ _
 | val x => exact he.call _ _ _
 | inv x m =>
  simp only [calK, he.meth]
  split
  ·split
   ·exact he.call _ _ _
   ·exact Le.refl
  ·exact Le.refl
theorem freeze_le {mk mk' : Nat} (hm : mk ≤ mk') (r : VH) : Le (frzV mk' r) (frzV mk r) := by
 unfold frzV
 split
 ·exact cond_le (ble_le hm) Le.refl
 ·exact Le.refl
 ·exact Le.refl
 ·exact Le.refl
theorem next_le {mk mk' : Nat} (hm : mk ≤ mk') (it : V) (h : Heap) : Le (nextM mk' it h) (nextM mk it h) := by
 unfold nextM
 split
 ·split
  ·split
   ·exact cond_le (and_le (and_le (and_le (ble_le hm)))) Le.refl
   ·exact Le.refl
  ·exact Le.refl
 ·exact Le.refl
theorem op_le (he : EnvLe e e') (dst : Option Nat) (op : IOp) (base : Nat) (st : St) : Le ((compOp dst op).run e base st) ((compOp dst op).run e' base st) := by
 cases op with
 | w o =>
  simp only [compOp]
  intro l hl
  split at hl
  ·rename_i r hr
   rw [W_le he.lim o st.tm st.h r hr]; exact hl
  ·cases hl
 | call c args frz =>
  refine bind_le (cal_le he _ _ _ _) fun r => ?_
  cases frz with
  | true =>
   intro l hl
   simp only [cond] at hl ⊢
   split at hl
   ·rename_i r' hr
    rw [freeze_le he.lim _ r' hr]; exact hl
   ·cases hl
  | false => exact Le.refl
 | nxtM it => exact bind_le (next_le he.lim _ _) fun _ => Le.refl
 | _ => exact Le.refl
theorem ins_le (he : EnvLe e e') (i : Ins) (base : Nat) (st : St) : Le ((compI i).run e base st) ((compI i).run e' base st) := by
 unfold compI
 split
 ·exact op_le he _ _ _ _
 ·dsimp only
  split
  ·rename_i g hg x c hx
   cases hc : (c == g.2) with
   | true => exact op_le he _ _ _ _
   | false => exact Le.refl
  ·exact Le.refl
  ·exact Le.refl
theorem list_le (he : EnvLe e e') (base : Nat) : ∀ (l : List Ins) (st : St), Le ((compL l).run e base st) ((compL l).run e' base st)
 | [], _ => Le.refl
 | i :: l, st => bind_le (ins_le he i base st) fun st => list_le he base l st
theorem single_le {α : Type} {x y : ND α} (h : Le x y) : Le (ND.single x) (ND.single y) := by
 intro l e
 have := ND.of_single e
 rw [h _ this]; rfl
theorem opsH_le (he : EnvLe e e') (base : Nat) : ∀ (l : List Ins) (st : St) (hs : List Heap), Le (opsH e base l st hs) (opsH e' base l st hs)
 | [], _, _ => Le.refl
 | i :: l, st, hs => by
  intro r hr
  simp only [opsH] at hr ⊢
  split at hr
  ·rename_i st' h1
   rw [single_le (ins_le he i base st) st' h1]
   exact opsH_le he base l st' _ r hr
  ·cases hr
theorem Le.none {α : Type} {x : Option α} : Le none x := fun _ h => by cases h
theorem loopN_le {b b' : St → ND OS} (h : ∀ st, Le (b st) (b' st)) : ∀ (n n' : Nat) (st : St), n ≤ n' → Le (loopN b n st) (loopN b' n' st)
 | 0, _, _, _ => Le.none
 | n + 1, 0, _, hn => by omega
 | n + 1, n' + 1, st, hn => bind_le (h st) fun r => by
  cases r.o with
  | normal => exact loopN_le h n n' r.s (by omega)
  | exit i => exact Le.refl
  | ret => exact Le.refl
theorem range_le (he : EnvLe e e') (fv : V) (ps : List Nat) (asg body : IC) (st : St) : Le (evRange e fv ps asg body st) (evRange e' fv ps asg body st) := by
 unfold evRange
 cases st.round with
 | true => exact Le.refl
 | false => exact bind_le (he.call _ _ _) fun _ => Le.refl
theorem code_le (he : EnvLe e e') : ∀ (c : IC) (st : St), Le ((compC c).run e st) ((compC c).run e' st)
 | .skip, _ => Le.refl
 | .ops l, st => bind_le (list_le he _ l st) fun _ => Le.refl
 | .dops na chk l, st => by
  intro r hr
  simp only [compC, evDops] at hr ⊢
  split at hr
  ·rename_i st' hs h1
   rw [opsH_le he _ _ _ _ _ h1]; exact hr
  ·cases hr
 | .seq a b, st => bind_le (code_le he a st) fun r => by
  cases r.o with
  | normal => exact code_le he b r.s
  | exit i => exact Le.refl
  | ret => exact Le.refl
 | .cond c a b, st => by
  simp only [compC]
  split
  ·rename_i t _
   cases t with
   | true => exact code_le he a st
   | false => exact code_le he b st
  ·exact Le.refl
 | .block id c, st => bind_le (code_le he c st) fun _ => Le.refl
 | .loop c, st => by
  show Le (loopN ((compC c).run e) e.fu st) (loopN ((compC c).run e') e'.fu st)
  exact loopN_le (fun st => code_le he c st) _ _ st he.fu
 | .rangeF f ps asg body, st => range_le he _ ps asg body st
 | .exit _, _ => Le.refl
 | .ret, _ => Le.refl
 | .bad, _ => Le.refl
end
theorem unwind_le {f g : V → List V → Heap → ND VH} (hf : ∀ fv args h, Le (f fv args h) (g fv args h)) {mk mk' : Nat} (hm : mk ≤ mk') : ∀ (l : List DefI) (h : Heap), Le (unwindD f mk' l h) (unwindD g mk l h)
 | [], _ => Le.refl
 | .mark i :: l, h => by
  simp only [unwindD]
  split
  ·exact cond_le (ble_le hm) (unwind_le hf hm l _)
  ·exact Le.refl
 | .call v :: l, h => bind_le (hf _ _ _) fun x => unwind_le hf hm l x.h
theorem noPrim_le {AP : Prog} {f g : V → List V → Heap → ND VH} (hf : ∀ fv args h, Le (f fv args h) (g fv args h)) : ∀ fv args h, Le (noPrim AP f fv args h) (noPrim AP g fv args h) := by
 intro fv args h
 unfold noPrim
 split
 ·split
  ·exact Le.refl
  ·exact hf _ _ _
 ·exact Le.refl
theorem runFn_le {AP : Prog} {f g : V → List V → Heap → ND VH} (hf : ∀ fv args h, Le (f fv args h) (g fv args h)) {fu fu' mk mk' : Nat} (hn : fu ≤ fu') (hm : mk ≤ mk') (F : IFn) (args : List V) (h : Heap) : Le (runFn AP f fu mk' F args h) (runFn AP g fu' mk F args h) := by
 unfold runFn
 refine cond_le id (bind_le (code_le (e := ⟨f, AP.meth, fu, mk'⟩) (e' := ⟨g, AP.meth, fu', mk⟩) ⟨hf, rfl, hn, hm⟩ F.body _) fun r => ?_)
 cases r.o with
 | exit i => exact Le.refl
 | normal => exact bind_le (unwind_le (noPrim_le hf) hm _ _) fun _ => Le.refl
 | ret => exact bind_le (unwind_le (noPrim_le hf) hm _ _) fun _ => Le.refl
theorem round_le {AP : Prog} {f g : V → List V → Heap → ND VH} (hf : ∀ fv args h, Le (f fv args h) (g fv args h)) {fu fu' mk mk' : Nat} (hn : fu ≤ fu') (hm : mk ≤ mk') (l : Nat) (args : List V) (h : Heap) : Le (runRound AP f fu mk' l args h) (runRound AP g fu' mk l args h) := by
 unfold runRound
 split
 ·have he : EnvLe ⟨f, AP.meth, fu, mk'⟩ ⟨g, AP.meth, fu', mk⟩ := ⟨hf, rfl, hn, hm⟩
  refine cond_le (and_le (ble_le hm)) (bind_le (code_le he _ _) fun r => ?_)
  intro k hk
  split at hk
  ·rename_i h1 h2 h3
   exact bind_le (code_le he _ _) (fun _ => Le.refl) k hk
  ·cases hk
 ·exact Le.refl
def Prog.Mon (AP : Prog) : Prop := ∀ f p, AP.prim f = some p → ∀ mk mk' args h, mk ≤ mk' → Le (p mk' args h) (p mk args h)
theorem dedup_le {h : Heap} {m m' : ND V} (hm : Le m m') : Le (dedup h m) (dedup h m') := by
 intro l e
 cases m with
 | none => cases e
 | some k => rw [hm k rfl]; exact e
theorem evCall_le {AP : Prog} (hp : AP.Mon) : ∀ (n n' mk mk' : Nat), n ≤ n' → mk ≤ mk' → ∀ fv args h, Le (evCall AP n mk' fv args h) (evCall AP n' mk fv args h)
 | 0, _, _, _, _, _ => fun _ _ _ => Le.none
 | n + 1, 0, _, _, hn, _ => by omega
 | n + 1, n' + 1, mk, mk', hn, hm => fun fv args h => by
  have hn' : n ≤ n' := by omega
  simp only [evCall]
  split
  ·split
   ·rename_i p hpp
    exact hp _ p hpp _ _ _ _ hm
   ·split
    ·exact Le.refl
    ·rename_i F hF
     cases F.pure with
     | true => exact dedup_le (bind_le (runFn_le (evCall_le hp n n' _ _ hn' (Nat.le_refl _)) hn' (Nat.le_refl _) F _ h) fun _ => Le.refl)
     | false => exact runFn_le (evCall_le hp n n' mk mk' hn' hm) hn' hm F _ h
  ·exact round_le (evCall_le hp n n' mk mk' hn' hm) hn' hm _ _ h
  ·exact Le.refl
theorem WF.lower {AP : Prog} (hp : AP.Mon) {d : Bool} {mk mk' : Nat} {fv : V} {args : List V} {h : Heap} {Q : VH → Prop} (hw : WF AP d mk' fv args h Q) (hm : mk ≤ mk') : WF AP d mk fv args h Q := by
 obtain ⟨l, N, h0, h1, h2, h3⟩ := hw
 exact ⟨l, N, h0, h1, fun n hn => evCall_le hp n n mk mk' (Nat.le_refl _) hm fv args h l (h2 n hn), h3⟩
theorem WF.ran {AP : Prog} (hp : AP.Mon) {d : Bool} {mk n : Nat} {fv : V} {args : List V} {h : Heap} {r : VH} (e : evCall AP n mk fv args h = some [r]) : WF AP d mk fv args h fun x => x = r :=
 ⟨[r], n, by simp, fun _ => rfl, fun m hm => evCall_le hp n m mk mk hm (Nat.le_refl _) fv args h _ e, by simp⟩
theorem WF.frame {AP : Prog} (hl : AP.Low) (hp : AP.Mon) {d : Bool} {mk : Nat} {fv : V} {args : List V} {h : Heap} {Q : VH → Prop} (hm : mk ≤ h.n) (hw : WF AP d h.n fv args h Q) : WF AP d mk fv args h fun r => Q r ∧ h.n ≤ r.h.n ∧ ∀ i, i < h.n → r.h.get i = h.get i :=
 WF.lower hp (WF.low hl hw (Nat.le_refl _)) hm
end Go.Abs
namespace Go.Abs
open Go
theorem sortP_low {mk : Nat} {args : List V} {h : Heap} {l : List VH} (e : sortP mk args h = some l) : ∀ r ∈ l, Lo mk h r.h := by
 unfold sortP at e
 split at e
 ·cases e; simp [Lo.refl]
 ·split at e
  ·obtain ⟨h1, e⟩ := cond_t e
   split at e
   ·cases e
    have := ble_t (and_t (and_t h1).1).2
    simpa using Lo.set this
   ·cases e
  ·cases e
 ·cases e
theorem sortP_le {mk mk' : Nat} (hm : mk ≤ mk') (args : List V) (h : Heap) : Le (sortP mk' args h) (sortP mk args h) := by
 unfold sortP
 split
 ·exact Le.refl
 ·split
  ·refine cond_le (fun e => ?_) Le.refl
   obtain ⟨e1, e2⟩ := and_t e
   obtain ⟨e3, e4⟩ := and_t e1
   rw [e2, e3, ble_le hm e4]; rfl
  ·exact Le.refl
 ·exact Le.refl
theorem prims_cases {f : Nat} {p : Nat → List V → Heap → ND VH} (h : PR.prim f = some p) : p = indexByteP ∨ p = sortP ∨ p = sortFuncP := by
 simp only [PR, prims] at h
 cases h1 : Nat.beq f 225 with
 | true => rw [h1] at h; cases h; exact .inl rfl
 | false =>
  rw [h1] at h
  cases h2 : Nat.beq f 105 with
  | true => rw [h2] at h; cases h; exact .inr (.inl rfl)
  | false =>
   rw [h2] at h
   cases h3 : Nat.beq f 226 with
   | true => rw [h3] at h; cases h; exact .inr (.inr rfl)
   | false => rw [h3] at h; cases h
theorem PR_low : PR.Low := by
 intro f p hp mk args h l e hm
 rcases prims_cases hp with rfl | rfl | rfl
 ·unfold indexByteP at e
  split at e
  ·obtain ⟨_, e⟩ := cond_t e; cases e; simp [Lo.refl]
  ·cases e
 ·exact sortP_low e
 ·unfold sortFuncP at e
  split at e
  ·exact sortP_low e
  ·cases e
theorem PR_mon : PR.Mon := by
 intro f p hp mk mk' args h hm
 rcases prims_cases hp with rfl | rfl | rfl
 ·exact Le.refl
 ·exact sortP_le hm _ _
 ·unfold sortFuncP
  split
  ·exact sortP_le hm _ _
  ·exact Le.refl
theorem WF.here {d : Bool} {mk : Nat} {fv : V} {args : List V} {h : Heap} {Q : VH → Prop} (hm : mk ≤ h.n) (hw : WF PR d h.n fv args h Q) : WF PR d mk fv args h fun r => Q r ∧ h.n ≤ r.h.n ∧ ∀ i, i < h.n → r.h.get i = h.get i :=
 WF.frame PR_low PR_mon hm hw
end Go.Abs
namespace Go.Abs
open Go Pr
set_option maxRecDepth 10000
def bndV (v : V) (top : Nat) : Option Nat := match v with
 | .int _ n => bnd n top
 | _ => none
@[simp] theorem bndV_int {k : IntKind} {n : Int} {top : Nat} : bndV (.int k n) top = bnd n top := (rfl)
@[simp] theorem opt_none {d top : Nat} {tm : Tm} : (optK none).run d top tm = some d := (rfl)
@[simp] theorem opt_some {x : Opd} {d top : Nat} {tm : Tm} : (optK (some x)).run d top tm = bndV (x.ev tm) top := (rfl)
def cutOf (len : Nat) (full : Bool) (h : Option Nat) (lo : Nat → Option Nat) : Option Cut := match h with
 | none => none
 | some h => match lo h with
  | none => none
  | some l => some ⟨l, h, full && Nat.beq h len⟩
theorem cutOf_some {len h l : Nat} {full : Bool} {lo : Nat → Option Nat} (e : lo h = some l) : cutOf len full (some h) lo = some ⟨l, h, full && decide (h = len)⟩ := by
 simp [cutOf, e]
@[simp] theorem cut_run {lo hi : Option Opd} {len : Nat} {full : Bool} {tm : Tm} : (cutK lo hi none).run len full tm = cutOf len full ((optK hi).run len len tm) fun h => (optK lo).run 0 h tm := (rfl)
def slCut (id b e : Nat) (r : Option Cut) : Option V := match r with
 | some r => some (.sl id (b + r.lo) (r.hi - r.lo) e r.full)
 | none => none
@[simp] theorem slCut_some {id b e : Nat} {r : Cut} : slCut id b e (some r) = some (.sl id (b + r.lo) (r.hi - r.lo) e r.full) := (rfl)
@[simp] theorem slice_sl {e id b n : Nat} {f : Bool} {k : KCut} {tm : Tm} : sliceV e k tm (.sl id b n e f) = slCut id b e (k.run n f tm) := by
 simp [sliceV, slCut]; rfl
def Sl.cut {α : Type} (s : Sl α) (lo hi : Nat) : Sl α := match s with
 | .nil => .nil
 | .of l => .of ((l.drop lo).take (hi - lo))
 | .full l => if hi = l.length then .full ((l.drop lo).take (hi - lo)) else .of ((l.drop lo).take (hi - lo))
@[simp] theorem cut_l {α : Type} (s : Sl α) (lo hi : Nat) : (s.cut lo hi).l = (s.l.drop lo).take (hi - lo) := by
 cases s with
 | nil => simp [Sl.cut]
 | of l => simp [Sl.cut]
 | full l => simp only [Sl.cut]; split <;> simp
theorem slice_enc {α : Type} {f : α → List V} {s : Sl α} {esz lo hi : Nat} {k : KCut} {tm : Tm} (he : ∀ a, (f a).length = esz) (hk : ∀ fl, k.run s.l.length fl tm = some ⟨lo, hi, fl && decide (hi = s.l.length)⟩) : sliceV esz k tm (s.enc f) = some ((s.cut lo hi).enc f) := by
 cases s with
 | nil => have h1 := hk true; simp only [l_nil, List.length_nil] at h1; simp [Sl.enc, sliceV, h1, Sl.cut]
 | of l =>
  have h1 := hk false
  have hl : rowsLen esz (l.map f) = true := by cases l <;> simp [rowsLen, he]
  simp only [l_of] at h1
  simp [Sl.enc, sliceV, hl, h1, Sl.cut, List.map_take, List.map_drop]
 | full l =>
  have h1 := hk true
  have hl : rowsLen esz (l.map f) = true := by cases l <;> simp [rowsLen, he]
  simp only [l_full] at h1
  by_cases hh : hi = l.length
  ·simp [Sl.enc, sliceV, hl, h1, Sl.cut, hh, List.map_take, List.map_drop]
  ·simp [Sl.enc, sliceV, hl, h1, Sl.cut, hh, List.map_take, List.map_drop]
theorem intRow_get {l : List Int} {r : Nat} (h : r < l.length) : (intRows l)[r]? = some [.int .i64 (lat l r)] := by
 simp [intRows, lat_get h]
@[simp] theorem intRows_len {l : List Int} : (intRows l).length = l.length := by simp [intRows]
theorem intRows_set {l : List Int} {r : Nat} {v : Int} : (intRows l).set r [.int .i64 v] = intRows (l.set r v) := by simp [intRows, List.map_set]
theorem lat_set {l : List Int} {r j : Nat} {v : Int} (h : j < l.length) : lat (l.set r v) j = if j = r then v else lat l j := by
 rw [lat_eq (by simpa using h), lat_eq h, List.getElem_set]
 by_cases e : j = r
 ·subst e; simp
 ·simp [e, Ne.symm e]
theorem iaddr_sl {e id b n : Nat} {f : Bool} {k : IntKind} {i : Int} (h0 : 0 ≤ i) (h1 : i < n) : iaddrV e (.sl id b n e f) (.int k i) = some (.ptr id (b + i.toNat) 0) := by
 simp [iaddrV, idx_int h0 h1]
def ddUp (l : List Int) : Nat → List Int
 | 0 => []
 | i + 1 => if i = 0 ∨ lat l i ≠ lat l (i - 1) then ddUp l i ++ [lat l i] else ddUp l i
def dd (l : List Int) : List Int := ddUp l l.length
theorem ddUp_le (l : List Int) : ∀ i, (ddUp l i).length ≤ i
 | 0 => by simp [ddUp]
 | i + 1 => by have := ddUp_le l i; simp only [ddUp]; split <;> simp <;> omega
theorem ddUp_all {l : List Int} : ∀ {i : Nat}, i ≤ l.length → (∀ j, 0 < j → j < i → lat l j ≠ lat l (j - 1)) → ddUp l i = l.take i
 | 0, _, _ => rfl
 | i + 1, hi, h => by
  have hlt : i < l.length := by omega
  rw [ddUp, ddUp_all (by omega) fun j h0 h1 => h j h0 (by omega), if_pos, List.take_add_one, lat_get hlt]
  ·rfl
  ·by_cases e : i = 0
   ·exact .inl e
   ·exact .inr (h i (by omega) (by omega))
theorem clear_ok {mk id lo n : Nat} {f : Bool} {x : Opd} {tm : Tm} {h : Heap} {L : List Int} (hx : x.ev tm = .sl id lo n 1 f) (hid : h.get id = some (.rows (intRows L))) (hm : mk ≤ id) (hl : lo + n ≤ L.length) :
  ∃ h' L', (compW (.clear [.int .i64 0] x)).run mk tm h = some ⟨.any, h'⟩ ∧ h'.n = h.n ∧ (∀ j, j ≠ id → h'.get j = h.get j) ∧ h'.get id = some (.rows (intRows L')) ∧ L'.length = L.length ∧ L'.take lo = L.take lo := by
 by_cases e : n = 0
 ·exact ⟨h, L, by simp [compW, hx, e], rfl, fun _ _ => rfl, hid, rfl, rfl⟩
 ·refine ⟨h.set id (.rows (intRows (L.take lo ++ List.replicate n 0 ++ L.drop (lo + n)))), L.take lo ++ List.replicate n 0 ++ L.drop (lo + n), ?_, rfl, fun j hj => by simp [hj], by simp, by simp; omega, by rw [List.append_assoc, List.take_append_of_le_length (by simp; omega), List.take_take, Nat.min_self]⟩
  simp [compW, hx, e, hid, hm, hl, intRows, List.map_take, List.map_drop]
structure Compacted (id : Nat) (h : Heap) (out : List Int) (r : VH) : Prop where
 n : r.h.n = h.n
 keep : ∀ j, j ≠ id → r.h.get j = h.get j
 v : ∃ f, r.v = .sl id 0 out.length 1 f
 rest : ∃ L, r.h.get id = some (.rows (intRows (out ++ L)))
theorem compact_ok {d : Bool} {mk id : Nat} {f : Bool} {h : Heap} {l : List Int} (hid : h.get id = some (.rows (intRows l))) (hm : mk ≤ id) (hl : l.length < 1000000000) :
  WF PR d mk (.fn 106 [] []) [.sl id 0 l.length 1 f] h (Compacted id h (dd l)) := by
 refine WF.fn (F := f106) rfl rfl rfl (Nat.le_of_ble_eq_true rfl) ?_
 refine wbodyS b106 [.tm 2] rfl rfl ?_
 unfold b106
 simp -dsimp
 rw [Br_bool]
 refine ⟨fun hb => ?_, fun hb => ?_⟩
 ·simp -dsimp [hb]
  simp at hb
  have e : dd l = l := by
   rw [dd, ddUp_all (Nat.le_refl _) (fun j h0 h1 => by omega)]; simp
  rw [e]
  exact ⟨rfl, fun _ _ => rfl, ⟨f, rfl⟩, [], by simpa using hid⟩
 ·simp -dsimp [hb]
  simp at hb
  refine wk_loop (fun k st => ∃ i : Int, 1 ≤ i ∧ (k : Int) = l.length - i ∧ (∀ j : Nat, 0 < j → j < i.toNat → lat l j ≠ lat l (j - 1)) ∧ (gK 3).run st.tm = .int .i64 i ∧ st.h = h ∧ st.defs = []) (l.length - 1) ⟨1, by simp, by omega, by simp; omega, by simp⟩ ?_
  rintro k ⟨tm, h', defs, round⟩ ⟨i, hi, hk, hd, h3, rfl, rfl⟩ hK
  have h0 := hK 0 rfl
  simp at h0 h3
  clear hK
  simp -dsimp [h0, h3]
  rw [Br_bool]
  refine ⟨fun hb1 => ?_, fun hb1 => ?_⟩
  ·simp at hb1
   have hlt : i.toNat < l.length := by omega
   have hlt2 : i.toNat - 1 < l.length := by omega
   have hi0 : 0 ≤ i := by omega
   have hi1 : 0 ≤ i - 1 := by omega
   have hi2 : i - 1 < l.length := by omega
   simp -dsimp [h0, h3, iaddr_sl hi0 hb1, fw64 (n := i - 1) (by omega) (by omega), iaddr_sl (e := 1) (id := id) (b := 0) (f := f) (k := .i64) hi1 hi2, hid, intRow_get hlt, intRow_get hlt2]
   rw [Br_bool]
   refine ⟨fun hb2 => ?_, fun hb2 => ?_⟩
   ·simp at hb2
    simp -dsimp [h0, h3, bnd_int (n := i) (top := l.length) hi0 (by omega), cutOf]
    refine wk_loop (fun k st => ∃ (a b : Int) (L : List Int), 1 ≤ a ∧ 1 ≤ b ∧ (k : Int) = l.length - i - b ∧ a ≤ i + b - 1 ∧ L.length = l.length ∧ b ≤ l.length - i ∧ L.take a.toNat = ddUp l (i + b).toNat ∧ (∀ j, (i + b - 1).toNat ≤ j → j < l.length → lat L j = lat l j) ∧
     (gK 3).run st.tm = .int .i64 a ∧ (gK 5).run st.tm = .int .i64 b ∧ st.h.n = h'.n ∧ (∀ j, j ≠ id → st.h.get j = h'.get j) ∧ st.h.get id = some (.rows (intRows L)) ∧ st.defs = []) (l.length - i.toNat - 1) ⟨i, 1, l, hi, by omega, by omega, by omega, rfl, by omega, ?_, fun _ _ _ => rfl, by simp [h3], by simp, rfl, fun _ _ => rfl, hid, rfl⟩ ?_
    ·rw [show (i + 1).toNat = i.toNat + 1 by omega, ddUp, if_neg (by rintro (e | e); omega; exact e hb2), ddUp_all (by omega) hd]
    ·rintro k2 ⟨tm2, h2, defs, round⟩ ⟨a, b, L, ha, hbb, hk2, hab, hLl, hble, htake, hsame, h3', h5, hn2, hkeep, hget, rfl⟩ hK
     have h0' := hK 0 rfl
     have h4 := hK 4 rfl
     simp [h0] at h0' h4 h3' h5 hn2 hkeep hget
     clear hK
     have hlen : (l.length - i.toNat : Nat) = (l.length : Int) - i := by omega
     simp -dsimp [h4, h5, hlen]
     rw [Br_bool]
     refine ⟨fun hc => ?_, fun hc => ?_⟩
     ·simp at hc
      have hb0 : 0 ≤ b := by omega
      have hb1' : b < ((l.length - i.toNat : Nat) : Int) := by omega
      have hb2' : 0 ≤ b - 1 := by omega
      have hb3' : b - 1 < ((l.length - i.toNat : Nat) : Int) := by omega
      have r1 : i.toNat + b.toNat < L.length := by omega
      have r2 : i.toNat + (b.toNat - 1) < L.length := by omega
      have v1 : lat L (i.toNat + b.toNat) = lat l (i + b).toNat := by rw [show (i + b).toNat = i.toNat + b.toNat by omega]; exact hsame _ (by omega) (by omega)
      have v2 : lat L (i.toNat + (b.toNat - 1)) = lat l ((i + b).toNat - 1) := by rw [show (i + b).toNat - 1 = i.toNat + (b.toNat - 1) by omega]; exact hsame _ (by omega) (by omega)
      have fb : fw .i64 (b + 1) = b + 1 := fw64 (by omega) (by omega)
      have fa : fw .i64 (a + 1) = a + 1 := fw64 (by omega) (by omega)
      simp -dsimp [h4, h5, iaddr_sl (e := 1) hb0 hb1', fw64 (n := b - 1) (by omega) (by omega), iaddr_sl (e := 1) (id := id) (b := i.toNat) (k := .i64) hb2' hb3', hget, intRow_get r1, intRow_get r2, v1, v2]
      rw [Br_bool]
      refine ⟨fun hd2 => ?_, fun hd2 => ?_⟩
      ·simp at hd2
       have ha0 : 0 ≤ a := by omega
       have ha1 : a < ((l.length : Nat) : Int) := by omega
       have r3 : a.toNat < L.length := by omega
       simp -dsimp [h0', h3', h4, h5, iaddr_sl (e := 1) hb0 hb1', iaddr_sl (e := 1) (id := id) (b := 0) (k := .i64) ha0 ha1, hget, intRow_get r1, intRow_get r3, v1, hm, fa, fb]
       rw [intRows_set]
       refine Again.intro (k2 - 1) (by omega) ⟨a + 1, b + 1, L.set a.toNat (lat l (i + b).toNat), by omega, by omega, by omega, by omega, by simp [hLl], by omega, ?_, fun j h1 h2 => ?_, by simp, by simp, by simp [hn2], fun j hj => by simp [hj, hkeep], by simp, rfl⟩
       ·rw [show (i + (b + 1)).toNat = (i + b).toNat + 1 by omega, ddUp, if_pos (.inr hd2), ← htake, show (a + 1).toNat = a.toNat + 1 by omega, List.take_add_one, List.getElem?_set_self (by omega), List.take_set, List.set_eq_of_length_le (by simp; omega)]
        rfl
       ·rw [lat_set (by omega), if_neg (by omega)]; exact hsame j (by omega) h2
      ·simp at hd2
       simp -dsimp [h5, fb]
       refine Again.intro (k2 - 1) (by omega) ⟨a, b + 1, L, by omega, by omega, by omega, by omega, hLl, by omega, ?_, fun j h1 h2 => hsame j (by omega) h2, by simp [h3'], by simp, hn2, hkeep, hget, rfl⟩
       rw [show (i + (b + 1)).toNat = (i + b).toNat + 1 by omega, ddUp, if_neg (by rintro (e | e); omega; exact e hd2), htake]
     ·simp at hc
      have ha0 : 0 ≤ a := by omega
      have hend : (i + b).toNat = l.length := by omega
      have hbl : ¬ b < (l.length : Int) - i := by omega
      have htake' : L.take a.toNat = dd l := by rw [htake, hend]; rfl
      have hddl : (dd l).length = a.toNat := by rw [← htake']; simp; omega
      simp -dsimp [hbl, h0', h3', bnd_int (n := a) (top := l.length) ha0 (by omega), cutOf]
      refine OpS.ex ?_
      obtain ⟨h3, L', q1, q2, q3, q4, q5, q6⟩ := clear_ok (x := Opd.t 56) (tm := (sK 56).run (V.sl id a.toNat (l.length - a.toNat) 1 f) ((sK 55).run (V.int IntKind.i64 a) ((sK 54).run (V.sl id 0 l.length 1 f) ((sK 32).run (V.bool false) ((sK 31).run (V.int IntKind.i64 (↑l.length - i)) ((sK 30).run (V.sl id i.toNat (l.length - i.toNat) 1 f) ((sK 29).run (V.int IntKind.i64 b) tm2))))))) (f := f) (lo := a.toNat) (n := l.length - a.toNat) (by simp) hget hm (by omega)
      refine ⟨_, q1, ?_⟩
      simp -dsimp [h0', h3', bnd_int (n := a) (top := l.length) ha0 (by omega), cutOf]
      refine ⟨by rw [q2, hn2], fun j hj => by rw [q3 j hj, hkeep j hj], ⟨_, by rw [hddl]⟩, L'.drop a.toNat, ?_⟩
      show h3.get id = _
      rw [q4, ← htake', ← q6, List.take_append_drop]
   ·simp at hb2
    simp -dsimp [h3, fw64 (n := i + 1) (by omega) (by omega)]
    refine Again.intro (k - 1) (by omega) ⟨i + 1, by omega, by omega, fun j h1 h2 => ?_, by simp, rfl, rfl⟩
    by_cases e : j = i.toNat
    ·subst e; exact hb2
    ·exact hd j h1 (by omega)
  ·simp at hb1
   have hb1' : decide (i < (l.length : Int)) = false := by simpa using hb1
   have e : dd l = l := by
    rw [dd, ddUp_all (Nat.le_refl _) (fun j h0 h1 => hd j h0 (by omega))]; simp
   simp -dsimp [hb1', h0, e]
   exact ⟨rfl, fun _ _ => rfl, ⟨f, rfl⟩, [], by simpa using hid⟩
def slId (v : V) : Option Nat := match v with
 | .sl id _ _ _ _ => some id
 | _ => none
def Own (h : Heap) (mk : Nat) (v : V) (esz : Nat) (rows : List (List V)) : Prop :=
 (v = .nils ∧ rows = []) ∨ ∃ id, v = .sl id 0 rows.length esz false ∧ h.get id = some (.rows rows) ∧ mk ≤ id ∧ id < h.n ∧ rows ≠ []
theorem Own.ext {h h' : Heap} {mk esz : Nat} {v : V} {rows : List (List V)} (hO : Own h mk v esz rows) (hk : ∀ j, j < h.n → h'.get j = h.get j) (hn : h.n ≤ h'.n) : Own h' mk v esz rows := by
 rcases hO with h1 | ⟨id, h1, h2, h3, h4, h5⟩
 ·exact .inl h1
 ·exact .inr ⟨id, h1, by rw [hk id h4, h2], h3, by omega, h5⟩
theorem Own.slId {h : Heap} {mk esz j : Nat} {v : V} {rows : List (List V)} (hO : Own h mk v esz rows) (hj : j < mk) : Go.Abs.slId v ≠ some j := by
 rcases hO with ⟨rfl, _⟩ | ⟨id, rfl, h2, h3, h4, h5⟩ <;> simp [Go.Abs.slId]
 omega
theorem onesR_all : ∀ {xs : List (List V)}, (∀ x ∈ xs, ones x = true) → onesR xs = true
 | [], _ => rfl
 | x :: xs, h => by
  have := onesR_all (xs := xs) fun y hy => h y (List.mem_cons_of_mem _ hy)
  simp [onesR, h x (by simp), this]
theorem own_append {h : Heap} {mk m0 esz bytes : Nat} {v : V} {rows xs : List (List V)} (hO : Own h m0 v esz rows) (h0 : mk ≤ m0) (hx : ∀ x ∈ xs, x.length = esz ∧ ones x = true) (hn : rows.length + xs.length < 4294967296) (hb : bytes < 1024) (hm : m0 ≤ h.n) :
  ∃ v' h', appendRows mk h esz bytes v xs = some ⟨v', h'⟩ ∧ Own h' m0 v' esz (rows ++ xs) ∧ h.n ≤ h'.n ∧ (∀ j, j < h.n → slId v ≠ some j → h'.get j = h.get j) ∧ (∀ j, slId v' = some j → h.n ≤ j ∨ slId v = some j) := by
 cases xs with
 | nil =>
  refine ⟨v, h, ?_, by simpa using hO, Nat.le_refl _, fun _ _ _ => rfl, fun _ h => .inr h⟩
  rcases hO with ⟨rfl, _⟩ | ⟨id, rfl, _⟩ <;> rfl
 | cons x xs =>
  have h1 := onesR_all fun y hy => (hx y hy).2
  have h2 := (hx x (by simp)).1
  rcases hO with ⟨rfl, rfl⟩ | ⟨id, rfl, hid, hmi, hlt, hne⟩
  ·refine ⟨.sl h.n 0 (x :: xs).length esz false, h.push (.rows (x :: xs)), ?_, .inr ⟨h.n, by simp, by simp, hm, by simp, by simp⟩, by simp, fun j hj _ => by simp; omega, fun j hj => .inl (by simp [slId] at hj; omega)⟩
   simp at hn
   simp [appendRows, rowsOf, roomFor, hb, h2, h1, hn]
  ·refine ⟨.sl h.n 0 (rows.length + (x :: xs).length) esz false, (h.kill id).push (.rows (rows ++ x :: xs)), ?_, .inr ⟨h.n, by simp, by simp, hm, by simp, by simp⟩, by simp, fun j hj hs => ?_, fun j hj => .inl (by simp [slId] at hj; omega)⟩
   ·have hmi' : mk ≤ id := by omega
    have hn' : rows.length + (xs.length + 1) < 4294967296 := by simpa using hn
    simp [hmi', appendRows, rowsOf, roomFor, hid, hb, h2, h1, hmi, hn']
   ·simp [slId] at hs
    rw [Heap.get_push, Heap.n_kill, if_neg (by omega), Heap.get_kill, if_neg (Ne.symm hs)]
theorem W_append {mk esz bytes : Nat} {s x : Opd} {tm : Tm} {h : Heap} {xs : List (List V)} (hx : rowsOf h (x.ev tm) = some xs) : (compW (.append esz bytes s x)).run mk tm h = appendRows mk h esz bytes (s.ev tm) xs := by
 simp [compW, hx]
@[simp] theorem rowsOf_slR {h : Heap} {rows : List (List V)} {f : Bool} : rowsOf h (.slR rows f) = some rows := (rfl)
@[simp] theorem fillRows_nil {esz : Nat} {rows : List (List V)} {tm : Tm} : fillRows esz rows tm [] = some rows := (rfl)
@[simp] theorem fillRows_cons {esz i : Nat} {rows : List (List V)} {tm : Tm} {x : Opd} {r : List (Nat × Opd)} : fillRows esz rows tm ((i, x) :: r) = cond (decide ((x.ev tm).cells.length = esz) && decide (0 < esz) && decide (i < rows.length)) (fillRows esz (rows.set i (x.ev tm).cells) tm r) none := by
 simp [fillRows]
theorem insI_len (x : Int) : ∀ l, (insI x l).length = l.length + 1
 | [] => rfl
 | y :: l => by simp only [insI]; cases leB x y <;> simp [insI_len x l]
@[simp] theorem sortI_len : ∀ l, (sortI l).length = l.length
 | [] => rfl
 | x :: l => by simp [sortI, insI_len, sortI_len l]
theorem intsOf_rows : ∀ l : List Int, intsOf (intRows l) = some l
 | [] => rfl
 | x :: l => by
  have := intsOf_rows l
  simp only [intRows] at this
  simp [intRows, intsOf, this]
theorem sort_ok {d : Bool} {mk m0 : Nat} {h : Heap} {v : V} {l : List Int} (hO : Own h m0 v 1 (intRows l)) (h0 : mk ≤ m0) (hl : l.length < 1000000000) :
  WF PR d mk (.fn 105 [] []) [v] h fun r => r.v = .tup [] ∧ Own r.h m0 v 1 (intRows (sortI l)) ∧ r.h.n = h.n ∧ ∀ j, slId v ≠ some j → r.h.get j = h.get j := by
 refine WF.prim (p := sortP) rfl ?_
 rcases hO with ⟨rfl, e⟩ | ⟨id, rfl, hid, hmi, hlt, hne⟩
 ·have : l = [] := by simpa [intRows] using e
  subst this
  exact W.one ⟨rfl, .inl ⟨rfl, rfl⟩, rfl, fun _ _ => rfl⟩
 ·have e : sortP mk ([] ++ [V.sl id 0 (intRows l).length 1 false] ++ []) h = some [⟨.tup [], h.set id (.rows (intRows (sortI l)))⟩] := by
   have : l.length < 4294967296 := by omega
   have hmi' : mk ≤ id := by omega
   simp [sortP, hid, hmi', intsOf_rows, this]
  refine W.out e (by simp) (fun _ => rfl) ?_
  intro r hr
  simp at hr
  subst hr
  refine ⟨rfl, .inr ⟨id, by simp, by simp, hmi, hlt, ?_⟩, rfl, fun j hj => ?_⟩
  ·intro e
   have : (sortI l).length = 0 := by simpa [intRows] using congrArg List.length e
   rw [sortI_len] at this
   exact hne (by simp [intRows, List.length_eq_zero_iff.1 this])
  ·simp [slId] at hj; simp [Ne.symm hj]
theorem compact_nil {d : Bool} {mk : Nat} {h : Heap} : WF PR d mk (.fn 106 [] []) [.nils] h fun r => r = ⟨.nils, h⟩ := by
 refine WF.fn (F := f106) rfl rfl rfl (Nat.le_of_ble_eq_true rfl) ?_
 refine wbodyS b106 [.tm 2] rfl rfl ?_
 unfold b106
 simp -dsimp
theorem freeze_sl {mk id lo len e : Nat} {f : Bool} {h : Heap} : freeze mk h depthMax (.sl id lo len e f) = cond (Nat.ble mk id) (match rowsOf h (.sl id lo len e false) with | some rows => (match allM (allM (freeze mk h 15)) rows with | some r => some (.slR r false) | none => none) | none => none) none := rfl
theorem frz_int_rows {mk k : Nat} {h : Heap} : ∀ l : List Int, allM (allM (freeze mk h (k + 1))) (intRows l) = some (intRows l)
 | [] => rfl
 | x :: l => by
  have := frz_int_rows (mk := mk) (k := k) (h := h) l
  simp only [intRows] at this
  have e : freeze mk h (k + 1) (.int .i64 x) = some (.int .i64 x) := rfl
  simp only [intRows, List.map_cons, allM, e, this]
def slOf (l : List Int) : Sl Int := if l = [] then .nil else .of l
@[simp] theorem slOf_l (l : List Int) : (slOf l).l = l := by unfold slOf; split <;> simp_all
theorem dd_nil {l : List Int} : dd l = [] ↔ l = [] := by
 constructor
 ·intro h
  cases hl : l with
  | nil => rfl
  | cons x r =>
   have key : ∀ i, 0 < i → ddUp l i ≠ [] := by
    intro i
    induction i with
    | zero => omega
    | succ i ih =>
     intro _ e
     simp only [ddUp] at e
     split at e
     ·simp at e
     ·rename_i hc
      exact ih (by omega) e
   exact absurd h (key _ (by simp [hl]))
 ·rintro rfl; rfl
theorem compactO {d : Bool} {mk m0 : Nat} {h : Heap} {v : V} {l : List Int} (hO : Own h m0 v 1 (intRows l)) (h0 : mk ≤ m0) (hl : l.length < 1000000000) :
  WF PR d mk (.fn 106 [] []) [v] h fun r => r.h.n = h.n ∧ (∀ j, slId v ≠ some j → r.h.get j = h.get j) ∧ (∀ n, n ≤ m0 → freeze n r.h depthMax r.v = some ((slOf (dd l)).enc intCells)) ∧
   ((r.v = .nils ∧ l = []) ∨ ∃ id f L, v = .sl id 0 l.length 1 false ∧ r.v = .sl id 0 (dd l).length 1 f ∧ r.h.get id = some (.rows (intRows (dd l ++ L)))) := by
 rcases hO with ⟨rfl, e⟩ | ⟨id, rfl, hid, hmi, hlt, hne⟩
 ·have : l = [] := by simpa [intRows] using e
  subst this
  refine W.mono compact_nil ?_
  rintro r rfl
  exact ⟨rfl, fun _ _ => rfl, fun _ _ => rfl, .inl ⟨rfl, rfl⟩⟩
 ·have hlen : (intRows l).length = l.length := by simp
  rw [hlen]
  refine W.mono (compact_ok hid (by omega) hl) ?_
  rintro ⟨v, h'⟩ ⟨c1, c2, ⟨f, rfl⟩, L, c4⟩
  simp only at c1 c2 c4
  refine ⟨c1, fun j hj => c2 j (by simp [slId] at hj; omega), fun n hn => ?_, .inr ⟨id, f, L, rfl, rfl, c4⟩⟩
  have hne' : l ≠ [] := fun e => hne (by simp [e, intRows])
  have hdd : dd l ≠ [] := fun e => hne' (dd_nil.1 e)
  have hni : n ≤ id := by omega
  have hr : rowsOf h' (.sl id 0 (dd l).length 1 false) = some (intRows (dd l)) := by
   simp [rowsOf, c4, intRows]
  rw [freeze_sl, hr]
  simp only [frz_int_rows, ble_dec, hni, decide_true, cond]
  simp [slOf, hdd, Sl.enc, intRows, intCells]
end Go.Abs
namespace Go.Abs
open Go Pr
set_option maxRecDepth 10000
def OwnJ (h : Heap) (mk : Nat) (v : V) (esz : Nat) (rows : List (List V)) : Prop :=
  (v = .nils ∧ rows = []) ∨ ∃ id L, v = .sl id 0 rows.length esz false ∧ h.get id = some (.rows (rows ++ L)) ∧ mk ≤ id ∧ id < h.n
theorem ownJ_append {h : Heap} {mk m0 esz bytes : Nat} {v : V} {rows xs : List (List V)} (hO : OwnJ h m0 v esz rows) (h0 : mk ≤ m0) (hx : ∀ x ∈ xs, x.length = esz ∧ ones x = true) (hn : rows.length + xs.length < 4294967296) (hb : bytes < 1024) (hm : m0 ≤ h.n) :
    ∃ v' h', appendRows mk h esz bytes v xs = some ⟨v', h'⟩ ∧ OwnJ h' m0 v' esz (rows ++ xs) ∧ h.n ≤ h'.n ∧ (∀ j, j < m0 → h'.get j = h.get j) := by
  cases xs with
  | nil =>
    refine ⟨v, h, ?_, by simpa using hO, Nat.le_refl _, fun _ _ => rfl⟩
    rcases hO with ⟨rfl, _⟩ | ⟨id, L, rfl, _⟩ <;> rfl
  | cons x xs =>
    have h1 := onesR_all fun y hy => (hx y hy).2
    have h2 := (hx x (by simp)).1
    have hn' : rows.length + (xs.length + 1) < 4294967296 := by simpa using hn
    rcases hO with ⟨rfl, rfl⟩ | ⟨id, L, rfl, hid, hmi, hlt⟩
    · refine ⟨.sl h.n 0 (x :: xs).length esz false, h.push (.rows (x :: xs)), ?_, .inr ⟨h.n, [], by simp, by simp, hm, by simp⟩, by simp, fun j hj => by simp; omega⟩
      simp at hn
      simp [appendRows, rowsOf, roomFor, hb, h2, h1, hn]
    · refine ⟨.sl h.n 0 (rows.length + (x :: xs).length) esz false, (h.kill id).push (.rows (rows ++ x :: xs)), ?_, .inr ⟨h.n, [], by simp, by simp, hm, by simp⟩, by simp, fun j hj => by rw [Heap.get_push, Heap.n_kill, if_neg (by omega), Heap.get_kill, if_neg (by omega)]⟩
      have hmi' : mk ≤ id := by omega
      have hr : rowsOf h (.sl id 0 rows.length esz false) = some rows := by simp [rowsOf, hid]
      simp [appendRows, roomFor, hr, hb, h2, h1, hmi', hn']
theorem OwnJ.ext {h h' : Heap} {mk esz : Nat} {v : V} {rows : List (List V)} (hO : OwnJ h mk v esz rows) (hk : ∀ j, mk ≤ j → j < h.n → h'.get j = h.get j) (hn : h.n ≤ h'.n) : OwnJ h' mk v esz rows := by
  rcases hO with h1 | ⟨id, L, h1, h2, h3, h4⟩
  · exact .inl h1
  · exact .inr ⟨id, L, h1, by rw [hk id h3 h4, h2], h3, by omega⟩
@[simp] theorem P_cap_nil {x : Opd} {tm : Tm} : (compP (.cap x)).run tm = (match x.ev tm with
    | .nils => some (.int .i64 0)
    | .sl _ _ n _ f => cond f (some (.int .i64 (.ofNat n))) none
    | .slR r f => cond f (some (.int .i64 (.ofNat r.length))) none
    | _ => none) := (rfl)
def appendZV (zero : List V) (bytes : Nat) (s : V) (n : Int) (h : Heap) : Option VH := match n with
  | .ofNat m => cond (Nat.blt 0 m && roomFor m bytes)
    (match s with
    | .nils => some ⟨.sl h.n 0 m zero.length false, h.push (.rows (List.replicate m zero))⟩
    | _ => none) none
  | _ => none
@[simp] theorem W_appendZ {zero : List V} {bytes mk : Nat} {s n : Opd} {tm : Tm} {h : Heap} : (compW (.appendZ zero bytes s n)).run mk tm h = (match n.ev tm with | .int _ m => appendZV zero bytes (s.ev tm) m h | _ => none) := by
  simp only [compW]
  cases n.ev tm with
  | int k m => cases m <;> rfl
  | _ => rfl
theorem appendZ_nat {zero : List V} {bytes m : Nat} {h : Heap} (h0 : 0 < m) (h1 : m < 4294967296) (hb : bytes < 1024) : appendZV zero bytes .nils (m : Int) h = some ⟨.sl h.n 0 m zero.length false, h.push (.rows (List.replicate m zero))⟩ := by
  show cond (Nat.blt 0 m && roomFor m bytes) _ none = _
  simp [roomFor, h0, h1, hb]
@[simp] theorem sliceV_nils {e : Nat} {k : KCut} {tm : Tm} : sliceV e k tm .nils = (match k.run 0 true tm with
    | some _ => some .nils
    | none => none) := (rfl)
def growBody (zero : List V) (esz bytes : Nat) : IC :=
  (.seq (.ops [i 4 (.p (.mov (.c .nils)))])
  (.seq (.seq (.ops [i 5 (.p (.mov (.t 1))), i 6 (.p (.bin .lss (.t 5) (.c (.int .i64 0))))])
    (.cond (.t 6)
     (.ops [i 7 (.p (.mki 1 (.c (.str [99, 97, 110, 110, 111, 116, 32, 98, 101, 32, 110, 101, 103, 97, 116, 105, 118, 101])))), n (.bad)])
     .skip))
   (.seq (.seq (.ops [i 8 (.p (.mov (.t 1))), i 9 (.p (.mov (.t 0))), i 10 (.p (.cap (.t 9))), i 11 (.p (.mov (.t 0))), i 12 (.r (.len .sl (.t 11))), i 13 (.p (.bin .sub (.t 10) (.t 12))), i 14 (.p (.bin .sub (.t 8) (.t 13))), i 1 (.p (.mov (.t 14)))])
     (.seq (.ops [i 15 (.p (.mov (.t 1))), i 16 (.p (.bin .gtr (.t 15) (.c (.int .i64 0))))])
      (.cond (.t 16)
       (.ops [i 17 (.p (.mov (.t 0))), i 18 (.p (.mov (.t 0))), i 19 (.p (.cap (.t 18))), i 20 (.p (.slice esz (.t 17) none (some (.t 19)) none)), i 21 (.p (.mov (.t 1))), i 22 (.w (.appendZ zero bytes (.t 20) (.t 21))), i 23 (.p (.mov (.t 0))), i 24 (.r (.len .sl (.t 23))), i 25 (.p (.slice esz (.t 22) none (some (.t 24)) none)), i 0 (.p (.mov (.t 25)))])
       .skip)))
    (.seq (.ops [i 26 (.p (.mov (.t 0))), i 4 (.p (.mov (.t 26)))])
     .ret))))
def growF (zero : List V) (esz bytes : Nat) : IFn := ⟨false, 27, [.tm 4], growBody zero esz bytes⟩
theorem grow_ok {f esz bytes k : Nat} {zero : List V} {d : Bool} {mk : Nat} {h : Heap} (hF : PR.fn f = some (growF zero esz bytes)) (hp : PR.prim f = none) (hz : zero.length = esz) (hb : bytes < 1024) (hk : k < 4294967296) (hm : mk ≤ h.n) :
    WF PR d mk (.fn f [] []) [.nils, .int .i64 k] h fun r => OwnJ r.h h.n r.v esz [] ∧ h.n ≤ r.h.n ∧ ∀ j, j < h.n → r.h.get j = h.get j := by
  refine WF.fn hp hF rfl (Nat.le_of_ble_eq_true rfl) ?_
  refine wbodyS (growBody zero esz bytes) [.tm 4] rfl rfl ?_
  unfold growBody
  have e1 : ¬ ((k : Int) < 0) := by omega
  have e2 : fw .i64 (0 - 0) = 0 := rfl
  have e3 : fw .i64 ((k : Int) - 0) = k := by rw [fw64 (by omega) (by omega)]; omega
  have e4 : fw .i64 (k : Int) = k := fw64 (by omega) (by omega)
  have e5 : fw .i64 0 = 0 := rfl
  simp -dsimp [e1, e2, e3, e4, e5]
  rw [Br_bool]
  refine ⟨fun hc => ?_, fun hc => ?_⟩
  · simp at hc
    have b0 : bnd 0 0 = some 0 := rfl
    have b1 : bnd 0 k = some 0 := bnd_int (n := 0) (by omega) (by omega)
    simp -dsimp [b0, b1, cutOf, appendZ_nat hc hk hb, hz]
    refine ⟨.inr ⟨h.n, List.replicate k zero, by simp, by simp, Nat.le_refl _, by simp⟩, fun j hj => ?_⟩
    intro e; omega
  · simp -dsimp
    exact .inl ⟨rfl, rfl⟩
def concatBody (esz bytes f : Nat) : IC :=
  (.seq (.ops [i 2 (.p (.mov (.c .nils)))])
  (.seq (.ops [i 3 (.p (.mov (.c (.int .i64 0))))])
   (.seq (.seq (.ops [i 9 (.p (.mov (.t 0))), i 10 (.r (.len .sl (.t 9))), i 11 (.p (.mov (.c (.int .i64 0))))])
     (.block 0
      (.loop
       (.seq (.ops [i 12 (.p (.bin .lss (.t 11) (.t 10)))])
        (.seq (.cond (.t 12)
          .skip
          (.exit 0))
         (.seq (.block 1
           (.seq (.ops [i 13 (.p (.iaddr 1 (.t 9) (.t 11))), i 14 (.r (.load none (.t 13))), i 5 (.p (.mov (.t 14)))])
            (.seq (.ops [i 15 (.p (.mov (.t 3))), i 16 (.p (.mov (.t 5))), i 17 (.r (.len .sl (.t 16))), i 18 (.p (.bin .add (.t 15) (.t 17))), i 3 (.p (.mov (.t 18)))])
             (.seq (.ops [i 19 (.p (.mov (.t 3))), i 20 (.p (.bin .lss (.t 19) (.c (.int .i64 0))))])
              (.cond (.t 20)
               (.ops [i 21 (.p (.mki 1 (.c (.str [108, 101, 110, 32, 111, 117, 116, 32, 111, 102, 32, 114, 97, 110, 103, 101])))), n (.bad)])
               .skip)))))
          (.ops [i 22 (.p (.bin .add (.t 11) (.c (.int .i64 1)))), i 11 (.p (.mov (.t 22)))])))))))
    (.seq (.ops [i 23 (.p (.mov (.t 3))), i 24 (.call (.dir f) [(.c .nils), (.t 23)] false), i 6 (.p (.mov (.t 24)))])
     (.seq (.seq (.ops [i 25 (.p (.mov (.t 0))), i 26 (.r (.len .sl (.t 25))), i 27 (.p (.mov (.c (.int .i64 0))))])
       (.block 2
        (.loop
         (.seq (.ops [i 28 (.p (.bin .lss (.t 27) (.t 26)))])
          (.seq (.cond (.t 28)
            .skip
            (.exit 2))
           (.seq (.block 3
             (.seq (.ops [i 29 (.p (.iaddr 1 (.t 25) (.t 27))), i 30 (.r (.load none (.t 29))), i 8 (.p (.mov (.t 30)))])
              (.ops [i 31 (.p (.mov (.t 6))), i 32 (.p (.mov (.t 8))), i 33 (.w (.append esz bytes (.t 31) (.t 32))), i 6 (.p (.mov (.t 33)))])))
            (.ops [i 34 (.p (.bin .add (.t 27) (.c (.int .i64 1)))), i 27 (.p (.mov (.t 34)))])))))))
      (.seq (.ops [i 35 (.p (.mov (.t 6))), i 2 (.p (.mov (.t 35)))])
       .ret))))))
def concatF (pure : Bool) (esz bytes f : Nat) : IFn := ⟨pure, 36, [.tm 2], concatBody esz bytes f⟩
theorem shapes : Pr.b135 = concatBody 3 40 164 ∧ Pr.b164 = growBody [.int .i64 0, .nils, .int .i64 0] 3 40 ∧ Pr.b193 = concatBody 2 16 218 ∧ Pr.b218 = growBody [.int .i64 0, .int .i64 0] 2 16 := ⟨rfl, rfl, rfl, rfl⟩
def catUp {α : Type} [Inhabited α] (ls : List (Sl α)) : Nat → List α
  | 0 => []
  | i + 1 => catUp ls i ++ (lat ls i).l
theorem concat_body {α : Type} [Inhabited α] {enc : α → List V} {f esz bytes : Nat} {zero : List V} {d : Bool} {mk : Nat} {h : Heap} {v : V} {ls : List (Sl α)} {Q : VH → Prop} (hF : PR.fn f = some (growF zero esz bytes)) (hp : PR.prim f = none) (hz : zero.length = esz) (hb : bytes < 1024) (hm : mk ≤ h.n)
    (henc : ∀ a, (enc a).length = esz ∧ ones (enc a) = true) (hlen : ∀ h, lenV .sl v h = some (.int .i64 ls.length)) (hget : ∀ i : Int, 0 ≤ i → i < ls.length → ∃ p, iaddrV 1 v (.int .i64 i) = some p ∧ ∀ h, loadV none p h = some ((lat ls i.toNat).enc enc))
    (hsm : ls.length < 1000000) (hsum : ∀ i, i ≤ ls.length → (catUp ls i).length < 1000000000)
    (hQ : ∀ v' h', OwnJ h' h.n v' esz ((catUp ls ls.length).map enc) → h.n ≤ h'.n → (∀ j, j < h.n → h'.get j = h.get j) → Q ⟨v', h'⟩) :
    wbody PR d mk (concatF true esz bytes f) [v] h Q := by
  refine wbodyS (concatBody esz bytes f) [.tm 2] rfl rfl ?_
  unfold concatBody
  simp -dsimp [hlen]
  refine wk_loop (fun k st => ∃ i : Int, 0 ≤ i ∧ (k : Int) = ls.length - i ∧ (gK 11).run st.tm = .int .i64 i ∧ (gK 3).run st.tm = .int .i64 (catUp ls i.toNat).length ∧ st.h = h ∧ st.defs = []) ls.length ⟨0, by omega, by omega, by simp, by simp [catUp], rfl, rfl⟩ ?_
  rintro k ⟨tm, h1, defs, round⟩ ⟨i, hi, hk, h11, h3, rfl, rfl⟩ hK
  have h0 := hK 0 rfl
  have h9 := hK 9 rfl
  have h10 := hK 10 rfl
  simp at h0 h9 h10 h11 h3
  clear hK
  simp -dsimp [h10, h11]
  rw [Br_bool]
  refine ⟨fun hc => ?_, fun hc => ?_⟩
  · simp at hc
    obtain ⟨p, p1, p2⟩ := hget i hi hc
    have hs := hsum (i.toNat + 1) (by omega)
    rw [catUp, List.length_append] at hs
    have e3 : ¬ (((catUp ls i.toNat).length : Int) + ((lat ls i.toNat).l.length : Int) < 0) := by omega
    have e1' : fw .i64 (((catUp ls i.toNat).length : Int) + (lat ls i.toNat).l.length) = ((catUp ls i.toNat).length : Int) + (lat ls i.toNat).l.length := fw64 (by omega) (by omega)
    simp -dsimp [h9, h11, h3, p1, p2, e1', e3, fw64 (n := i + 1) (by omega) (by omega)]
    refine Again.intro (k - 1) (by omega) ⟨i + 1, by omega, by omega, by simp, ?_, rfl, rfl⟩
    rw [show (i + 1).toNat = i.toNat + 1 by omega, catUp]; simp
  · simp at hc
    have hc' : decide (i < (ls.length : Int)) = false := by simpa using hc
    have hi2 : catUp ls i.toNat = catUp ls ls.length := by
      by_cases e : i.toNat = ls.length
      · rw [e]
      · have : (k : Int) < 0 := by omega
        omega
    simp -dsimp [hc', h3]
    refine WFS.by (grow_ok hF hp hz hb (by have := hsum ls.length (Nat.le_refl _); rw [hi2]; omega) hm) ?_
    rintro v2 h2 ⟨hO, hn2, hk2⟩
    simp -dsimp [h0, hlen]
    refine wk_loop (fun k st => ∃ i : Int, 0 ≤ i ∧ (k : Int) = ls.length - i ∧ (gK 27).run st.tm = .int .i64 i ∧ OwnJ st.h h1.n ((gK 6).run st.tm) esz ((catUp ls i.toNat).map enc) ∧ h1.n ≤ st.h.n ∧ (∀ j, j < h1.n → st.h.get j = h1.get j) ∧ st.defs = []) ls.length ⟨0, by omega, by omega, by simp, by simpa [catUp] using hO, hn2, hk2, rfl⟩ ?_
    rintro k3 ⟨tm3, h4, defs, round⟩ ⟨j, hj, hk3, h27, hO3, hn3, hkk3, rfl⟩ hK
    have h25 := hK 25 rfl
    have h26 := hK 26 rfl
    simp at h25 h26 h27 hO3 hn3 hkk3
    clear hK
    simp -dsimp [h26, h27]
    rw [Br_bool]
    refine ⟨fun hd => ?_, fun hd => ?_⟩
    · simp at hd
      obtain ⟨p, p1, p2⟩ := hget j hj hd
      have hs := hsum (j.toNat + 1) (by omega)
      rw [catUp, List.length_append] at hs
      simp -dsimp [h25, h27, p1, p2]
      refine OpS.ex ?_
      rw [W_append (xs := (lat ls j.toNat).l.map enc) (by simp)]
      obtain ⟨v', h5, w1, w2, w3, w4⟩ := ownJ_append (mk := mk) (bytes := bytes) (xs := (lat ls j.toNat).l.map enc) hO3 hm (fun x hx => by obtain ⟨a, _, rfl⟩ := List.mem_map.1 hx; exact henc a) (by simp; omega) hb hn3
      simp only [ev_t, gK_sK, Nat.reduceEqDiff, if_false, if_true]
      refine ⟨_, w1, ?_⟩
      simp -dsimp [h27, fw64 (n := j + 1) (by omega) (by omega)]
      refine Again.intro (k3 - 1) (by omega) ⟨j + 1, by omega, by omega, by simp, ?_, by simp; omega, fun q hq => by rw [w4 q hq, hkk3 q hq], rfl⟩
      rw [show (j + 1).toNat = j.toNat + 1 by omega, catUp]; simpa using w2
    · simp at hd
      have hd' : decide (j < (ls.length : Int)) = false := by simpa using hd
      have hj2 : j.toNat = ls.length := by
        by_cases e : j.toNat = ls.length
        · exact e
        · omega
      rw [hj2] at hO3
      simp -dsimp [hd']
      exact hQ _ _ (by simpa using hO3) hn3 hkk3
end Go.Abs
namespace Go.Abs
open Go Pr
set_option maxRecDepth 10000
def rgOk (l : List Rg) (i : Nat) : Bool :=
 !(decide ((lat l i).lo < 0) || decide ((lat l i).hi < (lat l i).lo) || decide (1114111 < (lat l i).hi) || (decide (0 < i) && decide ((lat l i).lo - 1 ≤ (lat l (i - 1)).hi)))
def rgUpto (l : List Rg) : Nat → Bool
 | 0 => true
 | i + 1 => rgUpto l i && rgOk l i
def rgMay (l : List Rg) : Bool := rgUpto l l.length
theorem rgUpto_le {l : List Rg} {i : Nat} (h : rgUpto l i = false) : ∀ {j : Nat}, i ≤ j → rgUpto l j = false := by
 intro j hj
 induction j with
 | zero => rw [Nat.le_zero.1 hj] at h; exact h
 | succ j ih =>
  by_cases e : i = j + 1
  ·rw [e] at h; exact h
  ·simp [rgUpto, ih (by omega)]
theorem rmay_ok (s : Sl Rg) (hs : s.l.length < 1000000000) {d : Bool} {mk : Nat} {h : Heap} : WF PR d mk (.fn 58 [] []) [s.enc Rg.cells] h fun r => r = ⟨.bool (rgMay s.l), h⟩ := by
 refine WF.pureOne (F := f58) rfl rfl rfl (Nat.le_of_ble_eq_true rfl) ?_
 refine wbodyS b58 [.tm 2] rfl rfl ?_
 unfold b58
 simp -dsimp
 refine wk_loop (fun k st => ∃ (i : Int), 0 ≤ i ∧ (k : Int) = s.l.length - i ∧ rgUpto s.l i.toNat = true ∧ (gK 7).run st.tm = .int .i64 i ∧ h.n ≤ st.h.n ∧ st.defs = []) s.l.length ⟨0, by simp [rgUpto]⟩ ?_
 rintro k ⟨tm, h', defs, round⟩ ⟨i, hi, hk, hx, h7, hn, rfl⟩ hK
 have h0 := hK 0 rfl
 have h5 := hK 5 rfl
 have h6 := hK 6 rfl
 simp at h0 h5 h6 h7 hn
 clear hK
 simp -dsimp [h6, h7]
 rw [Br_bool]
 refine ⟨fun hl => ?_, fun hl => ?_⟩
 ·simp at hl
  have hbad : rgOk s.l i.toNat = false → rgMay s.l = false := fun e => rgUpto_le (i := i.toNat + 1) (by simp [rgUpto, e]) (by omega)
  have hgood : rgOk s.l i.toNat = true → rgUpto s.l (i + 1).toNat = true := fun e => by
   rw [show (i + 1).toNat = i.toNat + 1 by omega]; simp [rgUpto, e, hx]
  have hf : fw .i64 (i + 1) = i + 1 := fw64 (by omega) (by omega)
  simp -dsimp [h0, h5, h6, h7, hl, hi, hn, Rg.cells]
  rw [Gd_f]
  refine ⟨fun hb1 => ?_, fun hb1 => ?_⟩
  ·simp -dsimp [hb1]
   rw [Gd_f]
   refine ⟨fun hb2 => ?_, fun hb2 => ?_⟩
   ·simp -dsimp [hb2]
    rw [Gd_f]
    refine ⟨fun hb3 => ?_, fun hb3 => ?_⟩
    ·simp -dsimp [hb3]
     rw [Gd_t]
     refine ⟨fun hb4 => ?_, fun hb4 => ?_⟩
     ·simp -dsimp [hb4]
      simp at hb1 hb2 hb3 hb4
      simp -dsimp [h0, fw64 (n := (lat s.l i.toNat).lo - 1) (by omega) (by omega), fw64 (n := i - 1) (by omega) (by omega), iaddr_Rg (k := .i64) (n := i - 1) (s := s) (by omega) (by omega), Rg.cells]
      rw [Br_bool]
      refine ⟨fun hb5 => ?_, fun hb5 => ?_⟩
      ·have := hbad (by cases hk : rgOk s.l i.toNat with | false => rfl | true => simp [rgOk] at hk hb5; omega)
       simp -dsimp [this]
      ·simp -dsimp [h7, hf]
       simp at hb5
       exact Again.intro (k - 1) (by omega) ⟨i + 1, by omega, by omega, hgood (by simp [rgOk]; omega), by simp; omega⟩
     ·simp -dsimp [hb4, h7, hf]
      simp at hb1 hb2 hb3 hb4
      exact Again.intro (k - 1) (by omega) ⟨i + 1, by omega, by omega, hgood (by simp [rgOk]; omega), by simp; omega⟩
    ·have := hbad (by cases hk : rgOk s.l i.toNat with | false => rfl | true => simp [rgOk] at hk hb3; omega)
     simp -dsimp [hb3, this]
   ·have := hbad (by cases hk : rgOk s.l i.toNat with | false => rfl | true => simp [rgOk] at hk hb2; omega)
    simp -dsimp [hb2, this]
  ·have := hbad (by cases hk : rgOk s.l i.toNat with | false => rfl | true => simp [rgOk] at hk hb1; omega)
   simp -dsimp [hb1, this]
 ·simp at hl
  have hl' : decide (i < (s.l.length : Int)) = false := by simpa using hl
  have : rgMay s.l = true := by
   cases hm : rgMay s.l with
   | true => rfl
   | false => rw [rgUpto_le hm (j := i.toNat) (by omega)] at hx; exact hx
  simp -dsimp [hl', this]
theorem setIn_ok (s : Sy) (r : Rg) {d : Bool} {mk id : Nat} {h : Heap} (hid : h.get id = some (.rows [s.cells])) (hlt : id < h.n) : WF PR d mk (.fn 90 [] [.ptr id 0 0]) [.agg r.cells] h fun v => v = ⟨.bool (decide (s.kind = 0) && decide (255 < r.hi)), h⟩ := by
 refine WF.pureOne (F := f90) rfl rfl rfl (Nat.le_of_ble_eq_true rfl) ?_
 refine wbodyS b90 [.tm 3] rfl rfl ?_
 unfold b90
 have e : ¬ id = h.n := by omega
 simp -dsimp [hid, e, Sy.cells, Rg.cells]
 rw [Gd_t]
 refine ⟨fun hb1 => ?_, fun hb1 => ?_⟩
 ·simp -dsimp [hb1]
 ·simp -dsimp [hb1]
def setB (s : Sy) : Bool := decide (s.n = 0) && !(s.r.l.any fun r => decide (s.kind = 0) && decide (255 < r.hi)) && rgMay s.r.l
theorem set_ok (s : Sy) (hs : s.r.l.length < 1000000000) {d : Bool} {mk : Nat} {h : Heap} : WF PR d mk (.fn 55 [] []) [.agg s.cells] h fun v => v = ⟨.bool (setB s), h⟩ := by
 refine WF.pureOne (F := f55) rfl rfl rfl (Nat.le_of_ble_eq_true rfl) ?_
 refine wbodyS b55 [.tm 2] rfl rfl ?_
 unfold b55
 simp -dsimp [Sy.cells]
 refine WFS.by (con_ok (f := 130) (g := 89) (esz := 2) (ld := some 2) (arg := fun r => .agg r.cells) (p := fun r => decide (s.kind = 0) && decide (255 < r.hi)) rfl rfl rfl rfl (fun _ => rfl) (fun _ => rfl) hs fun r _ => setIn_ok s r (by simp [Sy.cells]) (by simp)) ?_
 intro v h' e
 cases e
 simp -dsimp
 rw [Gd_t]
 refine ⟨fun hb1 => ?_, fun hb1 => ?_⟩
 ·simp -dsimp [hb1]
  rw [Gd_t]
  refine ⟨fun hb2 => ?_, fun hb2 => ?_⟩
  ·simp -dsimp [hb2]
   refine WFS.by (rmay_ok s.r hs) ?_
   intro v h' e
   cases e
   have : setB s = rgMay s.r.l := by simp only [setB, hb1, hb2]; rfl
   simp -dsimp [this]
  ·have : setB s = false := by simp only [setB, hb1, hb2]; rfl
   simp -dsimp [hb2, this]
 ·have : setB s = false := by simp only [setB, hb1]; rfl
  simp -dsimp [hb1, this]
def badB (many : Int) (s : Sy) : Bool :=
 if s.kind = 0 ∨ s.kind = 1 then !setB s else if s.kind = 2 then decide (s.n < 0) || decide (many ≤ s.n) || decide (0 < s.r.l.length) else true
theorem bad_ok (s : Sy) (many : Int) (hs : s.r.l.length < 1000000000) {d : Bool} {mk id : Nat} {h : Heap} (hid : h.get id = some (.rows [[.int .i64 many]])) (hlt : id < h.n) : WF PR d mk (.fn 54 [] [.ptr id 0 0]) [.agg s.cells] h fun v => v = ⟨.bool (badB many s), h⟩ := by
 refine WF.pureOne (F := f54) rfl rfl rfl (Nat.le_of_ble_eq_true rfl) ?_
 refine wbodyS b54 [.tm 3] rfl rfl ?_
 unfold b54
 have e : ¬ id = h.n := by omega
 simp -dsimp [hid, e, Sy.cells]
 have key : (s.kind = 0 ∨ s.kind = 1) → badB many s = !setB s := fun e => by simp [badB, e]
 rw [Br_bool]
 refine ⟨fun hb1 => ?_, fun hb1 => ?_⟩
 ·simp -dsimp [hb1]
  have hb1' : s.kind = 0 := by simpa using hb1
  refine WFS.by (set_ok s hs) ?_
  intro v h' e
  cases e
  simp -dsimp [key (.inl hb1')]
 ·simp -dsimp [hb1]
  have hb1' : ¬ s.kind = 0 := by simpa using hb1
  rw [Br_bool]
  refine ⟨fun hb2 => ?_, fun hb2 => ?_⟩
  ·simp -dsimp [hb2]
   have hb2' : s.kind = 1 := by simpa using hb2
   refine WFS.by (set_ok s hs) ?_
   intro v h' e
   cases e
   simp -dsimp [key (.inr hb2')]
  ·simp -dsimp [hb2]
   have hb2' : ¬ s.kind = 1 := by simpa using hb2
   rw [Br_bool]
   refine ⟨fun hb3 => ?_, fun hb3 => ?_⟩
   ·simp -dsimp [hb3]
    have hb3' : s.kind = 2 := by simpa using hb3
    have key : badB many s = (decide (s.n < 0) || decide (many ≤ s.n) || decide (0 < s.r.l.length)) := by simp [badB, hb3']
    rw [Gd_f]
    refine ⟨fun hb4 => ?_, fun hb4 => ?_⟩
    ·simp -dsimp [hb4, hid, e]
     rw [Gd_f]
     refine ⟨fun hb5 => ?_, fun hb5 => ?_⟩
     ·simp -dsimp [hb5]
      rw [key, hb4, hb5]; simp
     ·simp -dsimp [hb5]
      rw [key, hb5]; simp
    ·simp -dsimp [hb4]
     rw [key, hb4]; simp
   ·simp -dsimp [hb3]
    have hb3' : ¬ s.kind = 2 := by simpa using hb3
    simp [badB, hb1', hb2', hb3']
def oddB (many : Int) (a : Sl Sy) : Bool := decide (40 < (a.l.length : Int)) || a.l.any (badB many)
theorem odd_ok (a : Sl Sy) (many : Int) (hs : a.l.length < 1000000000) (hs2 : ∀ s ∈ a.l, s.r.l.length < 1000000000) {d : Bool} {mk id id2 : Nat} {h : Heap} (hid : h.get id = some (.rows [[.fn 54 [] [.ptr id2 0 0]]])) (hid2 : h.get id2 = some (.rows [[.int .i64 many]])) (hlt : id < h.n) (hlt2 : id2 < h.n) :
  WF PR d mk (.fn 56 [] [.ptr id 0 0]) [a.enc Sy.cells] h fun v => v = ⟨.bool (oddB many a), h⟩ := by
 refine WF.pureOne (F := f56) rfl rfl rfl (Nat.le_of_ble_eq_true rfl) ?_
 refine wbodyS b56 [.tm 3] rfl rfl ?_
 unfold b56
 simp -dsimp
 rw [Gd_f]
 refine ⟨fun hb1 => ?_, fun hb1 => ?_⟩
 ·simp -dsimp [hb1, hid]
  refine WFS.by (con_ok (f := 91) (g := 57) (esz := 3) (ld := some 3) (arg := fun s => .agg s.cells) (p := badB many) rfl rfl rfl rfl (fun _ => rfl) (fun _ => rfl) hs fun s hm => bad_ok s many (hs2 s hm) hid2 hlt2) ?_
  intro v h' e
  cases e
  simp -dsimp [oddB]
  simp at hb1; intro h; omega
 ·simp -dsimp [hb1]
  simp only [oddB, hb1]; rfl
end Go.Abs
namespace Go.Abs
open Go Pr
set_option maxRecDepth 10000
structure Gr.Small (g : Gr) : Prop where
 p : g.p.l.length < 1000000000
 a : ∀ p ∈ g.p.l, p.a.l.length < 1000000000
 s : ∀ p ∈ g.p.l, ∀ a ∈ p.a.l, a.l.length < 1000000000
 r : ∀ p ∈ g.p.l, ∀ a ∈ p.a.l, ∀ s ∈ a.l, s.r.l.length < 1000000000
 no : ∀ p ∈ g.p.l, p.no.l.length < 1000000000
def prodOk (many : Int) (p : Pd) : Bool :=
 !(decide ((p.a.l.length : Int) = 0) || decide (8 < (p.a.l.length : Int)) || decide (p.marks < 0) || decide (63 < p.marks) || !rgMay p.no.l || p.a.l.any (oddB many))
def mayB (g : Gr) : Bool := g.p.l.all (prodOk g.p.l.length) && decide (0 < (g.p.l.length : Int)) && decide ((g.p.l.length : Int) ≤ 60)
theorem may_ok (g : Gr) (hg : g.Small) {d : Bool} {mk : Nat} {h : Heap} : WF PR d mk (.fn 32 [] []) [.agg g.cells] h fun v => v = ⟨.bool (mayB g), h⟩ := by
 have hgp := hg.p
 refine WF.pureOne (F := f32) rfl rfl rfl (Nat.le_of_ble_eq_true rfl) ?_
 refine wbodyS b32 [.tm 2] rfl rfl ?_
 unfold b32
 simp -dsimp [Gr.cells]
 refine wk_loop (fun k st => ∃ (i : Int), 0 ≤ i ∧ (k : Int) = g.p.l.length - i ∧ (g.p.l.drop i.toNat).all (prodOk g.p.l.length) = g.p.l.all (prodOk g.p.l.length) ∧ (gK 16).run st.tm = .int .i64 i ∧
  h.n + 3 ≤ st.h.n ∧ st.h.get h.n = some (.rows [[g.p.enc Pd.cells, g.keys.enc keyCells]]) ∧ st.h.get (h.n + 1) = some (.rows [[.int .i64 g.p.l.length]]) ∧ st.h.get (h.n + 2) = some (.rows [[.fn 54 [] [.ptr (h.n + 1) 0 0]]]) ∧ st.defs = []) g.p.l.length ⟨0, by simp⟩ ?_
 rintro k ⟨tm, h', defs, round⟩ ⟨i, hi, hk, hx, h16, hn, e0, e1, e2, rfl⟩ hK
 have h1 := hK 1 rfl
 have h3 := hK 3 rfl
 have h5 := hK 5 rfl
 have h14 := hK 14 rfl
 have h15 := hK 15 rfl
 simp at h1 h3 h5 h14 h15 h16 hn e0 e1 e2
 clear hK
 simp -dsimp [h15, h16]
 rw [Br_bool]
 refine ⟨fun hl => ?_, fun hl => ?_⟩
 ·simp at hl
  have hm := lat_mem (l := g.p.l) (i := i.toNat) (by omega)
  rw [drop_lat (by omega)] at hx
  have hn1 := hg.a _ hm
  have hn2 := hg.s _ hm
  have hn3 := hg.r _ hm
  have hn4 := hg.no _ hm
  obtain ⟨p, hp⟩ : ∃ p, lat g.p.l i.toNat = p := ⟨_, rfl⟩
  rw [hp] at hx hn1 hn2 hn3 hn4
  have hf : fw .i64 (i + 1) = i + 1 := fw64 (by omega) (by omega)
  have hbad : prodOk g.p.l.length p = false → mayB g = false := fun e => by
   simp only [List.all_cons, e, Bool.false_and] at hx; simp [mayB, ← hx]
  have hgood : prodOk g.p.l.length p = true → (g.p.l.drop (i + 1).toNat).all (prodOk g.p.l.length) = g.p.l.all (prodOk g.p.l.length) := fun e => by
   rw [show (i + 1).toNat = i.toNat + 1 by omega, ← hx]; simp [e]
  have hle : h.n ≤ h'.n := by omega
  have q0 : ¬ h.n = h'.n := by omega
  have q1 : ¬ h.n + 1 = h'.n := by omega
  have q2 : ¬ h.n + 2 = h'.n := by omega
  have hN : h.n + 3 ≤ h'.n + 1 := by omega
  simp -dsimp [h1, h3, h5, h14, h15, h16, hl, hi, hp, Pd.cells, hle]
  rw [Gd_f]
  refine ⟨fun hb1 => ?_, fun hb1 => ?_⟩
  ·simp -dsimp [hb1]
   rw [Gd_f]
   refine ⟨fun hb2 => ?_, fun hb2 => ?_⟩
   ·simp -dsimp [hb2]
    rw [Gd_f]
    refine ⟨fun hb3 => ?_, fun hb3 => ?_⟩
    ·simp -dsimp [hb3]
     rw [Gd_f]
     refine ⟨fun hb4 => ?_, fun hb4 => ?_⟩
     ·simp -dsimp [hb4]
      refine WFS.by (rmay_ok p.no hn4) ?_
      intro v h'' e
      cases e
      simp -dsimp
      rw [Gd_f]
      refine ⟨fun hb5 => ?_, fun hb5 => ?_⟩
      ·simp -dsimp [hb5, h5]
       refine WFS.by (con_ok (f := 92) (g := 59) (esz := 1) (ld := none) (arg := fun s => s.enc Sy.cells) (p := oddB g.p.l.length) rfl rfl rfl rfl (fun _ => rfl) (fun _ => rfl) hn1 fun a hm => odd_ok (id2 := h.n + 1) a _ (hn2 a hm) (hn3 a hm) (by simp [e2, q2]) (by simp [e1, q1]) (by simp; omega) (by simp; omega)) ?_
       intro v h'' e
       cases e
       simp -dsimp
       rw [Br_bool]
       refine ⟨fun hb6 => ?_, fun hb6 => ?_⟩
       ·have := hbad (by simp only [prodOk, hb6]; simp)
        simp -dsimp [this]
       ·simp -dsimp [h16, hf]
        simp at hb1 hb2 hb3 hb4 hb5
        have hb1' := List.length_pos_iff.2 hb1
        exact Again.intro (k - 1) (by omega) ⟨i + 1, by omega, by omega, hgood (by simp only [prodOk, hb6, hb5]; simp [hb1]; omega), by simp, by simp; omega, by simp [e0, q0], by simp [e1, q1], by simp [e2, q2], rfl⟩
      ·have := hbad (by simp only [prodOk]; simp at hb5; simp [hb5])
       simp -dsimp [hb5, this]
     ·have := hbad (by simp only [prodOk, hb4]; simp)
      simp -dsimp [hb4, this]
    ·have := hbad (by simp only [prodOk, hb3]; simp)
     simp -dsimp [hb3, this]
   ·have := hbad (by simp only [prodOk, hb2]; simp)
    simp -dsimp [hb2, this]
  ·have hb1' : p.a.l = [] := by simpa using hb1
   have := hbad (by simp [prodOk, hb1'])
   simp -dsimp [hb1, this]
 ·simp at hl
  have hl' : decide (i < (g.p.l.length : Int)) = false := by simpa using hl
  rw [List.drop_eq_nil_of_le (by omega)] at hx
  simp -dsimp [hl', h3, e1]
  rw [Gd_t]
  refine ⟨fun hb1 => ?_, fun hb1 => ?_⟩
  ·simp -dsimp [hb1, h3, e1]
   simp at hb1; simp [mayB, ← hx]; omega
  ·simp -dsimp [hb1]
   simp at hb1; simp [mayB, ← hx, hb1]
end Go.Abs
namespace Go.Abs
open Go
variable {AP : Prog} {mk : Nat} {d : Bool}
section
variable {κ β : Type} {kf : κ → V} {vf : β → V}
def aLook [DecidableEq κ] (k : κ) : List (κ × β) → Option β
 | [] => none
 | e :: l => if k = e.1 then some e.2 else aLook k l
def aSet [DecidableEq κ] (k : κ) (v : β) : List (κ × β) → List (κ × β)
 | [] => [(k, v)]
 | e :: l => if k = e.1 then (e.1, v) :: l else e :: aSet k v l
def aDel [DecidableEq κ] (k : κ) : List (κ × β) → List (κ × β)
 | [] => []
 | e :: l => if k = e.1 then l else e :: aDel k l
theorem aLook_set [DecidableEq κ] (k j : κ) (v : β) : ∀ l : List (κ × β), aLook j (aSet k v l) = if j = k then some v else aLook j l
 | [] => by simp [aSet, aLook]
 | e :: l => by
  simp only [aSet]
  by_cases h : k = e.1
  ·subst h
   by_cases h2 : j = e.1 <;> simp [aLook, h2]
  ·simp only [h, if_false, aLook]
   rw [aLook_set k j v l]
   by_cases h2 : j = e.1
   ·subst h2; simp; intro h3; exact absurd h3.symm h
   ·simp [h2]
def MapR (kf : κ → V) (vf : β → V) (es : List (Nat × V × V)) (S : List (κ × β)) : Prop := es.map (fun e => e.2) = S.map fun e => (kf e.1, vf e.2)
theorem MapR.nil : MapR kf vf [] [] := rfl
theorem MapR.cons_inv {e : Nat × V × V} {es : List (Nat × V × V)} {S : List (κ × β)} (h : MapR kf vf (e :: es) S) : ∃ x S', S = x :: S' ∧ e.2 = (kf x.1, vf x.2) ∧ MapR kf vf es S' := by
 cases S with
 | nil => simp [MapR] at h
 | cons x S => simp only [MapR, List.map_cons, List.cons.injEq] at h; exact ⟨x, S, rfl, h.1, h.2⟩
theorem MapR.nil_inv {S : List (κ × β)} (h : MapR kf vf [] S) : S = [] := by
 cases S with
 | nil => rfl
 | cons x S => simp [MapR] at h
theorem findK_ok [DecidableEq κ] (hk : ∀ a b, keyEq (kf a) (kf b) = some (decide (a = b))) (k : κ) : ∀ (es : List (Nat × V × V)) (S : List (κ × β)) (i : Nat), MapR kf vf es S →
  (aLook k S = none ∧ findK (kf k) es i = some none ∧ (∀ c v, MapR kf vf (es ++ [(c, kf k, vf v)]) (aSet k v S)) ∧ aDel k S = S) ∨
  ∃ j v, aLook k S = some v ∧ findK (kf k) es i = some (some (i + j, vf v)) ∧ (∀ v', MapR kf vf (es.modify j fun e => (e.1, kf k, vf v')) (aSet k v' S)) ∧ MapR kf vf (es.eraseIdx j) (aDel k S)
 | [], S, i, h => by
  cases h.nil_inv
  exact .inl ⟨rfl, rfl, fun c v => rfl, rfl⟩
 | e :: es, S, i, h => by
  obtain ⟨x, S, rfl, h1, h2⟩ := h.cons_inv
  obtain ⟨b, k', v⟩ := e
  simp only [Prod.mk.injEq] at h1
  obtain ⟨rfl, rfl⟩ := h1
  simp only [findK, hk]
  by_cases hx : k = x.1
  ·subst hx
   refine .inr ⟨0, x.2, by simp [aLook], by simp, fun v' => ?_, ?_⟩
   ·simp [aSet, MapR] at h2 ⊢; exact h2
   ·simpa [aDel] using h2
  ·rcases findK_ok hk k es S (i + 1) h2 with ⟨g1, g2, g3, g4⟩ | ⟨j, v, g1, g2, g3, g4⟩
   ·refine .inl ⟨by simp [aLook, hx, g1], by simp [hx, g2], fun c v => ?_, by simp [aDel, hx, g4]⟩
    have := g3 c v
    simp only [MapR, aSet, hx, if_false, List.cons_append, List.map_cons] at this ⊢
    rw [this]
   ·refine .inr ⟨j + 1, v, by simp [aLook, hx, g1], by simp [hx, g2]; omega, fun v' => ?_, ?_⟩
    ·have := g3 v'
     simp only [MapR, aSet, hx, if_false, List.modify_succ_cons, List.map_cons] at this ⊢
     rw [this]
    ·simp only [MapR, aDel, hx, if_false, List.eraseIdx_cons_succ, List.map_cons] at g4 ⊢
     rw [g4]
variable {h : Heap} {M c : Nat} {es : List (Nat × V × V)} {S : List (κ × β)} {kn : KK} {zero : V}
theorem look_ok [DecidableEq κ] (hk : ∀ a b, keyEq (kf a) (kf b) = some (decide (a = b))) (hkn : ∀ a, keyOk kn (kf a) = true) (hM : h.get M = some (.map es c)) (hS : MapR kf vf es S) (k : κ) :
  lookV kn zero false (.map M) (kf k) h = some (match aLook k S with | some v => vf v | none => zero) := by
 simp only [lookV, hkn, cond, hM]
 rcases findK_ok hk k es S 0 hS with ⟨g1, g2, _, _⟩ | ⟨j, v, g1, g2, _, _⟩
 ·simp [g1, g2]
 ·simp [g1, g2]
theorem look2_ok [DecidableEq κ] (hk : ∀ a b, keyEq (kf a) (kf b) = some (decide (a = b))) (hkn : ∀ a, keyOk kn (kf a) = true) (hM : h.get M = some (.map es c)) (hS : MapR kf vf es S) (k : κ) :
  lookV kn zero true (.map M) (kf k) h = some (match aLook k S with | some v => .tup [vf v, .bool true] | none => .tup [zero, .bool false]) := by
 simp only [lookV, hkn, cond, hM]
 rcases findK_ok hk k es S 0 hS with ⟨g1, g2, _, _⟩ | ⟨j, v, g1, g2, _, _⟩
 ·simp [g1, g2]
 ·simp [g1, g2]
def mupdV (mk : Nat) (kn : KK) (m k v : V) (h : Heap) : Option VH := match m with
 | .map i => (match h.get i with
  | some (.map es clock) =>
   cond (Nat.ble mk i && keyOk kn k)
    (match findK k es 0 with
    | some (some r) => some ⟨.any, h.set i (.map (es.modify r.1 fun e => (e.1, k, v)) clock)⟩
    | some none => some ⟨.any, h.set i (.map (es ++ [(clock, k, v)]) (clock + 1))⟩
    | none => none) none
  | _ => none)
 | _ => none
@[simp] theorem W_mupd {m k v : Opd} {tm : Tm} {h : Heap} : (compW (.mupd kn m k v)).run mk tm h = mupdV mk kn (m.ev tm) (k.ev tm) (v.ev tm) h := (rfl)
theorem mupd_ok [DecidableEq κ] (hk : ∀ a b, keyEq (kf a) (kf b) = some (decide (a = b))) (hkn : ∀ a, keyOk kn (kf a) = true) (hM : h.get M = some (.map es c)) (hS : MapR kf vf es S) (hmk : mk ≤ M) (k : κ) (v : β) :
  ∃ es' c', mupdV mk kn (.map M) (kf k) (vf v) h = some ⟨.any, h.set M (.map es' c')⟩ ∧ MapR kf vf es' (aSet k v S) := by
 simp only [mupdV, hkn, cond, hM, Nat.ble_eq ▸ hmk, Bool.and_true]
 rcases findK_ok hk k es S 0 hS with ⟨g1, g2, g3, _⟩ | ⟨j, v0, g1, g2, g3, _⟩
 ·rw [g2]; simp only [ble_dec, hmk, decide_true]; exact ⟨_, _, rfl, g3 _ _⟩
 ·rw [g2]; simp only [ble_dec, hmk, decide_true]; exact ⟨_, _, rfl, by simpa using g3 v⟩
def delV (mk : Nat) (kn : KK) (m k : V) (h : Heap) : Option VH := match m with
 | .map i => (match h.get i with
  | some (.map es clock) =>
   cond (Nat.ble mk i && keyOk kn k)
    (match findK k es 0 with
    | some (some r) => some ⟨.any, h.set i (.map (es.eraseIdx r.1) clock)⟩
    | some none => some ⟨.any, h⟩
    | none => none) none
  | _ => none)
 | _ => none
@[simp] theorem W_del {m k : Opd} {tm : Tm} {h : Heap} : (compW (.del kn m k)).run mk tm h = delV mk kn (m.ev tm) (k.ev tm) h := (rfl)
end
@[simp] theorem len_map {h : Heap} {i : Nat} : lenV .map (.map i) h = (match h.get i with | some (.map es _) => some (.int .i64 es.length) | _ => none) := (rfl)
theorem intKey (a b : Int) : keyEq (.int .i64 a) (.int .i64 b) = some (decide (a = b)) := by simp [keyEq, eq1]
theorem intOk (a : Int) : keyOk (.one .int) (.int .i64 a) = true := rfl
def roundQ (l : Nat) (Q : VH → Prop) (_ : Ps Q) (s : OS) : Prop :=
 s.s.defs = [] ∧ ∃ x pend tm ps asg body, s.s.h.get l = some (.loop x pend tm ps asg body) ∧ match s.o with
  | .normal => Q ⟨.bool true, s.s.h.set l (.loop .ready none tm ps asg body)⟩
  | .ret => Q ⟨.bool false, s.s.h.set l (.loop .done (some .ret) tm ps asg body)⟩
  | .exit i => Q ⟨.bool false, s.s.h.set l (.loop .done (some (.exit i)) tm ps asg body)⟩
def yldQ (AP : Prog) (d : Bool) (mk l : Nat) (body : IC) (Q : VH → Prop) (_ : Ps (body, Q)) (r : OS) : Prop :=
 r.o = .normal ∧ r.s.defs = [] ∧ ∃ pend tm ps asg body', r.s.h.get l = some (.loop .ready pend tm ps asg body') ∧
  wk AP d mk body [] ⟨r.s.tm, r.s.h.set l (.loop .busy pend tm ps asg body'), [], true⟩ (roundQ l Q ⟨⟩) ⟨⟩
theorem WF.yld {l : Nat} {s0 : LoopState} {pend : Option IC} {tm : Tm} {ps : List Nat} {asg body : IC} {args : List V} {h : Heap} {Q : VH → Prop} (hl : h.get l = some (.loop s0 pend tm ps asg body)) (hmk : mk ≤ l) (hlen : args.length = ps.length)
  (h1 : wk AP d mk asg [] ⟨zipPut tm ps args, h, [], true⟩ (yldQ AP d mk l body Q ⟨⟩) ⟨⟩) : WF AP d mk (.yld l) args h Q := by
 have key : W d (fun n => ND.bind ((compC asg).run (env AP mk n) ⟨zipPut tm ps args, h, [], true⟩) fun r =>
    match r.o, r.s.defs, r.s.h.get l with
    | .normal, [], some (.loop .ready pend tm' ps' asg' body') =>
     ND.bind ((compC body).run (env AP mk n) ⟨r.s.tm, r.s.h.set l (.loop .busy pend tm' ps' asg' body'), [], true⟩) fun s =>
      (match s.s.defs with
      | [] => (match s.o with
       | .normal => endRound l none s.s.h
       | .ret => endRound l (some .ret) s.s.h
       | .exit i => endRound l (some (.exit i)) s.s.h)
      | _ => none)
    | _, _, _ => none) Q := by
  refine W.bind ((wc_sound (c := asg) h1).mono ?_)
  rintro ⟨o, ⟨tm1, h2, defs, rd⟩⟩ ⟨e1, e2, pend, tm', ps', asg', body', e3, hw⟩
  simp only at e1 e2 e3 hw ⊢
  subst e1 e2
  simp only [e3]
  refine W.bind ((wc_sound hw).mono ?_)
  rintro ⟨o, ⟨tm2, h3, defs, rd⟩⟩ ⟨e4, x, pend2, tm3, ps3, asg3, body3, e5, hq⟩
  simp only at e4 e5 hq ⊢
  subst e4
  cases o with
  | normal =>
   have hq' : Q ⟨.bool true, h3.set l (.loop .ready none tm3 ps3 asg3 body3)⟩ := hq
   exact (W.one hq').eq fun n => by show endRound l none h3 = _; simp only [endRound, e5]; rfl
  | ret =>
   have hq' : Q ⟨.bool false, h3.set l (.loop .done (some .ret) tm3 ps3 asg3 body3)⟩ := hq
   exact (W.one hq').eq fun n => by show endRound l (some .ret) h3 = _; simp only [endRound, e5]; rfl
  | exit i =>
   have hq' : Q ⟨.bool false, h3.set l (.loop .done (some (.exit i)) tm3 ps3 asg3 body3)⟩ := hq
   exact (W.one hq').eq fun n => by show endRound l (some (.exit i)) h3 = _; simp only [endRound, e5]; rfl
 obtain ⟨k, N, h0, g1, g2, g3⟩ := key
 refine ⟨k, N + 1, h0, g1, fun n hn => ?_, g3⟩
 obtain ⟨m, rfl⟩ : ∃ m, n = m + 1 := ⟨n - 1, by omega⟩
 simp only [evCall, runRound, hl, hmk, hlen, ble_dec, beq_dec, decide_true, Bool.and_true, cond]
 exact g2 m (by omega)
theorem range_ok {fv : V} {ps : List Nat} {asg body : IC} {st : St} {Q : OS → Prop} (hr : st.round = false)
  (h1 : WF AP d mk fv [.yld (st.h.n + 1)] ((st.h.push .dfr).push (.loop .ready none st.tm ps asg body)) fun r =>
   ∃ s pend tm ps asg body, r.h.get (st.h.n + 1) = some (.loop s pend tm ps asg body) ∧ s ≠ .busy ∧
    ((pend = none ∧ Q ⟨.normal, ⟨st.tm, r.h.set (st.h.n + 1) (.loop .exhausted pend tm ps asg body), .mark st.h.n :: st.defs, st.round⟩⟩) ∨
    (pend = some .ret ∧ Q ⟨.ret, ⟨st.tm, r.h.set (st.h.n + 1) (.loop .exhausted pend tm ps asg body), .mark st.h.n :: st.defs, st.round⟩⟩) ∨
    ∃ i, pend = some (.exit i) ∧ Q ⟨.exit i, ⟨st.tm, r.h.set (st.h.n + 1) (.loop .exhausted pend tm ps asg body), .mark st.h.n :: st.defs, st.round⟩⟩)) :
  W d (fun n => evRange (env AP mk n) fv ps asg body st) Q := by
 have key : W d (fun n => ND.bind (evCall AP n mk fv [.yld (st.h.n + 1)] ((st.h.push .dfr).push (.loop .ready none st.tm ps asg body))) fun r =>
  match r.h.get (st.h.n + 1) with
  | some (.loop s pend tm ps asg body) =>
   (match s with
   | .busy => none
   | _ =>
    let st' : St := ⟨st.tm, r.h.set (st.h.n + 1) (.loop .exhausted pend tm ps asg body), .mark st.h.n :: st.defs, st.round⟩
    match pend with
    | none => some [⟨.normal, st'⟩]
    | some .ret => some [⟨.ret, st'⟩]
    | some (.exit i) => some [⟨.exit i, st'⟩]
    | _ => none)
  | _ => none) Q := by
  refine W.bind (W.mono h1 ?_)
  rintro ⟨v, h'⟩ ⟨s, pend, tm, ps, asg, body, e1, e2, h⟩
  simp only at e1 h ⊢
  rcases h with ⟨rfl, hq⟩ | ⟨rfl, hq⟩ | ⟨i, rfl, hq⟩
  ·exact (W.one hq).eq fun n => by simp only [e1]
  ·exact (W.one hq).eq fun n => by simp only [e1]
  ·exact (W.one hq).eq fun n => by simp only [e1]
 refine key.eq fun n => ?_
 simp only [evRange, hr, cond]
 rfl
theorem wk_range {f : Opd} {ps : List Nat} {asg body : IC} {fs : List Fr} {st : St} {Q : OS → Prop} (hr : st.round = false)
  (h1 : WF AP d mk (f.ev st.tm) [.yld (st.h.n + 1)] ((st.h.push .dfr).push (.loop .ready none st.tm ps asg body)) fun r =>
   ∃ s pend tm ps asg body, r.h.get (st.h.n + 1) = some (.loop s pend tm ps asg body) ∧ s ≠ .busy ∧
    ((pend = none ∧ nx AP d mk fs .normal ⟨st.tm, r.h.set (st.h.n + 1) (.loop .exhausted pend tm ps asg body), .mark st.h.n :: st.defs, st.round⟩ Q ⟨⟩) ∨
    (pend = some .ret ∧ nx AP d mk fs .ret ⟨st.tm, r.h.set (st.h.n + 1) (.loop .exhausted pend tm ps asg body), .mark st.h.n :: st.defs, st.round⟩ Q ⟨⟩) ∨
    ∃ i, pend = some (.exit i) ∧ nx AP d mk fs (.exit i) ⟨st.tm, r.h.set (st.h.n + 1) (.loop .exhausted pend tm ps asg body), .mark st.h.n :: st.defs, st.round⟩ Q ⟨⟩)) :
  wk AP d mk (.rangeF f ps asg body) fs st Q ⟨⟩ := range_ok hr h1
end Go.Abs
namespace Go.Abs
open Go Pr
set_option maxRecDepth 10000
theorem WF.join {AP : Prog} {d : Bool} {mk f : Nat} {first cap args : List V} {h : Heap} {Q : VH → Prop} (h1 : WF AP d mk (.fn f [] []) (first ++ args ++ cap) h Q) : WF AP d mk (.fn f first cap) args h Q := by
 refine W.eq h1 fun n => ?_
 cases n with
 | zero => rfl
 | succ n => simp only [evCall, List.nil_append, List.append_nil]
def intV (n : Int) : V := .int .i64 n
def boolV (b : Bool) : V := .bool b
theorem intV_key (a b : Int) : keyEq (intV a) (intV b) = some (decide (a = b)) := intKey a b
theorem intV_ok (a : Int) : keyOk (.one .int) (intV a) = true := rfl
def isB (S : List (Int × Bool)) (k : Int) : Bool := (aLook k S).getD false
def Flags (h : Heap) (M : Nat) (S : List (Int × Bool)) : Prop := ∃ es c, h.get M = some (.map es c) ∧ MapR intV boolV es S
theorem flags_look {h : Heap} {M : Nat} {S : List (Int × Bool)} (hM : Flags h M S) (k : Int) : lookV (.one .int) (.bool false) false (.map M) (.int .i64 k) h = some (.bool (isB S k)) := by
 obtain ⟨es, c, h1, h2⟩ := hM
 have := look_ok (zero := .bool false) intV_key intV_ok h1 h2 k
 simp only [intV] at this
 rw [this]
 unfold isB
 cases aLook k S <;> rfl
theorem flags_set {h : Heap} {M mk : Nat} {S : List (Int × Bool)} (hM : Flags h M S) (hmk : mk ≤ M) (k : Int) (b : Bool) : ∃ es' c', mupdV mk (.one .int) (.map M) (.int .i64 k) (.bool b) h = some ⟨.any, h.set M (.map es' c')⟩ ∧ MapR intV boolV es' (aSet k b S) := by
 obtain ⟨es, c, h1, h2⟩ := hM
 exact mupd_ok intV_key intV_ok h1 h2 hmk k b
def notN (N : Int → Bool) (s : Sy) : Bool := decide (s.kind ≠ 2) || !N s.n
def onlyN (N : Int → Bool) (l : List Sy) : Bool := !l.any (notN N)
def notIn (S : List (Int × Bool)) (s : Sy) : Bool := notN (isB S) s
def onlyB (S : List (Int × Bool)) (l : List Sy) : Bool := onlyN (isB S) l
structure NI (g : Gr) (F M : Nat) (S : List (Int × Bool)) (h : Heap) : Prop where
 f : h.get F = some (.rows [[g.p.enc Pd.cells, g.keys.enc keyCells, .map M]])
 m : Flags h M S
 lf : F < h.n
 lm : M < h.n
section
variable {g : Gr} {F M B mk : Nat} {S : List (Int × Bool)} {h : Heap} {d : Bool}
theorem NI.push (hN : NI g F M S h) (o : Obj) : NI g F M S (h.push o) := by
 obtain ⟨h1, ⟨es, c, h2, h3⟩, h4, h5⟩ := hN
 exact ⟨by rw [Heap.get_push, if_neg (by omega), h1], ⟨es, c, by rw [Heap.get_push, if_neg (by omega), h2], h3⟩, by simp; omega, by simp; omega⟩
theorem NI.set (hN : NI g F M S h) {i : Nat} (o : Obj) (h1 : i ≠ F) (h2 : i ≠ M) : NI g F M S (h.set i o) := by
 obtain ⟨k1, ⟨es, c, k2, k3⟩, k4, k5⟩ := hN
 exact ⟨by rw [Heap.get_set, if_neg (Ne.symm h1), k1], ⟨es, c, by rw [Heap.get_set, if_neg (Ne.symm h2), k2], k3⟩, k4, k5⟩
theorem only1_ok (hN : NI g F M S h) (hB : h.get B = some (.rows [[.ptr F 0 0]])) (hlt : B < h.n) (s : Sy) : WF PR d mk (.fn 202 [] [.ptr B 0 0]) [.agg s.cells] h fun v => v = ⟨.bool (notIn S s), h⟩ := by
 refine WF.pureOne (F := f202) rfl rfl rfl (Nat.le_of_ble_eq_true rfl) ?_
 refine wbodyS b202 [.tm 3] rfl rfl ?_
 unfold b202
 have e1 : ¬ B = h.n := by omega
 have e2 : ¬ F = h.n := by have := hN.lf; omega
 have e3 := flags_look (hN.push (.rows [s.cells])).m s.n
 have e4 := hN.f
 simp only [Sy.cells] at e3
 simp -dsimp [Sy.cells, hB, e1, e2, e4]
 rw [Gd_f]
 refine ⟨fun hb => ?_, fun hb => ?_⟩
 ·simp -dsimp [hb, hB, e1, e2, e4, nilcV, e3]
  simp at hb
  simp [notIn, notN, hb]
 ·simp -dsimp [hb]
  simp at hb
  simp [notIn, notN, hb]
theorem only_ok (hN : NI g F M S h) (l : Sl Sy) (hl : l.l.length < 1000000000) : WF PR d mk (.fn 163 [] []) [.ptr F 0 0, l.enc Sy.cells] h fun v => v = ⟨.bool (onlyB S l.l), h⟩ := by
 refine WF.pureOne (F := f163) rfl rfl rfl (Nat.le_of_ble_eq_true rfl) ?_
 refine wbodyS b163 [.tm 4] rfl rfl ?_
 unfold b163
 simp -dsimp
 refine WFS.by (con_ok (f := 91) (g := 57) (esz := 3) (ld := some 3) (arg := fun s => .agg s.cells) (p := notIn S) rfl rfl rfl rfl (fun _ => rfl) (fun _ => rfl) hl fun s hm => only1_ok (B := h.n) (hN.push _) (by simp) (by simp) s) ?_
 intro v h' e
 cases e
 simp -dsimp [onlyB, onlyN]
 rfl
end
def left (S : List (Int × Bool)) : Nat → Nat
 | 0 => 0
 | n + 1 => left S n + if isB S n then 0 else 1
theorem isB_set (S : List (Int × Bool)) (k j : Int) (b : Bool) : isB (aSet k b S) j = if j = k then b else isB S j := by
 unfold isB; rw [aLook_set]; split <;> rfl
theorem left_le (S : List (Int × Bool)) (k : Int) : ∀ n, left (aSet k true S) n ≤ left S n
 | 0 => Nat.le_refl _
 | n + 1 => by
  have := left_le S k n
  simp only [left, isB_set]
  by_cases h : (n : Int) = k
  ·simp [h]; split <;> omega
  ·simp only [h, if_false]; omega
theorem left_lt (S : List (Int × Bool)) (k : Int) (h0 : 0 ≤ k) (hk : isB S k = false) : ∀ n : Nat, k < n → left (aSet k true S) n < left S n
 | 0, h => by omega
 | n + 1, h => by
  simp only [left, isB_set]
  by_cases e : (n : Int) = k
  ·have := left_le S k n
   rw [e, hk]; simp; omega
  ·have := left_lt S k h0 hk n (by omega)
   simp only [e, if_false]; omega
def canB (g : Gr) (S : List (Int × Bool)) (n : Nat) : Bool := (lat g.p.l n).a.l.any fun a => onlyB S a.l
structure NB (g : Gr) (F M B : Nat) (h0 : Heap) : Prop where
 f : h0.get F = some (.rows [[g.p.enc Pd.cells, g.keys.enc keyCells, .map M]])
 b : h0.get B = some (.rows [[.ptr F 0 0]])
 lf : F < h0.n
 lm : M < h0.n
 lb : B < h0.n
 fm : F ≠ M
 bm : B ≠ M
structure NJ (M : Nat) (h0 : Heap) (S : List (Int × Bool)) (h : Heap) : Prop where
 keep : ∀ i, i < h0.n → i ≠ M → h.get i = h0.get i
 n : h0.n ≤ h.n
 m : Flags h M S
section
variable {g : Gr} {F M B l mk : Nat} {S : List (Int × Bool)} {h h0 : Heap} {d : Bool}
theorem NJ.push (hN : NJ M h0 S h) (hm : M < h0.n) (o : Obj) : NJ M h0 S (h.push o) := by
 obtain ⟨h1, h2, es, c, h3, h4⟩ := hN
 exact ⟨fun i hi hM => by rw [Heap.get_push, if_neg (by omega), h1 i hi hM], by simp; omega, es, c, by rw [Heap.get_push, if_neg (by omega), h3], h4⟩
theorem NJ.set (hN : NJ M h0 S h) (hm : M < h0.n) {i : Nat} (o : Obj) (hi : h0.n ≤ i) : NJ M h0 S (h.set i o) := by
 obtain ⟨h1, h2, es, c, h3, h4⟩ := hN
 exact ⟨fun j hj hM => by rw [Heap.get_set, if_neg (by omega), h1 j hj hM], by simp; omega, es, c, by rw [Heap.get_set, if_neg (by omega), h3], h4⟩
theorem NB.bx (hB : NB g F M B h0) (hN : NJ M h0 S h) : h.get B = some (.rows [[.ptr F 0 0]]) := (hN.keep B hB.lb hB.bm).trans hB.b
theorem NB.fx (hB : NB g F M B h0) (hN : NJ M h0 S h) : h.get F = some (.rows [[g.p.enc Pd.cells, g.keys.enc keyCells, .map M]]) := (hN.keep F hB.lf hB.fm).trans hB.f
theorem NB.ni (hB : NB g F M B h0) (hN : NJ M h0 S h) : NI g F M S h := ⟨hB.fx hN, hN.m, Nat.lt_of_lt_of_le hB.lf hN.n, Nat.lt_of_lt_of_le hB.lm hN.n⟩
def Closed (g : Gr) (S : List (Int × Bool)) (n : Nat) : Prop := ∀ k, k < n → canB g S k = true → isB S k = true
theorem found_ok (hg : g.Small) (R : List (Int × Bool) → Prop) (hR : ∀ S (n : Nat), R S → n < g.p.l.length → canB g S n = true → R (aSet n true S))
  (hy : ∀ S h (n : Nat), NJ M h0 S h → n < g.p.l.length → mk ≤ h.n → WF PR false mk (.yld l) [.int .i64 n] h fun r => r.v = .bool true ∧ NJ M h0 (aSet n true S) r.h ∧ mk ≤ r.h.n)
  (hB : NB g F M B h0) (hN : NJ M h0 S h) (hr0 : R S) (hmk : mk ≤ h.n) :
  WF PR false mk (.fn 221 [] [.ptr B 0 0]) [.yld l] h fun r => ∃ S, NJ M h0 S r.h ∧ R S ∧ Closed g S g.p.l.length ∧ mk ≤ r.h.n := by
 have hgp := hg.p
 refine WF.fn (F := f221) rfl rfl rfl (Nat.le_of_ble_eq_true rfl) ?_
 refine wbodyS b221 [] rfl rfl ?_
 unfold b221
 simp -dsimp
 refine wk_loop (fun k st => ∃ S more, NJ M h0 S st.h ∧ R S ∧ mk ≤ st.h.n ∧ (gK 3).run st.tm = .bool more ∧ st.defs = [] ∧ k = 2 * left S g.p.l.length + (if more then 1 else 0) ∧ (more = false → Closed g S g.p.l.length)) (2 * left S g.p.l.length + 1) ⟨S, true, hN, hr0, hmk, by simp⟩ ?_
 rintro k ⟨tm, h', defs, round⟩ ⟨S, more, hN, hR0, hmk, h3, rfl, hk, hcl⟩ hK
 have k0 := hK 0 rfl
 have h1 := hK 1 rfl
 simp at k0 h1 h3 hN hmk
 clear hK
 simp -dsimp [h3]
 rw [Br_bool]
 refine ⟨fun hb => ?_, fun hb => ?_⟩
 ·subst hb
  have e1 := hB.bx hN
  have e2 := hB.fx hN
  simp -dsimp [h1, e1, nilcV, e2]
  refine wk_loop (fun j st => ∃ S' more', ∃ i : Int, 0 ≤ i ∧ (j : Int) = g.p.l.length - i ∧ NJ M h0 S' st.h ∧ R S' ∧ mk ≤ st.h.n ∧ (gK 3).run st.tm = .bool more' ∧ (gK 13).run st.tm = .int .i64 i ∧ st.defs = [] ∧
   (more' = true → left S' g.p.l.length < left S g.p.l.length) ∧ (more' = false → S' = S ∧ Closed g S i.toNat)) g.p.l.length ⟨S, false, 0, by simp, by simp, hN, hR0, hmk, by simp, by simp, rfl, by simp, by simp [Closed]⟩ ?_
  rintro j ⟨tm2, h2, defs, round⟩ ⟨S', more', i, hi, hj, hN', hR', hmk', h3', h13, rfl, hm1, hm2⟩ hK
  have h0' := hK 0 rfl
  have h1' := hK 1 rfl
  have h11 := hK 11 rfl
  have h12 := hK 12 rfl
  simp [k0, h1] at h0' h1' h11 h12 h3' h13 hN' hmk'
  clear hK
  simp -dsimp [h12, h13]
  rw [Br_bool]
  refine ⟨fun hl => ?_, fun hl => ?_⟩
  ·simp at hl
   have hlt : i.toNat < g.p.l.length := by omega
   have hii : ((i.toNat : Nat) : Int) = i := by omega
   have hmem := lat_mem hlt
   have hn1 := hg.a _ hmem
   have hn2 := hg.s _ hmem
   obtain ⟨p, hp⟩ : ∃ p, lat g.p.l i.toNat = p := ⟨_, rfl⟩
   rw [hp] at hn1 hn2
   have hf : fw .i64 (i + 1) = i + 1 := fw64 (by omega) (by omega)
   have e1 := hB.bx hN'
   have e2 := hB.fx hN'
   have q1 : ¬ B = h2.n := by have := hB.lb; have := hN'.n; omega
   have q2 : ¬ F = h2.n := by have := hB.lf; have := hN'.n; omega
   have hNN := (hN'.push hB.lm (.rows [[.nils, .int .i64 0, .nils]])).set hB.lm (i := h2.n) (.rows [p.cells]) hN'.n
   have e3 := flags_look hNN.m i
   simp only [Pd.cells] at e3 hNN
   simp -dsimp [h0', h1', h11, h12, h13, hl, hi, hp, Pd.cells, hmk', e1, e2, q1, q2, nilcV, e3]
   have hcan : canB g S' i.toNat = p.a.l.any fun a => onlyB S' a.l := by rw [canB, hp]
   have hstay : (canB g S' i.toNat = true → isB S' i = true) → ∀ (more' : Bool), (more' = true → left S' g.p.l.length < left S g.p.l.length) → (more' = false → S' = S ∧ Closed g S i.toNat) → (more' = false → S' = S ∧ Closed g S (i + 1).toNat) := fun hc more' _ h2 e => by
    obtain ⟨rfl, h3⟩ := h2 e
    refine ⟨rfl, fun k hk hk2 => ?_⟩
    by_cases e2 : k = i.toNat
    ·subst e2; rw [hii]; exact hc hk2
    ·exact h3 k (by omega) hk2
   rw [Gd_f]
   refine ⟨fun hb1 => ?_, fun hb1 => ?_⟩
   ·simp -dsimp [hb1, h1', e1, q1]
    refine WFS.by (con_ok (f := 92) (g := 59) (esz := 1) (ld := none) (arg := fun a => a.enc Sy.cells) (p := fun a : Sl Sy => onlyB S' a.l) rfl rfl rfl rfl (fun _ => rfl) (fun _ => rfl) hn1 fun a hm => WF.join (by simpa using only_ok (hB.ni hNN) a (hn2 a hm))) ?_
    intro v h'' e
    cases e
    simp -dsimp [← hcan]
    rw [Br_bool]
    refine ⟨fun hb2 => ?_, fun hb2 => ?_⟩
    ·simp at hb2
     simp -dsimp [h13, hf]
     exact Again.intro (j - 1) (by omega) ⟨S', more', i + 1, by omega, by omega, hNN, hR', by simp; omega, by simp [h3'], by simp, rfl, hm1, hstay (by simp [hb2]) more' hm1 hm2⟩
    ·simp at hb2
     simp -dsimp [h0']
     have := hy S' _ i.toNat hNN hlt (by simp; omega)
     rw [hii] at this
     refine WFS.by this ?_
     rintro v h3 ⟨rfl, hN3, hmk3⟩
     simp -dsimp [h13, hf]
     have hleft := left_lt S' i hi hb1 g.p.l.length hl
     have hR3 := hR S' i.toNat hR' hlt hb2
     rw [hii] at hR3
     refine Again.intro (j - 1) (by omega) ⟨aSet i true S', true, i + 1, by omega, by omega, hN3, hR3, hmk3, by simp, by simp, rfl, fun _ => ?_, by simp⟩
     cases more' with
     | true => have := hm1 rfl; omega
     | false => rw [(hm2 rfl).1] at hleft ⊢; exact hleft
   ·simp -dsimp [hb1, h13, hf]
    exact Again.intro (j - 1) (by omega) ⟨S', more', i + 1, by omega, by omega, hNN, hR', by simp; omega, by simp [h3'], by simp, rfl, hm1, hstay (fun _ => hb1) more' hm1 hm2⟩
  ·simp at hl
   have hl' : decide (i < (g.p.l.length : Int)) = false := by simpa using hl
   simp -dsimp [hl']
   refine Again.intro (2 * left S' g.p.l.length + (if more' then 1 else 0)) ?_ ⟨S', more', hN', hR', hmk', by simp [h3'], rfl, rfl, fun e => ?_⟩
   ·cases more' with
    | true => have := hm1 rfl; simp at hk ⊢; omega
    | false => rw [(hm2 rfl).1]; simp at hk ⊢; omega
   ·obtain ⟨rfl, h4⟩ := hm2 e
    intro k hk; exact h4 k (by omega)
 ·subst hb
  simp -dsimp
  exact ⟨S, hN, hR0, hcl rfl, hmk⟩
theorem found201_ok {v : V} (hv : v.cells = [v]) : WF PR d mk (.fn 201 [] []) [v] h fun r => r = ⟨.fn 221 [] [.ptr h.n 0 0], h.push (.rows [[v]])⟩ := by
 refine WF.fn (F := f201) rfl rfl rfl (Nat.le_of_ble_eq_true rfl) ?_
 refine wbodyS b201 [.tm 2] rfl rfl ?_
 unfold b201
 simp -dsimp [hv]
def Exact (g : Gr) (S : List (Int × Bool)) : Prop := Closed g S g.p.l.length ∧ ∀ T : List (Int × Bool), Closed g T g.p.l.length → ∀ k, isB S k = true → isB T k = true
theorem onlyB_mono {T : List (Int × Bool)} (hh : ∀ k, isB S k = true → isB T k = true) (l : List Sy) (h1 : onlyB S l = true) : onlyB T l = true := by
 simp only [onlyB, onlyN, notN, Bool.not_eq_true', List.any_eq_false, Bool.or_eq_true, not_or, decide_eq_true_eq, Decidable.not_not, Bool.not_eq_true, Bool.not_eq_false'] at h1 ⊢
 intro s hs
 obtain ⟨a, b⟩ := h1 s hs
 exact ⟨a, by rw [hh _ (by simpa using b)]; simp⟩
theorem nullof_ok (hg : g.Small) (hm : mk ≤ h.n) : WF PR false mk (.fn 162 [] []) [.agg g.cells] h fun r => (∃ F M S, r.v = .ptr F 0 0 ∧ NI g F M S r.h ∧ Exact g S) ∧ h.n ≤ r.h.n ∧ ∀ i, i < h.n → r.h.get i = h.get i := by
 refine WF.here hm ?_
 refine WF.fn (F := f162) rfl rfl rfl (Nat.le_of_ble_eq_true rfl) ?_
 refine wbodyS b162 [.tm 2] rfl rfl ?_
 unfold b162
 simp -dsimp [Gr.cells]
 refine WFS.by (found201_ok (by simp)) ?_
 intro v h' e
 cases e
 simp -dsimp
 refine wk_abs (fun st => st.h.n = h.n + 5 ∧ (gK 3).run st.tm = .ptr (h.n + 3) 0 0 ∧ (gK 10).run st.tm = .fn 221 [] [.ptr (h.n + 4) 0 0] ∧ st.h.get (h.n + 1) = some (.map [] 0) ∧ st.h.get (h.n + 2) = some (.rows [[g.p.enc Pd.cells, g.keys.enc keyCells, .map (h.n + 1)]]) ∧
  st.h.get (h.n + 3) = some (.rows [[.ptr (h.n + 2) 0 0]]) ∧ st.h.get (h.n + 4) = some (.rows [[.ptr (h.n + 2) 0 0]]) ∧ st.defs = [] ∧ st.round = false) (by simp) ?_
 rintro ⟨tm, h1, defs, round⟩ ⟨hn, h3, h10, e1, e2, e3, e4, rfl, rfl⟩
 simp only at hn h3 h10 e1 e2 e3 e4
 refine wk_range rfl ?_
 simp only [ev_t, h10]
 obtain ⟨body, hbody⟩ : ∃ b : IC, b = (IC.block 1 (IC.ops [i 12 (IOp.r (RdO.load none (Opd.t 3))), i 13 (IOp.p (PO.nilc (Opd.t 12))), i 14 (IOp.p (PO.faddr 2 (Opd.t 13))), i 15 (IOp.r (RdO.load none (Opd.t 14))), i 16 (IOp.p (PO.mov (Opd.t 4))), n (IOp.w (WO.mupd (KK.one SK.int) (Opd.t 15) (Opd.t 16) (Opd.c (V.bool true))))])) := ⟨_, rfl⟩
 rw [← hbody]
 obtain ⟨h0, eh0⟩ : ∃ h0 : Heap, h0 = (h1.push Obj.dfr).push (Obj.loop LoopState.ready none tm [11] (IC.ops [i 4 (IOp.p (PO.mov (Opd.t 11)))]) body) := ⟨_, rfl⟩
 rw [← eh0]
 have hn0 : h0.n = h.n + 7 := by rw [eh0]; simp [hn]
 have g1 : h0.get (h.n + 1) = some (.map [] 0) := by rw [eh0]; simp [hn, e1]
 have g2 : h0.get (h.n + 2) = some (.rows [[g.p.enc Pd.cells, g.keys.enc keyCells, .map (h.n + 1)]]) := by rw [eh0]; simp [hn, e2]
 have g3 : h0.get (h.n + 3) = some (.rows [[.ptr (h.n + 2) 0 0]]) := by rw [eh0]; simp [hn, e3]
 have g4 : h0.get (h.n + 4) = some (.rows [[.ptr (h.n + 2) 0 0]]) := by rw [eh0]; simp [hn, e4]
 have g5 : h0.get (h.n + 5) = some .dfr := by rw [eh0]; simp [hn]
 have g6 : h0.get (h1.n + 1) = some (Obj.loop LoopState.ready none tm [11] (IC.ops [i 4 (IOp.p (PO.mov (Opd.t 11)))]) body) := by rw [eh0]; simp [hn]
 have hB : NB g (h.n + 2) (h.n + 1) (h.n + 4) h0 := ⟨g2, g4, by omega, by omega, by omega, by omega, by omega⟩
 refine W.mono (found_ok (F := h.n + 2) (M := h.n + 1) (S := []) (h0 := h0) hg (fun S => ∀ T : List (Int × Bool), Closed g T g.p.l.length → ∀ k, isB S k = true → isB T k = true) ?_ ?_ hB ⟨fun _ _ _ => rfl, Nat.le_refl _, [], 0, g1, rfl⟩ (by simp [isB, aLook]) (by omega)) ?_
 ·intro S m hS hm hc T hT k hk
  rw [isB_set] at hk
  by_cases e : k = (m : Int)
  ·subst e
   refine hT m hm ?_
   simp only [canB, List.any_eq_true] at hc ⊢
   obtain ⟨a, ha, hc⟩ := hc
   exact ⟨a, ha, onlyB_mono (hS T hT) _ hc⟩
  ·simp only [e, if_false] at hk
   exact hS T hT k hk
 ·intro S h2 m hN hlt hmk
  have hl : h2.get (h1.n + 1) = some (Obj.loop LoopState.ready none tm [11] (IC.ops [i 4 (IOp.p (PO.mov (Opd.t 11)))]) body) := (hN.keep _ (by omega) (by omega)).trans g6
  have b3 : h2.get (h.n + 3) = some (.rows [[.ptr (h.n + 2) 0 0]]) := (hN.keep _ (by omega) (by omega)).trans g3
  have b2 : h2.get (h.n + 2) = some (.rows [[g.p.enc Pd.cells, g.keys.enc keyCells, .map (h.n + 1)]]) := (hN.keep _ (by omega) (by omega)).trans g2
  refine WF.yld hl (by omega) rfl ?_
  simp -dsimp
  refine ⟨rfl, rfl, none, tm, _, _, _, hl, ?_⟩
  have q1 : ¬ h.n + 3 = h1.n + 1 := by omega
  have q2 : ¬ h.n + 2 = h1.n + 1 := by omega
  have q3 : ¬ h.n + 1 = h1.n + 1 := by omega
  rw [hbody]
  simp -dsimp [h3, b3, b2, q1, q2, nilcV]
  obtain ⟨es, c, m1, m2⟩ := hN.m
  have hfl : Flags (h2.set (h1.n + 1) (Obj.loop LoopState.busy none tm [11] (IC.ops [i 4 (IOp.p (PO.mov (Opd.t 11)))]) (IC.block 1 (IC.ops [i 12 (IOp.r (RdO.load none (Opd.t 3))), i 13 (IOp.p (PO.nilc (Opd.t 12))), i 14 (IOp.p (PO.faddr 2 (Opd.t 13))), i 15 (IOp.r (RdO.load none (Opd.t 14))), i 16 (IOp.p (PO.mov (Opd.t 4))), n (IOp.w (WO.mupd (KK.one SK.int) (Opd.t 15) (Opd.t 16) (Opd.c (V.bool true))))])))) (h.n + 1) S := ⟨es, c, by rw [Heap.get_set, if_neg q3, m1], m2⟩
  obtain ⟨es', c', k1, k2⟩ := flags_set hfl (mk := h.n) (by omega) m true
  refine OpS.intro k1 ?_
  simp -dsimp
  refine ⟨rfl, _, none, tm, _, _, body, by rw [Heap.get_set, if_neg (by omega), Heap.get_set, if_pos rfl, hbody], ?_⟩
  refine ⟨rfl, ⟨fun i hi hM => ?_, ?_, es', c', ?_, k2⟩, ?_⟩
  ·rw [Heap.get_set]
   by_cases e : i = h1.n + 1
   ·rw [if_pos e, e, g6]
   ·rw [if_neg e, Heap.get_set, if_neg hM, Heap.get_set, if_neg e, hN.keep i hi hM]
  ·exact hN.n
  ·rw [Heap.get_set, if_neg (by omega), Heap.get_set, if_pos rfl]
  ·exact hmk
 ·rintro ⟨v, h2⟩ ⟨S, hN, hR, hC, hmk⟩
  simp only at hN hmk ⊢
  have hl : h2.get (h1.n + 1) = some (Obj.loop LoopState.ready none tm [11] (IC.ops [i 4 (IOp.p (PO.mov (Opd.t 11)))]) body) := (hN.keep _ (by omega) (by omega)).trans g6
  have b3 : h2.get (h.n + 3) = some (.rows [[.ptr (h.n + 2) 0 0]]) := (hN.keep _ (by omega) (by omega)).trans g3
  have b5 : h2.get (h.n + 5) = some .dfr := (hN.keep _ (by omega) (by omega)).trans g5
  refine ⟨_, _, _, _, _, _, hl, by simp, .inl ⟨rfl, ?_⟩⟩
  have q1 : ¬ h.n + 3 = h1.n + 1 := by omega
  have q2 : ¬ h.n + 5 = h1.n + 1 := by omega
  simp -dsimp [h3, b3, q1, hn, b5]
  obtain ⟨es, c, m1, m2⟩ := hN.m
  have b2 := hB.fx hN
  exact ⟨_, S, ⟨by rw [Heap.get_kill, if_neg (by omega), Heap.get_set, if_neg (by omega)]; exact b2, ⟨es, c, by rw [Heap.get_kill, if_neg (by omega), Heap.get_set, if_neg (by omega)]; exact m1, m2⟩, by have := hN.n; simp; omega, by have := hN.n; simp; omega⟩, hC, hR⟩
end
end Go.Abs
namespace Go.Abs
open Go Pr
set_option maxRecDepth 10000
structure SyOk (many : Nat) (s : Sy) : Prop where
 kind : s.kind = 0 ∨ s.kind = 1 ∨ s.kind = 2
 set : s.kind ≠ 2 → setB s = true
 non : s.kind = 2 → 0 ≤ s.n ∧ s.n < many ∧ s.r.l = []
structure GrOk (g : Gr) : Prop where
 p0 : 0 < g.p.l.length
 p : g.p.l.length ≤ 60
 a0 : ∀ p ∈ g.p.l, 0 < p.a.l.length
 a : ∀ p ∈ g.p.l, p.a.l.length ≤ 8
 marks : ∀ p ∈ g.p.l, 0 ≤ p.marks ∧ p.marks ≤ 63
 s : ∀ p ∈ g.p.l, ∀ a ∈ p.a.l, a.l.length ≤ 40
 sy : ∀ p ∈ g.p.l, ∀ a ∈ p.a.l, ∀ s ∈ a.l, SyOk g.p.l.length s
 no : ∀ p ∈ g.p.l, rgMay p.no.l = true
theorem badB_ok {many : Nat} {s : Sy} (h : badB many s = false) : SyOk many s := by
 unfold badB at h
 split at h
 ·rename_i hk
  refine ⟨by omega, fun _ => by simpa using h, fun e => by omega⟩
 ·rename_i hk
  split at h
  ·rename_i hk2
   simp at h
   exact ⟨by omega, fun e => absurd hk2 e, fun _ => ⟨h.1.1, h.1.2, h.2⟩⟩
  ·cases h
theorem mayB_ok {g : Gr} (h : mayB g = true) : GrOk g := by
 simp only [mayB, Bool.and_eq_true, List.all_eq_true, decide_eq_true_eq] at h
 obtain ⟨⟨h1, h2⟩, h3⟩ := h
 have key : ∀ p ∈ g.p.l, ((0 < p.a.l.length ∧ p.a.l.length ≤ 8) ∧ 0 ≤ p.marks ∧ p.marks ≤ 63) ∧ rgMay p.no.l = true ∧ ∀ a ∈ p.a.l, a.l.length ≤ 40 ∧ ∀ s ∈ a.l, SyOk g.p.l.length s := by
  intro p hp
  have := h1 p hp
  simp only [prodOk, Bool.not_eq_true', Bool.or_eq_false_iff, decide_eq_false_iff_not, Bool.not_eq_false', List.any_eq_false] at this
  obtain ⟨⟨⟨⟨⟨k1, k2⟩, k3⟩, k4⟩, k5⟩, k6⟩ := this
  refine ⟨⟨⟨by omega, by omega⟩, by omega, by omega⟩, by simpa using k5, fun a ha => ?_⟩
  have := k6 a ha
  simp only [oddB, Bool.or_eq_true, not_or, decide_eq_true_eq, List.any_eq_true, not_exists, not_and, Bool.not_eq_true] at this
  exact ⟨by omega, fun s hs => badB_ok (this.2 s hs)⟩
 exact ⟨by omega, by omega, fun p hp => (key p hp).1.1.1, fun p hp => (key p hp).1.1.2, fun p hp => (key p hp).1.2, fun p hp a ha => ((key p hp).2.2 a ha).1, fun p hp a ha => ((key p hp).2.2 a ha).2, fun p hp => (key p hp).2.1⟩
def leftsUp (N : Int → Bool) (l : List Sy) : Nat → List Int
 | 0 => []
 | i + 1 => leftsUp N l i ++ (if decide ((lat l i).kind = 2) && onlyN N (l.take i) then [(lat l i).n] else [])
def leftsAll (N : Int → Bool) (as : List (Sl Sy)) : Nat → List Int
 | 0 => []
 | i + 1 => leftsAll N as i ++ leftsUp N (lat as i).l (lat as i).l.length
def leftsOf (N : Int → Bool) (g : Gr) (n : Nat) : List Int := leftsAll N (lat g.p.l n).a.l (lat g.p.l n).a.l.length
theorem leftsUp_len (N : Int → Bool) (l : List Sy) : ∀ i, (leftsUp N l i).length ≤ i
 | 0 => by simp [leftsUp]
 | i + 1 => by have := leftsUp_len N l i; simp only [leftsUp]; split <;> simp <;> omega
theorem leftsAll_len (N : Int → Bool) (as : List (Sl Sy)) (h : ∀ a ∈ as, a.l.length ≤ 40) : ∀ i, i ≤ as.length → (leftsAll N as i).length ≤ 40 * i
 | 0, _ => by simp [leftsAll]
 | i + 1, hi => by
  have h1 := leftsAll_len N as h i (by omega)
  have h2 := leftsUp_len N (lat as i).l (lat as i).l.length
  have h3 := h _ (lat_mem (l := as) (i := i) (by omega))
  simp only [leftsAll, List.length_append]; omega
open Classical in
noncomputable def nulB (g : Gr) (k : Int) : Bool := decide (∀ T : List (Int × Bool), Closed g T g.p.l.length → isB T k = true)
theorem exact_nul {g : Gr} {S : List (Int × Bool)} (h : Exact g S) : isB S = nulB g := by
 funext k
 rw [Bool.eq_iff_iff]
 simp only [nulB, decide_eq_true_eq]
 exact ⟨fun hk T hT => h.2 T hT k hk, fun hk => hk S h.1⟩
noncomputable def leftsL (g : Gr) (n : Int) : List Int := if mayB g = true ∧ 0 ≤ n ∧ n < g.p.l.length then dd (sortI (leftsOf (nulB g) g n.toNat)) else []
theorem NI.keep {g : Gr} {F M : Nat} {S : List (Int × Bool)} {h h' : Heap} (hN : NI g F M S h) (hk : ∀ i, i < h.n → h'.get i = h.get i) (hn : h.n ≤ h'.n) : NI g F M S h' := by
 obtain ⟨h1, ⟨es, c, h2, h3⟩, h4, h5⟩ := hN
 exact ⟨by rw [hk _ h4, h1], ⟨es, c, by rw [hk _ h5, h2], h3⟩, by omega, by omega⟩
theorem lefts_ok (g : Gr) (hg : g.Small) (m : Int) {d : Bool} {mk : Nat} {h : Heap} : WF PR d mk (.fn 133 [] []) [.agg g.cells, .int .i64 m] h fun r => r = ⟨(slOf (leftsL g m)).enc intCells, h⟩ := by
 refine WF.pureOne (F := f133) rfl rfl rfl (Nat.le_of_ble_eq_true rfl) ?_
 refine wbodyS b133 [.tm 4] rfl rfl ?_
 unfold b133
 simp -dsimp [Gr.cells]
 refine WFS.by (may_ok g hg) ?_
 intro v h' e
 cases e
 simp -dsimp
 have hbad : ¬ (mayB g = true ∧ 0 ≤ m ∧ m < g.p.l.length) → slOf (leftsL g m) = .nil := fun e => by simp [leftsL, e, slOf]
 rw [Gd_f]
 refine ⟨fun hb1 => ?_, fun hb1 => ?_⟩
 ·simp -dsimp [hb1]
  rw [Gd_f]
  refine ⟨fun hb2 => ?_, fun hb2 => ?_⟩
  ·simp -dsimp [hb2]
   rw [Br_bool]
   refine ⟨fun hb3 => ?_, fun hb3 => ?_⟩
   ·simp at hb3
    have := hbad (by omega)
    simp -dsimp [hb3, this, Sl.enc]
   ·simp -dsimp [hb3]
    refine WFS.by (nullof_ok (h := h.push (.rows [[g.p.enc Pd.cells, g.keys.enc keyCells]])) hg (by simp)) ?_
    rintro v H1 ⟨⟨F, M, S, rfl, hN, hE⟩, hn1, hk1⟩
    simp at hb1 hb2 hb3 hn1
    have hB := hk1 h.n (by simp)
    simp at hB
    have hok := mayB_ok hb1
    have hnul := exact_nul hE
    simp -dsimp [hB, hb2, hb3]
    have hmem := lat_mem (l := g.p.l) (i := m.toNat) (by omega)
    have o1 := hok.a _ hmem
    have o2 := hok.s _ hmem
    have o3 := hg.s _ hmem
    have hl : leftsL g m = dd (sortI (leftsAll (nulB g) (lat g.p.l m.toNat).a.l (lat g.p.l m.toNat).a.l.length)) := by
     rw [leftsL, if_pos ⟨hb1, hb2, hb3⟩]; rfl
    obtain ⟨p, hp⟩ : ∃ p, lat g.p.l m.toNat = p := ⟨_, rfl⟩
    rw [hp] at o1 o2 o3 hl
    have o4 := leftsAll_len (nulB g) p.a.l o2
    rw [hp]
    simp -dsimp [Pd.cells]
    refine wk_loop (fun k st => ∃ i : Int, 0 ≤ i ∧ (k : Int) = p.a.l.length - i ∧ (gK 34).run st.tm = .int .i64 i ∧ H1.n ≤ st.h.n ∧ (∀ j, j < H1.n → st.h.get j = H1.get j) ∧ Own st.h H1.n ((gK 6).run st.tm) 1 (intRows (leftsAll (nulB g) p.a.l i.toNat)) ∧ st.defs = []) p.a.l.length ⟨0, by simp [leftsAll, Own, intRows]⟩ ?_
    rintro k ⟨tm, h2, defs, round⟩ ⟨i, hi, hk, h34, hn2, hk2, hO, rfl⟩ hK
    have h5 := hK 5 rfl
    have h32 := hK 32 rfl
    have h33 := hK 33 rfl
    simp at h5 h32 h33 h34 hn2 hk2 hO
    clear hK
    simp -dsimp [h33, h34]
    rw [Br_bool]
    refine ⟨fun hc => ?_, fun hc => ?_⟩
    ·simp at hc
     have hm1 := lat_mem (l := p.a.l) (i := i.toNat) (by omega)
     have p1 := o2 _ hm1
     have p2 := o3 _ hm1
     have p3 := o4 i.toNat (by omega)
     obtain ⟨a, ha⟩ : ∃ a, lat p.a.l i.toNat = a := ⟨_, rfl⟩
     rw [ha] at p1 p2
     have hall : leftsAll (nulB g) p.a.l (i.toNat + 1) = leftsAll (nulB g) p.a.l i.toNat ++ leftsUp (nulB g) a.l a.l.length := by rw [leftsAll, ha]
     simp -dsimp [h32, h34, hi, hc, ha, altCells]
     refine wk_loop (fun k st => ∃ j : Int, 0 ≤ j ∧ (k : Int) = a.l.length - j ∧ (gK 40).run st.tm = .int .i64 j ∧ H1.n ≤ st.h.n ∧ (∀ j, j < H1.n → st.h.get j = H1.get j) ∧ Own st.h H1.n ((gK 6).run st.tm) 1 (intRows (leftsAll (nulB g) p.a.l i.toNat ++ leftsUp (nulB g) a.l j.toNat)) ∧ st.defs = []) a.l.length ⟨0, by simpa [leftsUp, hn2] using ⟨hk2, hO⟩⟩ ?_
     rintro k3 ⟨tm3, h3, defs, round⟩ ⟨j, hj, hk3, h40, hn3, hkk3, hO3, rfl⟩ hK
     have h5' := hK 5 rfl
     have h8 := hK 8 rfl
     have h34' := hK 34 rfl
     have h38 := hK 38 rfl
     have h39 := hK 39 rfl
     simp [h5, h34] at h5' h8 h34' h38 h39 h40 hn3 hkk3 hO3
     clear hK
     simp -dsimp [h39, h40]
     rw [Br_bool]
     refine ⟨fun hc2 => ?_, fun hc2 => ?_⟩
     ·simp at hc2
      have hjl : j.toNat < a.l.length := by omega
      have p4 := leftsUp_len (nulB g) a.l j.toNat
      obtain ⟨s, hs⟩ : ∃ s, lat a.l j.toNat = s := ⟨_, rfl⟩
      have hup : leftsUp (nulB g) a.l (j.toNat + 1) = leftsUp (nulB g) a.l j.toNat ++ (if decide (s.kind = 2) && onlyN (nulB g) (a.l.take j.toNat) then [s.n] else []) := by rw [leftsUp, hs]
      have hmk : h.n ≤ h3.n := by omega
      have fj : fw .i64 (j + 1) = j + 1 := fw64 (by omega) (by omega)
      simp -dsimp [h5', h8, h38, h40, hj, hc2, hs, Sy.cells, hmk]
      obtain ⟨H3, eH3⟩ : ∃ H3, (h3.push (Obj.rows [[V.int IntKind.i64 0, V.nils, V.int IntKind.i64 0]])).set h3.n (Obj.rows [[V.int IntKind.i64 s.kind, Sl.enc Rg.cells s.r, V.int IntKind.i64 s.n]]) = H3 := ⟨_, rfl⟩
      have x1 : H3.n = h3.n + 1 := by rw [← eH3]; simp
      have x2 : ∀ q, q < h3.n → H3.get q = h3.get q := fun q hq => by rw [← eH3, Heap.get_set, if_neg (by omega), Heap.get_push, if_neg (by omega)]
      have x3 : H3.get h3.n = some (.rows [[V.int IntKind.i64 s.kind, Sl.enc Rg.cells s.r, V.int IntKind.i64 s.n]]) := by rw [← eH3]; simp
      have x4 : ∀ q, q < H1.n → H3.get q = H1.get q := fun q hq => by rw [x2 q (by omega), hkk3 q hq]
      have x5 : Own H3 H1.n ((gK 6).run tm3) 1 (intRows (leftsAll (nulB g) p.a.l i.toNat ++ leftsUp (nulB g) a.l j.toNat)) := hO3.ext x2 (by omega)
      rw [eH3]
      have hj2 : (j + 1).toNat = j.toNat + 1 := by omega
      rw [Gd_t]
      refine ⟨fun hs2 => ?_, fun hs2 => ?_⟩
      ·have hcut : sliceV 3 (cutK none (some (Opd.t 51)) none) ((sK 51).run (V.int IntKind.i64 j) ((sK 50).run (Sl.enc Sy.cells a) ((sK 49).run (V.ptr F 0 0) ((sK 48).run (V.bool true) ((sK 47).run (V.bool true) ((sK 46).run (V.int IntKind.i64 s.kind) ((sK 45).run (V.ptr h3.n 0 0) ((sK 9).run (V.int IntKind.i64 j) ((sK 10).run (V.ptr h3.n 0 0) ((sK 44).run (V.agg [V.int IntKind.i64 s.kind, Sl.enc Rg.cells s.r, V.int IntKind.i64 s.n]) ((sK 43).run (V.ptrR [V.int IntKind.i64 s.kind, Sl.enc Rg.cells s.r, V.int IntKind.i64 s.n] 0) ((sK 42).run (V.int IntKind.i64 j) ((sK 41).run (V.bool true) tm3))))))))))))) (a.enc Sy.cells) = some ((a.cut 0 j.toNat).enc Sy.cells) :=
        slice_enc (fun _ => rfl) fun fl => by simp [bnd_int (n := j) (top := a.l.length) hj (by omega), cutOf]
       simp -dsimp [hs2, h5', h8, hcut]
       refine WFS.by (only_ok (hN.keep (h' := H3) x4 (by simp; omega)) (a.cut 0 j.toNat) (by simp; omega)) ?_
       intro v h' e
       cases e
       have hon : onlyB S (a.cut 0 j.toNat).l = onlyN (nulB g) (a.l.take j.toNat) := by rw [onlyB, hnul]; simp
       rw [hon]
       simp -dsimp
       rw [Br_bool]
       refine ⟨fun ho => ?_, fun ho => ?_⟩
       ·simp -dsimp [x3]
        refine OpS.ex ?_
        rw [W_append (xs := [[.int .i64 s.n]]) (by simp)]
        obtain ⟨v', h4, w1, w2, w3, w4, w5⟩ := own_append (mk := h.n) (bytes := 8) x5 (by omega) (xs := [[.int .i64 s.n]]) (by simp) (by simp; omega) (by omega) (by omega)
        simp only [ev_t, gK_sK, Nat.reduceEqDiff, if_false, if_true]
        refine ⟨_, w1, ?_⟩
        simp -dsimp [h40, fj]
        refine Again.intro (k3 - 1) (by omega) ⟨j + 1, by omega, by omega, by simp, by simp; omega, fun q hq => by rw [w4 q (by omega) (x5.slId hq), x4 q hq], ?_, rfl⟩
        rw [hj2, hup, hs2, ho, ← List.append_assoc]
        simpa [intRows] using w2
       ·simp -dsimp [h40, fj]
        refine Again.intro (k3 - 1) (by omega) ⟨j + 1, by omega, by omega, by simp, by simp; omega, x4, ?_, rfl⟩
        rw [hj2, hup, ho]
        simpa using x5
      ·simp -dsimp [hs2, h40, fj]
       refine Again.intro (k3 - 1) (by omega) ⟨j + 1, by omega, by omega, by simp, by simp; omega, x4, ?_, rfl⟩
       rw [hj2, hup, hs2]
       simpa using x5
     ·simp at hc2
      have hc2' : decide (j < (a.l.length : Int)) = false := by simpa using hc2
      have hj2 : j.toNat = a.l.length := by omega
      rw [hj2, ← hall] at hO3
      simp -dsimp [hc2', h34', fw64 (n := i + 1) (by omega) (by omega)]
      exact Again.intro (k - 1) (by omega) ⟨i + 1, by omega, by omega, by simp, hn3, hkk3, by rw [show (i + 1).toNat = i.toNat + 1 by omega]; simpa using hO3, rfl⟩
    ·simp at hc
     have hc' : decide (i < (p.a.l.length : Int)) = false := by simpa using hc
     have hi2 : i.toNat = p.a.l.length := by omega
     have p3 := o4 p.a.l.length (Nat.le_refl _)
     rw [hi2] at hO
     simp -dsimp [hc']
     refine WFS.by (sort_ok hO (by omega) (by omega)) ?_
     rintro v h3 ⟨rfl, hO2, hn3, hk3⟩
     simp -dsimp
     refine WFS.by (compactO hO2 (by omega) (by simp; omega)) ?_
     rintro v h4 ⟨_, _, hfr, _⟩
     simp -dsimp
     rw [hl]
     exact hfr h.n (by omega)
  ·simp at hb2
   have := hbad (by omega)
   simp -dsimp [hb2, this, Sl.enc]
 ·simp at hb1
  have := hbad (by simp [hb1])
  simp -dsimp [hb1, this, Sl.enc]
end Go.Abs
namespace Go.Abs
open Go Pr
set_option maxRecDepth 10000
def Fifo (h : Heap) (m0 : Nat) (v : V) (l : List Int) : Prop :=
 v = .slR (intRows l) true ∨ ∃ id L1 L2, v = .sl id L1.length l.length 1 false ∧ h.get id = some (.rows (intRows (L1 ++ l ++ L2))) ∧ m0 ≤ id ∧ id < h.n
theorem Fifo.ext {h h' : Heap} {m0 : Nat} {v : V} {l : List Int} (hO : Fifo h m0 v l) (hk : ∀ j, m0 ≤ j → j < h.n → h'.get j = h.get j) (hn : h.n ≤ h'.n) : Fifo h' m0 v l := by
 rcases hO with h1 | ⟨id, L1, L2, h1, h2, h3, h4⟩
 ·exact .inl h1
 ·exact .inr ⟨id, L1, L2, h1, by rw [hk id h3 h4, h2], h3, by omega⟩
theorem Fifo.len {h : Heap} {m0 : Nat} {v : V} {l : List Int} (hO : Fifo h m0 v l) : lenV .sl v h = some (.int .i64 l.length) := by
 rcases hO with rfl | ⟨id, L1, L2, rfl, _⟩ <;> simp
theorem Fifo.head {h : Heap} {m0 : Nat} {v : V} {x : Int} {l : List Int} (hO : Fifo h m0 v (x :: l)) : ∃ p, iaddrV 1 v (.int .i64 0) = some p ∧ loadV none p h = some (.int .i64 x) := by
 rcases hO with rfl | ⟨id, L1, L2, rfl, h2, _⟩
 ·exact ⟨.ptrR [.int .i64 x] 0, by simp [iaddrV, idx_int, intRows, nthR], by simp⟩
 ·refine ⟨.ptr id L1.length 0, by simp [iaddrV, idx_int (k := .i64) (n := 0) (len := l.length + 1) (by omega) (by omega)], ?_⟩
  have hlt : L1.length < (L1 ++ x :: l ++ L2).length := by simp; omega
  rw [loadV_ptr, h2, loadAt_rows, intRow_get hlt, lat_eq hlt]
  simp
theorem Fifo.tail {h : Heap} {m0 : Nat} {v : V} {x : Int} {l : List Int} {tm : Tm} (hO : Fifo h m0 v (x :: l)) : ∃ v', sliceV 1 (cutK (some (.c (.int .i64 1))) none none) tm v = some v' ∧ Fifo h m0 v' l := by
 rcases hO with rfl | ⟨id, L1, L2, rfl, h2, h3, h4⟩
 ·have hb : bnd 1 (l.length + 1) = some 1 := bnd_int (n := 1) (by omega) (by omega)
  refine ⟨.slR (intRows l) true, ?_, .inl rfl⟩
  simp [sliceV, rowsLen, intRows, cutOf, hb]
  rw [List.take_of_length_le (by simp)]
 ·refine ⟨.sl id (L1 ++ [x]).length l.length 1 false, ?_, .inr ⟨id, L1 ++ [x], L2, rfl, by simpa using h2, h3, h4⟩⟩
  have hb : bnd 1 (l.length + 1) = some 1 := bnd_int (n := 1) (by omega) (by omega)
  simp [cutOf, hb]
theorem Fifo.push {h : Heap} {mk m0 : Nat} {v : V} {l : List Int} (x : Int) (hO : Fifo h m0 v l) (h0 : mk ≤ m0) (hm : m0 ≤ h.n) (hl : l.length < 1000000000) :
  ∃ v' h', appendRows mk h 1 8 v [[.int .i64 x]] = some ⟨v', h'⟩ ∧ Fifo h' m0 v' (l ++ [x]) ∧ h.n ≤ h'.n ∧ ∀ j, j < m0 → h'.get j = h.get j := by
 have hl' : l.length + 1 < 4294967296 := by omega
 rcases hO with rfl | ⟨id, L1, L2, rfl, h2, h3, h4⟩
 ·refine ⟨.sl h.n 0 (l.length + 1) 1 false, h.push (.rows (intRows l ++ [[.int .i64 x]])), ?_, .inr ⟨h.n, [], [], by simp, by simp [intRows], hm, by simp⟩, by simp, fun j hj => by simp; omega⟩
  have hr : rowsLen 1 (intRows l) = true := by cases l <;> simp [rowsLen, intRows]
  simp [appendRows, roomFor, onesR, hl', hr]
 ·refine ⟨.sl h.n 0 (l.length + 1) 1 false, (h.kill id).push (.rows (intRows l ++ [[.int .i64 x]])), ?_, .inr ⟨h.n, [], [], by simp, by simp [intRows], hm, by simp⟩, by simp, fun j hj => by rw [Heap.get_push, Heap.n_kill, if_neg (by omega), Heap.get_kill, if_neg (by omega)]⟩
  have hmi : mk ≤ id := by omega
  have hr : ((intRows (L1 ++ l ++ L2)).drop L1.length).take l.length = intRows l := by simp [intRows]
  have hle : L1.length + l.length ≤ (intRows (L1 ++ l ++ L2)).length := by simp
  have hrow : rowsOf h (.sl id L1.length l.length 1 false) = some (intRows l) := by
   simp only [rowsOf, h2, ble_dec, hle, decide_true, cond, hr]
  simp [appendRows, roomFor, onesR, hl', hrow, hmi]
theorem mem_insI (x y : Int) : ∀ l, y ∈ insI x l ↔ y = x ∨ y ∈ l
 | [] => by simp [insI]
 | z :: l => by
  simp only [insI]
  cases leB x z
  ·simp [mem_insI x y l]; constructor <;> (rintro (h | h | h) <;> simp [h])
  ·simp
theorem mem_sortI (y : Int) : ∀ l, y ∈ sortI l ↔ y ∈ l
 | [] => by simp [sortI]
 | x :: l => by simp [sortI, mem_insI, mem_sortI y l]
theorem mem_ddUp {l : List Int} {y : Int} : ∀ {i : Nat}, i ≤ l.length → (y ∈ ddUp l i ↔ y ∈ l.take i)
 | 0, _ => by simp [ddUp]
 | i + 1, hi => by
  have ih := mem_ddUp (l := l) (y := y) (i := i) (by omega)
  have hlt : i < l.length := by omega
  rw [List.take_add_one, lat_get hlt, ddUp]
  by_cases e : i = 0 ∨ lat l i ≠ lat l (i - 1)
  ·rw [if_pos e]; simp [ih]
  ·rw [if_neg e, ih]
   simp only [not_or, Decidable.not_not] at e
   obtain ⟨e1, e2⟩ := e
   have hm : lat l i ∈ l.take i := by
    rw [e2, lat_eq (by omega)]
    exact List.mem_take_iff_getElem.2 ⟨i - 1, by omega, rfl⟩
   simp
   rintro rfl; exact hm
theorem mem_dd {l : List Int} {y : Int} : y ∈ dd l ↔ y ∈ l := by rw [dd, mem_ddUp (Nat.le_refl _), List.take_length]
theorem leftsUp_mem {N : Int → Bool} {l : List Sy} {y : Int} : ∀ {i : Nat}, i ≤ l.length → (y ∈ leftsUp N l i ↔ ∃ j, j < i ∧ (lat l j).kind = 2 ∧ onlyN N (l.take j) = true ∧ (lat l j).n = y)
 | 0, _ => by simp [leftsUp]
 | i + 1, hi => by
  have ih := leftsUp_mem (N := N) (l := l) (y := y) (i := i) (by omega)
  rw [leftsUp, List.mem_append, ih]
  constructor
  ·rintro (⟨j, h1, h2⟩ | h)
   ·exact ⟨j, by omega, h2⟩
   ·split at h
    ·rename_i hc
     simp only [Bool.and_eq_true, decide_eq_true_eq] at hc
     simp at h
     exact ⟨i, by omega, hc.1, hc.2, h.symm⟩
    ·simp at h
  ·rintro ⟨j, h1, h2, h3, h4⟩
   by_cases e : j = i
   ·subst e; right; simp [h2, h3, h4]
   ·left; exact ⟨j, by omega, h2, h3, h4⟩
theorem leftsAll_mem {N : Int → Bool} {as : List (Sl Sy)} {y : Int} : ∀ {i : Nat}, i ≤ as.length → (y ∈ leftsAll N as i ↔ ∃ k, k < i ∧ ∃ j, j < (lat as k).l.length ∧ (lat (lat as k).l j).kind = 2 ∧ onlyN N ((lat as k).l.take j) = true ∧ (lat (lat as k).l j).n = y)
 | 0, _ => by simp [leftsAll]
 | i + 1, hi => by
  have ih := leftsAll_mem (N := N) (as := as) (y := y) (i := i) (by omega)
  rw [leftsAll, List.mem_append, ih, leftsUp_mem (Nat.le_refl _)]
  constructor
  ·rintro (⟨k, h1, h2⟩ | h)
   ·exact ⟨k, by omega, h2⟩
   ·exact ⟨i, by omega, h⟩
  ·rintro ⟨k, h1, h2⟩
   by_cases e : k = i
   ·subst e; exact .inr h2
   ·exact .inl ⟨k, by omega, h2⟩
theorem leftsL_mem {g : Gr} {m y : Int} : y ∈ leftsL g m ↔ mayB g = true ∧ 0 ≤ m ∧ m < g.p.l.length ∧ ∃ k, k < (lat g.p.l m.toNat).a.l.length ∧ ∃ j, j < (lat (lat g.p.l m.toNat).a.l k).l.length ∧ (lat (lat (lat g.p.l m.toNat).a.l k).l j).kind = 2 ∧ onlyN (nulB g) ((lat (lat g.p.l m.toNat).a.l k).l.take j) = true ∧ (lat (lat (lat g.p.l m.toNat).a.l k).l j).n = y := by
 unfold leftsL
 split
 ·rename_i h
  rw [mem_dd, mem_sortI, leftsOf, leftsAll_mem (Nat.le_refl _)]
  simp [h]
 ·rename_i h
  simp only [List.not_mem_nil, false_iff]
  rintro ⟨h1, h2, h3, _⟩
  exact h ⟨h1, h2, h3⟩
theorem leftsL_range {g : Gr} {m y : Int} (h : y ∈ leftsL g m) : 0 ≤ y ∧ y < g.p.l.length := by
 obtain ⟨h1, h2, h3, k, hk, j, hj, h4, h5, rfl⟩ := leftsL_mem.1 h
 have hp := lat_mem (l := g.p.l) (i := m.toNat) (by omega)
 have := ((mayB_ok h1).sy _ hp _ (lat_mem hk) _ (lat_mem hj)).non h4
 exact ⟨this.1, this.2.1⟩
theorem leftsL_len (g : Gr) (m : Int) : (leftsL g m).length ≤ 320 := by
 unfold leftsL
 split
 ·rename_i h
  have hok := mayB_ok h.1
  have hp := lat_mem (l := g.p.l) (i := m.toNat) (by omega)
  have h1 := leftsAll_len (nulB g) (lat g.p.l m.toNat).a.l (hok.s _ hp) _ (Nat.le_refl _)
  have h2 := hok.a _ hp
  have h3 := ddUp_le (sortI (leftsOf (nulB g) g m.toNat)) (sortI (leftsOf (nulB g) g m.toNat)).length
  rw [sortI_len] at h3
  unfold dd
  rw [sortI_len]
  unfold leftsOf at h3 ⊢
  omega
 ·simp
inductive Comes (g : Gr) (a : Int) : Int → Prop
 | one {b : Int} (h : b ∈ leftsL g a) : Comes g a b
 | more {b c : Int} (h : Comes g a b) (h' : c ∈ leftsL g b) : Comes g a c
open Classical in
noncomputable def comesB (g : Gr) (a b : Int) : Bool := decide (Comes g a b)
end Go.Abs
namespace Go.Abs
open Go Pr
set_option maxRecDepth 10000
def boolRows (l : List Bool) : List (List V) := l.map fun b => [.bool b]
@[simp] theorem boolRows_len {l : List Bool} : (boolRows l).length = l.length := by simp [boolRows]
theorem boolRow_get {l : List Bool} {r : Nat} (h : r < l.length) : (boolRows l)[r]? = some [.bool (lat l r)] := by
 simp [boolRows, lat_get h]
theorem boolRows_set {l : List Bool} {r : Nat} {v : Bool} : (boolRows l).set r [.bool v] = boolRows (l.set r v) := by simp [boolRows, List.map_set]
theorem lat_setT {α : Type} [Inhabited α] {l : List α} {r j : Nat} {v : α} (h : j < l.length) : lat (l.set r v) j = if j = r then v else lat l j := by
 rw [lat_eq (by simpa using h), lat_eq h, List.getElem_set]
 by_cases e : j = r
 ·subst e; simp
 ·simp [e, Ne.symm e]
@[simp] theorem eqv_bool {a b : Bool} : eqv .bool (.bool a) (.bool b) = some (a == b) := (rfl)
theorem index_ok {d : Bool} {mk : Nat} {h : Heap} {v : V} {l : List Bool} {b : Bool} (hlen : lenV .sl v h = some (.int .i64 l.length)) (hget : ∀ i : Int, 0 ≤ i → i < l.length → ∃ p, iaddrV 1 v (.int .i64 i) = some p ∧ loadV none p h = some (.bool (lat l i.toNat))) (hsm : l.length < 1000000) :
  WF PR d mk (.fn 96 [] []) [v, .bool b] h fun r => r = ⟨.int .i64 (idxP (fun x => b == x) l 0), h⟩ := by
 refine WF.pureOne (F := f96) rfl rfl rfl (Nat.le_of_ble_eq_true rfl) ?_
 refine wbodyS b96 [.tm 4] rfl rfl ?_
 unfold b96
 simp -dsimp [hlen]
 refine wk_loop (fun k st => ∃ (i : Int), 0 ≤ i ∧ (k : Int) = l.length - i ∧ idxP (fun x => b == x) (l.drop i.toNat) i = idxP (fun x => b == x) l 0 ∧ (gK 8).run st.tm = .int .i64 i ∧ st.h = h ∧ st.defs = []) l.length ⟨0, by simp⟩ ?_
 rintro k ⟨tm, h', defs, round⟩ ⟨i, hi, hk, hx, h8, rfl, rfl⟩ hK
 have h0 := hK 0 rfl
 have h1 := hK 1 rfl
 have h7 := hK 7 rfl
 simp at h0 h1 h7 h8
 clear hK
 simp -dsimp [h7, h8]
 rw [Br_bool]
 refine ⟨fun hl => ?_, fun hl => ?_⟩
 ·simp at hl
  obtain ⟨p, p1, p2⟩ := hget i hi hl
  rw [drop_lat (by omega)] at hx
  simp only [idxP] at hx
  simp -dsimp [h0, h1, h8, p1, p2]
  rw [Br_bool]
  refine ⟨fun hb => ?_, fun hb => ?_⟩
  ·have hb' : (b == lat l i.toNat) = true := by simpa using hb
   rw [if_pos hb'] at hx
   simp -dsimp [hx]
  ·have hb' : (b == lat l i.toNat) = false := by simpa using hb
   rw [if_neg (by simp [hb'])] at hx
   simp -dsimp [h8, fw64 (n := i + 1) (by omega) (by omega)]
   exact Again.intro (k - 1) (by omega) ⟨i + 1, by omega, by omega, by rw [show (i + 1).toNat = i.toNat + 1 by omega]; exact hx, by simp⟩
 ·simp at hl
  rw [List.drop_eq_nil_of_le (by omega)] at hx
  simp [idxP] at hx
  have hl' : decide (i < (l.length : Int)) = false := by simpa using hl
  simp -dsimp [hl', ← hx]
def symsOf (g : Gr) (n : Nat) : List Sy := catUp (lat g.p.l n).a.l (lat g.p.l n).a.l.length
theorem catUp_mem {α : Type} [Inhabited α] {ls : List (Sl α)} {x : α} : ∀ {i : Nat}, i ≤ ls.length → x ∈ catUp ls i → ∃ a ∈ ls, x ∈ a.l
 | 0, _, h => by simp [catUp] at h
 | i + 1, hi, h => by
  rw [catUp, List.mem_append] at h
  rcases h with h | h
  ·exact catUp_mem (i := i) (by omega) h
  ·exact ⟨_, lat_mem (by omega), h⟩
theorem catUp_len {α : Type} [Inhabited α] {ls : List (Sl α)} {m : Nat} (h : ∀ a ∈ ls, a.l.length ≤ m) : ∀ i, i ≤ ls.length → (catUp ls i).length ≤ m * i
 | 0, _ => by simp [catUp]
 | i + 1, hi => by
  have h1 := catUp_len h i (by omega)
  have h2 := h _ (lat_mem (l := ls) (i := i) (by omega))
  rw [catUp, List.length_append, Nat.mul_add]; omega
theorem lenV_alts {g : Gr} {n : Nat} : ∀ h, lenV .sl ((lat g.p.l n).a.enc altCells) h = some (.int .i64 (lat g.p.l n).a.l.length) := fun h => by simp
theorem wbody_eq {AP : Prog} {d : Bool} {mk : Nat} {F G : IFn} {args : List V} {h : Heap} {Q : VH → Prop} (h1 : F.body = G.body) (h2 : F.res = G.res) : wbody AP d mk F args h Q = wbody AP d mk G args h Q := by
 unfold wbody; rw [h1, h2]
theorem fn164 : PR.fn 164 = some (growF [.int .i64 0, .nils, .int .i64 0] 3 40) := (rfl : PR.fn 164 = some f164).trans (congrArg some (by unfold f164 growF; rw [shapes.2.1]))
theorem fn218 : PR.fn 218 = some (growF [.int .i64 0, .int .i64 0] 2 16) := (rfl : PR.fn 218 = some f218).trans (congrArg some (by unfold f218 growF; rw [shapes.2.2.2]))
theorem concatSy_ok {s : Sl (Sl Sy)} (hs : s.l.length ≤ 8) (hs2 : ∀ a ∈ s.l, a.l.length ≤ 40) {d : Bool} {mk : Nat} {h : Heap} (hm : mk ≤ h.n) :
  WF PR d mk (.fn 135 [] []) [s.enc altCells] h fun r => OwnJ r.h h.n r.v 3 ((catUp s.l s.l.length).map Sy.cells) ∧ h.n ≤ r.h.n ∧ ∀ j, j < h.n → r.h.get j = h.get j := by
 refine WF.fn (F := f135) rfl rfl rfl (Nat.le_of_ble_eq_true rfl) ?_
 rw [wbody_eq (F := f135) (G := concatF true 3 40 164) shapes.1 rfl]
 refine concat_body (enc := Sy.cells) (ls := s.l) (zero := [.int .i64 0, .nils, .int .i64 0]) fn164 rfl rfl (by omega) hm (fun a => ⟨rfl, by simp [Sy.cells]⟩) (fun h => by simp) (fun i h0 h1 => ⟨_, iaddr_alt h0 h1, fun h => by simp [altCells]⟩) (by omega) (fun i hi => ?_) (fun v' h' h1 h2 h3 => ⟨h1, h2, h3⟩)
 have := catUp_len hs2 i hi
 have : 40 * i ≤ 40 * 8 := Nat.mul_le_mul_left _ (by omega)
 omega
def stepL (g : Gr) (n : Int) : List Int := (symsOf g n.toNat).filterMap fun s => if s.kind = 2 then some s.n else none
inductive Rch (g : Gr) (a : Int) : Int → Prop
 | one {b : Int} (h : b ∈ stepL g a) : Rch g a b
 | more {b c : Int} (h : Rch g a b) (h' : c ∈ stepL g b) : Rch g a c
open Classical in
noncomputable def rchB (g : Gr) (a b : Int) : Bool := decide (Rch g a b)
noncomputable def reachL (g : Gr) (a : Int) : List Bool := (List.range g.p.l.length).map fun (k : Nat) => rchB g a k
theorem aDel_isB {k j : Int} : ∀ {S : List (Int × Bool)}, (S.map (·.1)).Nodup → isB (aDel k S) j = if j = k then false else isB S j
 | [], _ => by simp [aDel, isB, aLook]
 | e :: S, h => by
  simp only [List.map_cons, List.nodup_cons] at h
  have ih := aDel_isB (k := k) (j := j) h.2
  by_cases c : k = e.1
  ·subst c
   simp only [aDel, if_true]
   by_cases c2 : j = e.1
   ·subst c2
    simp only [if_true]
    have key : ∀ (S : List (Int × Bool)), e.1 ∉ S.map (·.1) → isB S e.1 = false := by
     intro S
     induction S with
     | nil => intro _; rfl
     | cons x S ih => intro hx; simp at hx; simp only [isB, aLook, if_neg hx.1]; exact ih (by simpa using hx.2)
    exact key S h.1
   ·simp [c2, isB, aLook]
  ·simp only [aDel, if_neg c]
   by_cases c2 : j = e.1
   ·have : ¬ j = k := fun e2 => c (by rw [← e2, c2])
    rw [if_neg this]
    simp [isB, aLook, c2]
   ·have e3 : isB (e :: aDel k S) j = isB (aDel k S) j := by simp [isB, aLook, c2]
    have e4 : isB (e :: S) j = isB S j := by simp [isB, aLook, c2]
    rw [e3, e4, ih]
theorem aDel_keys {k : Int} : ∀ {S : List (Int × Bool)}, ((aDel k S).map (·.1)) = (S.map (·.1)).erase k
 | [] => rfl
 | e :: S => by
  simp only [aDel]
  by_cases c : k = e.1
  ·subst c; simp
  ·rw [if_neg c, List.map_cons, List.map_cons, aDel_keys, List.erase_cons_tail (by simpa using fun e2 => c e2.symm)]
theorem aSet_keys {k : Int} {v : Bool} : ∀ {S : List (Int × Bool)}, ((aSet k v S).map (·.1)) = if k ∈ S.map (·.1) then S.map (·.1) else S.map (·.1) ++ [k]
 | [] => rfl
 | e :: S => by
  simp only [aSet]
  by_cases c : k = e.1
  ·subst c; simp
  ·rw [if_neg c, List.map_cons, aSet_keys]
   by_cases c2 : k ∈ S.map (·.1)
   ·simp [c2]
   ·simp only [if_neg c2, List.map_cons, List.mem_cons, c, c2, or_self, if_false, List.cons_append]
end Go.Abs
namespace Go.Abs
open Go Pr
set_option maxRecDepth 10000
theorem comes_ok (g : Gr) (hg : g.Small) (a b : Int) (hlen : g.p.l.length ≤ 60) {d : Bool} {mk : Nat} {h : Heap} : WF PR d mk (.fn 94 [] []) [.agg g.cells, .int .i64 a, .int .i64 b] h fun r => r = ⟨.bool (comesB g a b), h⟩ := by
 refine WF.pureOne (F := f94) rfl rfl rfl (Nat.le_of_ble_eq_true rfl) ?_
 refine wbodyS b94 [.tm 6] rfl rfl ?_
 unfold b94
 simp -dsimp [Gr.cells]
 refine wk_loop (fun k st => ∃ (S : List (Int × Bool)) (l : List Int), k = l.length + 2 * left S g.p.l.length ∧ k ≤ 200 ∧ h.n + 2 ≤ st.h.n ∧ st.h.get h.n = some (.rows [[g.p.enc Pd.cells, g.keys.enc keyCells]]) ∧ Flags st.h (h.n + 1) S ∧ Fifo st.h (h.n + 2) ((gK 8).run st.tm) l ∧
  (∀ k, isB S k = true → Comes g a k ∧ k ≠ b) ∧ (∀ k ∈ l, k = a ∨ isB S k = true) ∧ (∀ k, (k = a ∨ isB S k = true) → k ∈ l ∨ ∀ c ∈ leftsL g k, isB S c = true) ∧ st.defs = []) (1 + 2 * left [] g.p.l.length) ⟨[], [a], by simp, ?_, by simp, by simp, ⟨[], 0, by simp, rfl⟩, .inl (by simp [intRows]), by simp [isB, aLook], by simp, ?_, rfl⟩ ?_
 ·have : ∀ n, left [] n ≤ n := by
   intro n
   induction n with
   | zero => simp [left]
   | succ n ih => simp [left, isB, aLook]; omega
  have := this g.p.l.length
  omega
 ·intro k hk; simp [isB, aLook] at hk; simp [hk]
 rintro k ⟨tm, h', defs, round⟩ ⟨S, l, hk, hll, hn, hbox, hF, hQ, s1, s2, s3, rfl⟩ hK
 have h2 := hK 2 rfl
 have h3 := hK 3 rfl
 have h7 := hK 7 rfl
 simp at h2 h3 h7 hn hbox hF hQ
 clear hK
 simp -dsimp [hQ.len]
 rw [Br_bool]
 refine ⟨fun hb => ?_, fun hb => ?_⟩
 ·simp at hb
  cases l with
  | nil => simp at hb
  | cons x l =>
   obtain ⟨p, p1, p2⟩ := hQ.head
   simp -dsimp [p1, p2]
   refine OpS.ex ?_
   obtain ⟨v', q1, q2⟩ := hQ.tail (tm := (sK 21).run ((gK 8).run tm) ((sK 9).run (.int .i64 x) ((sK 20).run (.int .i64 x) ((sK 19).run p ((sK 18).run ((gK 8).run tm) ((sK 17).run (.bool true) ((sK 16).run (.int .i64 (↑l.length + 1)) ((sK 15).run ((gK 8).run tm) tm))))))))
   refine ⟨v', q1, ?_⟩
   simp -dsimp [h3, hbox]
   refine WFS.by (lefts_ok g hg x) ?_
   intro v h1 e
   cases e
   simp -dsimp
   simp at hk
   have hlen3 := leftsL_len g x
   refine wk_loop (fun k2 st => ∃ (j : Int) (S' : List (Int × Bool)) (l' : List Int), 0 ≤ j ∧ (k2 : Int) = (leftsL g x).length - j ∧ l'.length + 2 * left S' g.p.l.length ≤ l.length + 2 * left S g.p.l.length ∧ h.n + 2 ≤ st.h.n ∧ st.h.get h.n = some (.rows [[g.p.enc Pd.cells, g.keys.enc keyCells]]) ∧ Flags st.h (h.n + 1) S' ∧ Fifo st.h (h.n + 2) ((gK 8).run st.tm) l' ∧
    (gK 27).run st.tm = .int .i64 j ∧ (∀ k, isB S' k = true → Comes g a k ∧ k ≠ b) ∧ (∀ k ∈ l', k = a ∨ isB S' k = true) ∧ (∀ k, (k = a ∨ isB S' k = true) → k ∈ l' ∨ k = x ∨ ∀ c ∈ leftsL g k, isB S' c = true) ∧ (∀ c ∈ (leftsL g x).take j.toNat, isB S' c = true) ∧ st.defs = []) (leftsL g x).length
    ⟨0, S, l, by omega, by omega, Nat.le_refl _, hn, hbox, hF, by simpa using q2, by simp, s1, fun k hk => s2 k (by simp [hk]), fun k hk => ?_, by simp, rfl⟩ ?_
   ·rcases s3 k hk with h | h
    ·rcases List.mem_cons.1 h with h | h
     ·exact .inr (.inl h)
     ·exact .inl h
    ·exact .inr (.inr h)
   rintro k2 ⟨tm2, h4, defs, round⟩ ⟨j, S', l', hj, hk2, hle, hn', hbox', hF', hQ', h27, s1', s2', s3', s5, rfl⟩ hK
   have h2' := hK 2 rfl
   have h7' := hK 7 rfl
   have h25 := hK 25 rfl
   have h26 := hK 26 rfl
   simp [h2, h7] at h2' h7' h25 h26 hn' hbox' hF' hQ' h27
   clear hK
   simp -dsimp [h26, h27]
   rw [Br_bool]
   have hx : x = a ∨ Comes g a x := by
    rcases s2 x (by simp) with h | h
    ·exact .inl h
    ·exact .inr (s1 x h).1
   refine ⟨fun hc => ?_, fun hc => ?_⟩
   ·simp at hc
    have hlt : j.toNat < (leftsL g x).length := by omega
    have hj' : j < ((slOf (leftsL g x)).l.length : Int) := by simpa using hc
    obtain ⟨c, hcc⟩ : ∃ c, lat (leftsL g x) j.toNat = c := ⟨_, rfl⟩
    have hcm : c ∈ leftsL g x := hcc ▸ lat_mem hlt
    have hca : Comes g a c := by
     rcases hx with rfl | h
     ·exact .one hcm
     ·exact .more h hcm
    have htk : (leftsL g x).take (j + 1).toNat = (leftsL g x).take j.toNat ++ [c] := by rw [show (j + 1).toNat = j.toNat + 1 by omega, List.take_add_one, lat_get hlt, hcc]; rfl
    have fj : fw .i64 (j + 1) = j + 1 := fw64 (by omega) (by omega)
    simp -dsimp [h25, h27, iaddr_int hj hj', intCells, hcc, h2']
    rw [Br_bool]
    refine ⟨fun hd => ?_, fun hd => ?_⟩
    ·simp at hd
     subst hd
     have : comesB g a c = true := by simp [comesB, hca]
     simp -dsimp [this]
    ·simp at hd
     simp -dsimp [h7', flags_look hF' c]
     rw [Br_bool]
     refine ⟨fun he => ?_, fun he => ?_⟩
     ·simp at he
      simp -dsimp [h7']
      refine OpS.ex ?_
      obtain ⟨es', c', m1, m2⟩ := flags_set hF' (mk := h.n) (by omega) c true
      refine ⟨_, m1, ?_⟩
      simp -dsimp [h27]
      refine OpS.ex ?_
      rw [W_append (xs := [[.int .i64 c]]) (by simp)]
      have hrange := leftsL_range hcm
      have hlf := left_lt S' c hrange.1 he g.p.l.length hrange.2
      obtain ⟨v2, h5, w1, w2, w3, w4⟩ := (hQ'.ext (h' := h4.set (h.n + 1) (.map es' c')) (fun q hq1 hq2 => by rw [Heap.get_set, if_neg (by omega)]) (by simp)).push (mk := h.n) c (by omega) (by simp; omega) (by omega)
      simp only [ev_t, gK_sK, Nat.reduceEqDiff, if_false, if_true]
      refine ⟨_, w1, ?_⟩
      simp -dsimp [h27, fj]
      refine Again.intro (k2 - 1) (by omega) ⟨j + 1, aSet c true S', l' ++ [c], by omega, by omega, by simp; omega, by simp at w3; simp; omega, ?_, ⟨es', c', ?_, m2⟩, by simpa using w2, by simp, ?_, ?_, ?_, ?_, rfl⟩
      ·simp; rw [w4 _ (by omega), Heap.get_set, if_neg (by omega), hbox']
      ·simp; rw [w4 _ (by omega), Heap.get_set, if_pos rfl]
      ·intro k hk; rw [isB_set] at hk
       by_cases e : k = c
       ·subst e; exact ⟨hca, hd⟩
       ·simp only [e, if_false] at hk; exact s1' k hk
      ·intro k hk; rw [isB_set]
       rcases List.mem_append.1 hk with hk | hk
       ·rcases s2' k hk with h | h
        ·exact .inl h
        ·right; split <;> simp [h]
       ·simp at hk; right; simp [hk]
      ·intro k hk
       by_cases e : k = c
       ·left; simp [e]
       ·rw [isB_set] at hk; simp only [e, if_false] at hk
        rcases s3' k hk with h | h | h
        ·left; simp [h]
        ·exact .inr (.inl h)
        ·refine .inr (.inr fun q hq => ?_)
         rw [isB_set]; split
         ·rfl
         ·exact h q hq
      ·intro q hq; rw [htk] at hq; rw [isB_set]
       rcases List.mem_append.1 hq with hq | hq
       ·split
        ·rfl
        ·exact s5 q hq
       ·simp at hq; simp [hq]
     ·simp at he
      simp -dsimp [h27, fj]
      refine Again.intro (k2 - 1) (by omega) ⟨j + 1, S', l', by omega, by omega, hle, hn', hbox', hF', by simpa using hQ', by simp, s1', s2', s3', ?_, rfl⟩
      intro q hq; rw [htk] at hq
      rcases List.mem_append.1 hq with hq | hq
      ·exact s5 q hq
      ·simp at hq; rw [hq]; exact he
   ·simp at hc
    have hc' : decide (j < ((leftsL g x).length : Int)) = false := by simpa using hc
    simp -dsimp [hc']
    refine Again.intro (l'.length + 2 * left S' g.p.l.length) (by omega) ⟨S', l', rfl, by omega, hn', hbox', hF', by simpa using hQ', s1', s2', fun k hk => ?_, rfl⟩
    rcases s3' k hk with h | rfl | h
    ·exact .inl h
    ·refine .inr fun c hc2 => s5 c ?_
     rw [List.take_of_length_le (by omega)]; exact hc2
    ·exact .inr h
 ·simp at hb
  subst hb
  simp -dsimp
  have : comesB g a b = false := by
   simp only [comesB, decide_eq_false_iff_not]
   have key : ∀ c, Comes g a c → isB S c = true := by
    intro c hc
    induction hc with
    | one h => exact (s3 a (.inl rfl)).resolve_left (by simp) _ h
    | more _ h' ih => exact (s3 _ (.inr ih)).resolve_left (by simp) _ h'
   intro hc
   exact (s1 b (key b hc)).2 rfl
  simp [this]
end Go.Abs
namespace Go.Abs
open Go Pr
set_option maxRecDepth 10000
structure PileR (h : Heap) (m0 Q : Nat) (l : List Int) : Prop where
 q : m0 ≤ Q
 lq : Q < h.n
 v : ∃ v, h.get Q = some (.rows [[v]]) ∧ ((v = .nils ∧ l = []) ∨ ∃ id L, v = .sl id 0 l.length 1 false ∧ h.get id = some (.rows (intRows (l ++ L))) ∧ m0 ≤ id ∧ id < h.n ∧ id ≠ Q)
def pid (h : Heap) (Q : Nat) : Option Nat := match h.get Q with
 | some (.rows [[.sl id _ _ _ _]]) => some id
 | _ => none
structure PF (Q : Nat) (h h' : Heap) : Prop where
 n : h.n ≤ h'.n
 keep : ∀ j, j < h.n → j ≠ Q → pid h Q ≠ some j → h'.get j = h.get j
 id : ∀ j, pid h' Q = some j → h.n ≤ j ∨ pid h Q = some j
theorem PF.refl {Q : Nat} {h : Heap} : PF Q h h := ⟨Nat.le_refl _, fun _ _ _ _ => rfl, fun _ h => .inr h⟩
theorem PF.trans {Q : Nat} {h h' h'' : Heap} (a : PF Q h h') (b : PF Q h' h'') : PF Q h h'' := by
 refine ⟨Nat.le_trans a.n b.n, fun j h1 h2 h3 => ?_, fun j hj => ?_⟩
 ·rw [b.keep j (by have := a.n; omega) h2 (fun e => (a.id j e).elim (fun h => by omega) h3), a.keep j h1 h2 h3]
 ·rcases b.id j hj with h1 | h1
  ·exact .inl (by have := a.n; omega)
  ·exact a.id j h1
@[simp] theorem meth_len : PR.meth 2 "Len" = some 160 := by decide
@[simp] theorem meth_less : PR.meth 2 "Less" = some 258 := by decide
@[simp] theorem meth_swap : PR.meth 2 "Swap" = some 261 := by decide
@[simp] theorem meth_push : PR.meth 2 "Push" = some 260 := by decide
@[simp] theorem meth_pop : PR.meth 2 "Pop" = some 259 := by decide
theorem lat_app {l L : List Int} {i : Nat} (h : i < l.length) : lat (l ++ L) i = lat l i := by
 rw [lat_eq (by simp; omega), lat_eq h, List.getElem_append_left h]
@[simp] theorem nilcV_ptr {i r o : Nat} : nilcV (.ptr i r o) = some (.ptr i r o) := rfl
section
variable {d : Bool} {m0 Q : Nat} {h : Heap} {l : List Int}
theorem pileLen_ok (hP : PileR h m0 Q l) : WF PR d m0 (.fn 160 [] []) [.ptr Q 0 0] h fun r => r = ⟨.int .i64 l.length, h⟩ := by
 refine WF.fn (F := f160) rfl rfl rfl (Nat.le_of_ble_eq_true rfl) ?_
 refine wbodyS b160 [.tm 2] rfl rfl ?_
 unfold b160
 obtain ⟨_, _, v, h1, h2⟩ := hP
 simp -dsimp [h1]
 rcases h2 with ⟨rfl, rfl⟩ | ⟨id, L, rfl, h3, h4, h5, h6⟩
 ·simp -dsimp
 ·simp -dsimp
theorem pileLess_ok (hP : PileR h m0 Q l) {i k : Int} (hi : 0 ≤ i) (hi' : i < l.length) (hk : 0 ≤ k) (hk' : k < l.length) : WF PR d m0 (.fn 258 [] []) [.ptr Q 0 0, .int .i64 i, .int .i64 k] h fun r => r = ⟨.bool (decide (lat l i.toNat < lat l k.toNat)), h⟩ := by
 refine WF.fn (F := f258) rfl rfl rfl (Nat.le_of_ble_eq_true rfl) ?_
 refine wbodyS b258 [.tm 6] rfl rfl ?_
 unfold b258
 obtain ⟨_, _, v, h1, h2⟩ := hP
 rcases h2 with ⟨rfl, rfl⟩ | ⟨id, L, rfl, h3, h4, h5, h6⟩
 ·simp at hi'; omega
 ·simp -dsimp [h1, iaddr_sl (e := 1) (id := id) (b := 0) (n := l.length) (f := false) (k := .i64) hi hi', iaddr_sl (e := 1) (id := id) (b := 0) (n := l.length) (f := false) (k := .i64) hk hk', h3, intRow_get (l := l ++ L) (r := i.toNat) (by simp; omega), intRow_get (l := l ++ L) (r := k.toNat) (by simp; omega), lat_app (l := l) (L := L) (i := i.toNat) (by omega), lat_app (l := l) (L := L) (i := k.toNat) (by omega)]
theorem pileSwap_ok (hP : PileR h m0 Q l) {i k : Int} (hi : 0 ≤ i) (hi' : i < l.length) (hk : 0 ≤ k) (hk' : k < l.length) : WF PR d m0 (.fn 261 [] []) [.ptr Q 0 0, .int .i64 i, .int .i64 k] h fun r => PileR r.h m0 Q ((l.set i.toNat (lat l k.toNat)).set k.toNat (lat l i.toNat)) ∧ PF Q h r.h := by
 refine WF.fn (F := f261) rfl rfl rfl (Nat.le_of_ble_eq_true rfl) ?_
 refine wbodyS b261 [] rfl rfl ?_
 unfold b261
 obtain ⟨p1, p2, v, h1, h2⟩ := hP
 rcases h2 with ⟨rfl, rfl⟩ | ⟨id, L, rfl, h3, h4, h5, h6⟩
 ·simp at hi'; omega
 ·simp -dsimp [h1, iaddr_sl (e := 1) (id := id) (b := 0) (n := l.length) (f := false) (k := .i64) hi hi', iaddr_sl (e := 1) (id := id) (b := 0) (n := l.length) (f := false) (k := .i64) hk hk', h3, intRow_get (l := l ++ L) (r := i.toNat) (by simp; omega), intRow_get (l := l ++ L) (r := k.toNat) (by simp; omega), lat_app (l := l) (L := L) (i := i.toNat) (by omega), lat_app (l := l) (L := L) (i := k.toNat) (by omega), h4]
  rw [intRows_set]
  simp -dsimp [intRow_get (l := (l ++ L).set i.toNat (lat l k.toNat)) (r := k.toNat) (by simp; omega), h4]
  rw [intRows_set]
  have hpid : pid h Q = some id := by simp [pid, h1]
  refine ⟨⟨p1, by simpa using p2, .sl id 0 l.length 1 false, by simp [Ne.symm h6, h1], .inr ⟨id, L, by simp, ?_, h4, by simpa using h5, h6⟩⟩, ⟨by simp, fun j g1 g2 g3 => ?_, fun j g1 => .inr (by simpa [pid, Ne.symm h6] using g1)⟩⟩
  case refine_2 => rw [hpid] at g3; have : j ≠ id := fun e => g3 (by rw [e]); simp [this]
  rw [Heap.get_set, if_pos rfl, List.set_append_left _ _ (by omega), List.set_append_left _ _ (by simp; omega)]
theorem swap_perm {i k : Nat} (hi : i < l.length) (hk : k < l.length) : ((l.set i (lat l k)).set k (lat l i)).Perm l := by
 rw [List.perm_iff_count]
 intro a
 rw [List.count_set (by simpa using hk), List.count_set hi, List.getElem_set, lat_eq hi, lat_eq hk]
 have c1 : ∀ (j : Nat) (hj : j < l.length), l[j] = a → 0 < l.count a := fun j hj e => List.count_pos_iff.2 (e ▸ List.getElem_mem hj)
 by_cases e : i = k
 ·subst e
  simp
  by_cases e2 : l[i] = a
  ·have := c1 i hi e2; simp [e2]; omega
  ·simp [e2]
 ·simp only [e, if_false, beq_iff_eq]
  by_cases e2 : l[i] = a
  ·have h2 := c1 i hi e2
   by_cases e3 : l[k] = a
   ·simp [e2, e3]; omega
   ·simp [e2, e3]; omega
  ·by_cases e3 : l[k] = a
   ·have h3 := c1 k hk e3
    simp [e2, e3]
   ·simp [e2, e3]
theorem pilePush_ok (hP : PileR h m0 Q l) (hl : l.length < 1000000000) (x : Int) : WF PR d m0 (.fn 260 [] []) [.ptr Q 0 0, .iface 3 (.int .i64 x)] h fun r => PileR r.h m0 Q (l ++ [x]) ∧ PF Q h r.h := by
 refine WF.fn (F := f260) rfl rfl rfl (Nat.le_of_ble_eq_true rfl) ?_
 refine wbodyS b260 [] rfl rfl ?_
 unfold b260
 obtain ⟨p1, p2, v, h1, h2⟩ := hP
 simp -dsimp [h1]
 refine OpS.ex ?_
 rw [W_append (xs := [[.int .i64 x]]) (by simp)]
 simp only [ev_t, gK_sK, Nat.reduceEqDiff, if_false, if_true]
 rcases h2 with ⟨rfl, rfl⟩ | ⟨id, L, rfl, h3, h4, h5, h6⟩
 ·refine ⟨⟨.sl h.n 0 1 1 false, h.push (.rows [[.int .i64 x]])⟩, by simp [appendRows, rowsOf, roomFor, onesR], ?_⟩
  have e : ¬ Q = h.n := by omega
  simp -dsimp [h1, e, p1]
  refine ⟨⟨p1, by simp; omega, .sl h.n 0 1 1 false, by simp, .inr ⟨h.n, [], by simp, ?_, by omega, by simp, fun e' => e e'.symm⟩⟩, ⟨by simp, fun j g1 g2 g3 => ?_, fun j g1 => .inl ?_⟩⟩
  ·simp [Ne.symm e, intRows]
  ·rw [Heap.get_set, if_neg g2, Heap.get_push, if_neg (by omega)]
  ·simp [pid] at g1; omega
 ·have hr : ((intRows (l ++ L)).drop 0).take l.length = intRows l := by simp [intRows]
  refine ⟨⟨.sl h.n 0 (l.length + 1) 1 false, (h.kill id).push (.rows (intRows l ++ [[.int .i64 x]]))⟩, ?_, ?_⟩
  ·have : l.length + 1 < 4294967296 := by omega
   simp [appendRows, rowsOf, roomFor, onesR, h3, h4, this]
   simp [intRows]
  ·have e : ¬ Q = h.n := by omega
   simp -dsimp [h1, e, p1, Ne.symm h6]
   have hpid : pid h Q = some id := by simp [pid, h1]
   refine ⟨⟨p1, by simp; omega, .sl h.n 0 (l.length + 1) 1 false, by simp, .inr ⟨h.n, [], by simp, ?_, by omega, by simp, fun e' => e e'.symm⟩⟩, ⟨by simp, fun j g1 g2 g3 => ?_, fun j g1 => .inl ?_⟩⟩
   ·simp [Ne.symm e, intRows]
   ·rw [hpid] at g3
    have : j ≠ id := fun e => g3 (by rw [e])
    rw [Heap.get_set, if_neg g2, Heap.get_push, Heap.n_kill, if_neg (by omega), Heap.get_kill, if_neg this]
   ·simp [pid] at g1; omega
theorem pilePop_ok {n : Nat} (hP : PileR h m0 Q l) (hn : l.length = n + 1) (hl : l.length < 1000000000) : WF PR d m0 (.fn 259 [] []) [.ptr Q 0 0] h fun r => r.v = .iface 3 (.int .i64 (lat l n)) ∧ PileR r.h m0 Q (l.take n) ∧ PF Q h r.h := by
 refine WF.fn (F := f259) rfl rfl rfl (Nat.le_of_ble_eq_true rfl) ?_
 refine wbodyS b259 [.tm 2] rfl rfl ?_
 unfold b259
 obtain ⟨p1, p2, v, h1, h2⟩ := hP
 rcases h2 with ⟨rfl, e⟩ | ⟨id, L, rfl, h3, h4, h5, h6⟩
 ·rw [e] at hn; simp at hn
 ·obtain ⟨K, hK⟩ : ∃ K, l ++ L = K := ⟨_, rfl⟩
  have hKl : n < K.length := by rw [← hK]; simp; omega
  have hlat : lat K n = lat l n := by rw [← hK]; exact lat_app (by omega)
  rw [hK] at h3
  obtain ⟨N, hN⟩ : ∃ N : Int, N = n := ⟨_, rfl⟩
  have e3 : fw .i64 ((l.length : Int) - 1) = N := by rw [fw64 (by omega) (by omega)]; omega
  have hN0 : 0 ≤ N := by omega
  have hN1 : N < (l.length : Int) := by omega
  have hN2 : N.toNat = n := by omega
  have hn2 : n ≤ l.length := by omega
  simp -dsimp [h1, e3, iaddr_sl (e := 1) (id := id) (b := 0) (f := false) (k := .i64) hN0 hN1, hN2, h3, intRow_get hKl, hlat, bnd_int hN0 (show N ≤ ((l.length : Nat) : Int) by omega), cutOf, p1]
  have e4 : (l.take n).length = n := by simp; omega
  have hpid : pid h Q = some id := by simp [pid, h1]
  refine ⟨⟨p1, by simpa using p2, .sl id 0 n 1 false, by simp, .inr ⟨id, K.drop n, by rw [e4], ?_, h4, by simpa using h5, h6⟩⟩, ⟨by simp, fun j g1 g2 g3 => by rw [Heap.get_set, if_neg g2], fun j g1 => .inr (by simp [pid] at g1; rw [hpid, g1])⟩⟩
  have : l.take n = K.take n := by rw [← hK, List.take_append_of_le_length (by omega)]
  rw [Heap.get_set, if_neg h6, this, List.take_append_drop, h3]
theorem up_ok (hP : PileR h m0 Q l) (hl : l.length < 1000000000) {j : Int} (hj : 0 ≤ j) (hj' : j < l.length) : WF PR d m0 (.fn 219 [] []) [.iface 2 (.ptr Q 0 0), .int .i64 j] h fun r => ∃ l', PileR r.h m0 Q l' ∧ l'.Perm l ∧ PF Q h r.h := by
 refine WF.fn (F := f219) rfl rfl rfl (Nat.le_of_ble_eq_true rfl) ?_
 refine wbodyS b219 [] rfl rfl ?_
 unfold b219
 simp -dsimp
 refine wk_loop (fun k st => ∃ (i : Int) (M : List Int), 0 ≤ i ∧ i < l.length ∧ (k : Int) = i ∧ PileR st.h m0 Q M ∧ M.Perm l ∧ PF Q h st.h ∧ (gK 0).run st.tm = .iface 2 (.ptr Q 0 0) ∧ (gK 1).run st.tm = .int .i64 i ∧ st.defs = []) j.toNat ⟨j, l, hj, hj', by omega, hP, List.Perm.refl _, PF.refl, by simp⟩ ?_
 rintro k ⟨tm, h', defs, round⟩ ⟨i, M, hi, hi', hk, hM, hp, hpf, h0, h1, rfl⟩ hK
 simp at h0 h1 hM hpf
 clear hK
 have hMl := hp.length_eq
 obtain ⟨q, hq⟩ : ∃ q : Int, q = (i - 1).tdiv 2 := ⟨_, rfl⟩
 have hq12 : 0 ≤ q ∧ q ≤ i := by
  by_cases e : i = 0
  ·subst e; rw [hq]; decide
  ·rw [hq, Int.tdiv_eq_ediv_of_nonneg (by omega)]; omega
 obtain ⟨hq1, hq2⟩ := hq12
 simp -dsimp [h0, h1, bin_quo, fw64 (n := i - 1) (by omega) (by omega), ← hq, fw64 (n := q) (by omega) (by omega)]
 rw [Gd_f]
 refine ⟨fun hb => ?_, fun hb => ?_⟩
 ·simp -dsimp [hb, h0, h1]
  refine WFS.by (pileLess_ok hM hi (by omega) hq1 (by omega)) ?_
  intro v h'' e
  cases e
  simp -dsimp
  rw [Br_bool]
  refine ⟨fun hc => ?_, fun hc => ?_⟩
  ·simp -dsimp
   exact ⟨M, hM, hp, hpf⟩
  ·simp -dsimp [h0, h1]
   refine WFS.by (pileSwap_ok hM hq1 (by omega) hi (by omega)) ?_
   rintro v h'' ⟨hP2, hpf2⟩
   simp at hb
   simp -dsimp
   refine Again.intro q.toNat (by omega) ⟨q, _, hq1, by omega, by omega, hP2, (swap_perm (by omega) (by omega)).trans hp, hpf.trans hpf2, by simp [h0], by simp, rfl⟩
 ·simp -dsimp [hb]
  exact ⟨M, hM, hp, hpf⟩
theorem down_ok (hP : PileR h m0 Q l) (hl : l.length < 1000000000) {n : Int} (hn : 0 ≤ n) (hn' : n ≤ l.length) : WF PR d m0 (.fn 220 [] []) [.iface 2 (.ptr Q 0 0), .int .i64 0, .int .i64 n] h fun r => ∃ l', PileR r.h m0 Q l' ∧ l'.Perm l ∧ PF Q h r.h := by
 refine WF.fn (F := f220) rfl rfl rfl (Nat.le_of_ble_eq_true rfl) ?_
 refine wbodyS b220 [.tm 6] rfl rfl ?_
 unfold b220
 simp -dsimp
 refine wk_loop (fun k st => ∃ (i : Int) (M : List Int), 0 ≤ i ∧ (k : Int) = n - i + 1 ∧ i ≤ n ∧ PileR st.h m0 Q M ∧ M.Perm l ∧ PF Q h st.h ∧ (gK 7).run st.tm = .int .i64 i ∧ st.defs = []) (n.toNat + 1) ⟨0, l, by omega, by omega, hn, hP, List.Perm.refl _, PF.refl, by simp⟩ ?_
 rintro k ⟨tm, h', defs, round⟩ ⟨i, M, hi, hk, hin, hM, hp, hpf, h7, rfl⟩ hK
 have h0 := hK 0 rfl
 have h1 := hK 1 rfl
 have h2 := hK 2 rfl
 simp at h0 h1 h2 h7 hM hpf
 clear hK
 have hMl := hp.length_eq
 have f1 : fw .i64 (2 * i) = 2 * i := fw64 (by omega) (by omega)
 have f2 : fw .i64 (2 * i + 1) = 2 * i + 1 := fw64 (by omega) (by omega)
 have f3 : fw .i64 (2 * i + 1 + 1) = 2 * i + 1 + 1 := fw64 (by omega) (by omega)
 simp -dsimp [h0, h1, h2, h7, f1, f2]
 rw [Gd_f]
 refine ⟨fun hb => ?_, fun hb => ?_⟩
 ·have hb2 : ¬ 2 * i + 1 < 0 := by omega
  simp -dsimp [hb, hb2, f3, h2]
  simp at hb
  rw [Gd_t]
  refine ⟨fun hc => ?_, fun hc => ?_⟩
  ·simp -dsimp [hc, h0]
   simp at hc
   refine WFS.by (pileLess_ok hM (i := 2 * i + 1 + 1) (k := 2 * i + 1) (by omega) (by omega) (by omega) (by omega)) ?_
   intro v h'' e
   cases e
   simp -dsimp
   rw [Br_bool]
   refine ⟨fun hy => ?_, fun hy => ?_⟩
   ·simp -dsimp [h0, h7]
    refine WFS.by (pileLess_ok hM (i := 2 * i + 1 + 1) (k := i) (by omega) (by omega) hi (by omega)) ?_
    intro v h'' e
    cases e
    simp -dsimp
    rw [Br_bool]
    refine ⟨fun hx => ?_, fun hx => ?_⟩
    ·simp -dsimp [h7, h1]
     exact ⟨M, hM, hp, hpf⟩
    ·simp -dsimp [h0, h7, h1]
     refine WFS.by (pileSwap_ok hM (i := i) (k := 2 * i + 1 + 1) hi (by omega) (by omega) (by omega)) ?_
     rintro v h'' ⟨hP2, hpf2⟩
     simp -dsimp
     refine Again.intro (n - (2 * i + 1 + 1) + 1).toNat (by omega) ⟨2 * i + 1 + 1, _, by omega, by omega, by omega, hP2, (swap_perm (by omega) (by omega)).trans hp, hpf.trans hpf2, by simp, rfl⟩
   ·simp -dsimp [h0, h7]
    refine WFS.by (pileLess_ok hM (i := 2 * i + 1) (k := i) (by omega) (by omega) hi (by omega)) ?_
    intro v h'' e
    cases e
    simp -dsimp
    rw [Br_bool]
    refine ⟨fun hx => ?_, fun hx => ?_⟩
    ·simp -dsimp [h7, h1]
     exact ⟨M, hM, hp, hpf⟩
    ·simp -dsimp [h0, h7, h1]
     refine WFS.by (pileSwap_ok hM (i := i) (k := 2 * i + 1) hi (by omega) (by omega) (by omega)) ?_
     rintro v h'' ⟨hP2, hpf2⟩
     simp -dsimp
     refine Again.intro (n - (2 * i + 1) + 1).toNat (by omega) ⟨2 * i + 1, _, by omega, by omega, by omega, hP2, (swap_perm (by omega) (by omega)).trans hp, hpf.trans hpf2, by simp, rfl⟩
  ·simp -dsimp [hc, h0, h7]
   refine WFS.by (pileLess_ok hM (i := 2 * i + 1) (k := i) (by omega) (by omega) hi (by omega)) ?_
   intro v h'' e
   cases e
   simp -dsimp
   rw [Br_bool]
   refine ⟨fun hx => ?_, fun hx => ?_⟩
   ·simp -dsimp [h7, h1]
    exact ⟨M, hM, hp, hpf⟩
   ·simp -dsimp [h0, h7, h1]
    refine WFS.by (pileSwap_ok hM (i := i) (k := 2 * i + 1) hi (by omega) (by omega) (by omega)) ?_
    rintro v h'' ⟨hP2, hpf2⟩
    simp -dsimp
    refine Again.intro (n - (2 * i + 1) + 1).toNat (by omega) ⟨2 * i + 1, _, by omega, by omega, by omega, hP2, (swap_perm (by omega) (by omega)).trans hp, hpf.trans hpf2, by simp, rfl⟩
 ·simp -dsimp [hb, h7, h1]
  exact ⟨M, hM, hp, hpf⟩
theorem heapPush_ok (hP : PileR h m0 Q l) (hl : l.length < 100000000) (x : Int) : WF PR d m0 (.fn 199 [] []) [.iface 2 (.ptr Q 0 0), .iface 3 (.int .i64 x)] h fun r => r.v = .tup [] ∧ ∃ l', PileR r.h m0 Q l' ∧ l'.Perm (l ++ [x]) ∧ PF Q h r.h := by
 refine WF.fn (F := f199) rfl rfl rfl (Nat.le_of_ble_eq_true rfl) ?_
 refine wbodyS b199 [] rfl rfl ?_
 unfold b199
 simp -dsimp
 refine WFS.by (pilePush_ok hP (by omega) x) ?_
 rintro v h1 ⟨hP1, hpf1⟩
 simp -dsimp
 refine WFS.by (pileLen_ok hP1) ?_
 intro v h2 e
 cases e
 have e1 : fw .i64 (((l.length : Int) + 1) - 1) = l.length := by rw [fw64 (by omega) (by omega)]; omega
 have e2 : fw .i64 (l.length : Int) = l.length := fw64 (by omega) (by omega)
 simp -dsimp [e1, e2]
 refine WFS.by (up_ok hP1 (by simp; omega) (j := l.length) (by omega) (by simp; omega)) ?_
 rintro v h3 ⟨l', hP3, hp, hpf3⟩
 simp -dsimp
 exact ⟨l', hP3, hp, hpf1.trans hpf3⟩
theorem put_ok (hP : PileR h m0 Q l) (hl : l.length < 100000000) (x : Int) : WF PR d m0 (.fn 159 [] []) [.ptr Q 0 0, .int .i64 x] h fun r => r.v = .tup [] ∧ ∃ l', PileR r.h m0 Q l' ∧ l'.Perm (l ++ [x]) ∧ PF Q h r.h := by
 refine WF.fn (F := f159) rfl rfl rfl (Nat.le_of_ble_eq_true rfl) ?_
 refine wbodyS b159 [] rfl rfl ?_
 unfold b159
 simp -dsimp
 refine WFS.by (heapPush_ok hP hl x) ?_
 rintro v h3 ⟨rfl, l', hP3, hp, hpf3⟩
 simp -dsimp
 exact ⟨l', hP3, hp, hpf3⟩
theorem heapPop_ok (hP : PileR h m0 Q l) (hl : l.length < 100000000) (hne : l ≠ []) : WF PR d m0 (.fn 200 [] []) [.iface 2 (.ptr Q 0 0)] h fun r => ∃ x l', r.v = .iface 3 (.int .i64 x) ∧ PileR r.h m0 Q l' ∧ (x :: l').Perm l ∧ PF Q h r.h := by
 refine WF.fn (F := f200) rfl rfl rfl (Nat.le_of_ble_eq_true rfl) ?_
 refine wbodyS b200 [.tm 2] rfl rfl ?_
 unfold b200
 have hpos := List.length_pos_iff.2 hne
 simp -dsimp
 refine WFS.by (pileLen_ok hP) ?_
 intro v h2 e
 cases e
 obtain ⟨n, hn⟩ : ∃ n : Nat, l.length = n + 1 := ⟨l.length - 1, by omega⟩
 have e1 : fw .i64 ((l.length : Int) - 1) = n := by rw [fw64 (by omega) (by omega)]; omega
 simp -dsimp [e1]
 refine WFS.by (pileSwap_ok hP (i := 0) (k := n) (by omega) (by omega) (by omega) (by omega)) ?_
 rintro v h2 ⟨hP2, hpf2⟩
 simp -dsimp
 refine WFS.by (down_ok hP2 (by simp; omega) (n := n) (by omega) (by simp; omega)) ?_
 rintro v h3 ⟨M, hP3, hp, hpf3⟩
 have hMl := hp.length_eq
 have hp2 := hp.trans (swap_perm (l := l) (i := (0 : Int).toNat) (k := (n : Int).toNat) (by simp; omega) (by simp; omega))
 simp at hMl
 simp -dsimp
 refine WFS.by (pilePop_ok hP3 (n := n) (by omega) (by omega)) ?_
 rintro v h4 ⟨rfl, hP4, hpf4⟩
 simp -dsimp
 refine ⟨M.take n, hP4, ?_, (hpf2.trans hpf3).trans hpf4⟩
 have e3 : M.take n ++ [lat M n] = M := by
  have h5 : M.take (n + 1) = M := by rw [← hn, ← hMl, List.take_length]
  rw [List.take_add_one, lat_get (by omega)] at h5
  exact h5
 refine (List.perm_append_comm (l₁ := [lat M n]) (l₂ := M.take n)).trans ?_
 rw [e3]; exact hp2
theorem take_ok (hP : PileR h m0 Q l) (hl : l.length < 100000000) (hne : l ≠ []) : WF PR d m0 (.fn 161 [] []) [.ptr Q 0 0] h fun r => ∃ x l', r.v = .int .i64 x ∧ PileR r.h m0 Q l' ∧ (x :: l').Perm l ∧ PF Q h r.h := by
 refine WF.fn (F := f161) rfl rfl rfl (Nat.le_of_ble_eq_true rfl) ?_
 refine wbodyS b161 [.tm 2] rfl rfl ?_
 unfold b161
 simp -dsimp
 refine WFS.by (heapPop_ok hP hl hne) ?_
 rintro v h4 ⟨x, l', rfl, hP4, hp, hpf⟩
 simp -dsimp
 exact ⟨l', hP4, hp, hpf⟩
end
end Go.Abs
namespace Go.Abs
open Go Pr
set_option maxRecDepth 10000
def mksV (zero : List V) (bytes : Nat) (a b : V) : Option Made := match a with
 | .int _ a => (match b with
  | .int _ b => (match a, b with
   | .ofNat a, .ofNat b => cond (Nat.ble a b && roomFor b bytes) (some (.obj (.rows (List.replicate a zero)) fun i => .sl i 0 a zero.length (Nat.beq a b))) none
   | _, _ => none)
  | _ => none)
 | _ => none
@[simp] theorem A_mks {zero : List V} {bytes : Nat} {l c : Opd} {tm : Tm} : (compA (.mks zero bytes l c)).run tm = mksV zero bytes (l.ev tm) (c.ev tm) := (rfl)
theorem mksV_nat {zero : List V} {bytes n : Nat} (hn : n < 4294967296) (hb : bytes < 1024) : mksV zero bytes (.int .i64 n) (.int .i64 n) = some (.obj (.rows (List.replicate n zero)) fun i => .sl i 0 n zero.length true) := by
 show cond (Nat.ble n n && roomFor n bytes) _ none = _
 simp [roomFor, hn, hb]
theorem Own.cells {h : Heap} {mk esz : Nat} {v : V} {rows : List (List V)} (hO : Own h mk v esz rows) : v.cells = [v] ∧ v.one = true := by
 rcases hO with ⟨rfl, _⟩ | ⟨id, rfl, _⟩ <;> exact ⟨rfl, rfl⟩
structure Rights (h : Heap) (m0 : Nat) (vs : List V) (rt : List (List Int)) : Prop where
 len : vs.length = rt.length
 own : ∀ i, i < vs.length → Own h m0 (lat vs i) 1 (intRows (lat rt i))
 dist : ∀ i j id, i < vs.length → j < vs.length → slId (lat vs i) = some id → slId (lat vs j) = some id → i = j
structure RkR (h : Heap) (K W R m0 : Nat) (wt : List Int) (rt : List (List Int)) : Prop where
 k : h.get K = some (.rows [[.sl W 0 wt.length 1 true, .sl R 0 rt.length 1 true]])
 w : h.get W = some (.rows (intRows wt))
 r : ∃ vs : List V, h.get R = some (.rows (vs.map fun v => [v])) ∧ Rights h m0 vs rt
 lk : K < m0
 lw : W < m0
 lr : R < m0
 kw : K ≠ W
 kr : K ≠ R
 wr : W ≠ R
 n : m0 ≤ h.n
theorem lat_setG {α : Type} [Inhabited α] {l : List α} {r j : Nat} {v : α} (h : j < l.length) : lat (l.set r v) j = if j = r then v else lat l j := by
 rw [lat_eq (by simpa using h), lat_eq h, List.getElem_set]
 by_cases e : j = r
 ·subst e; simp
 ·simp [e, Ne.symm e]
theorem rights_set {h h' : Heap} {m0 i : Nat} {vs : List V} {rt : List (List Int)} {v' : V} {l' : List Int} (hR : Rights h m0 vs rt) (hi : i < vs.length) (hO : Own h' m0 v' 1 (intRows l')) (hn : h.n ≤ h'.n) (hk : ∀ j, j < h.n → slId (lat vs i) ≠ some j → h'.get j = h.get j) (hid : ∀ j, slId v' = some j → h.n ≤ j ∨ slId (lat vs i) = some j) : Rights h' m0 (vs.set i v') (rt.set i l') := by
 obtain ⟨h1, h2, h3⟩ := hR
 have hlt : ∀ j, j < vs.length → ∀ id, slId (lat vs j) = some id → id < h.n := by
  intro j hj id e
  rcases h2 j hj with ⟨e1, _⟩ | ⟨id', e1, _, _, h4, _⟩
  ·rw [e1] at e; simp [slId] at e
  ·rw [e1] at e; simp [slId] at e; omega
 refine ⟨by simpa using h1, fun j hj => ?_, fun a b id ha hb ea eb => ?_⟩
 ·simp at hj
  rw [lat_setG hj, lat_setG (by omega)]
  by_cases e : j = i
  ·simp only [e, if_true]; exact hO
  ·simp only [e, if_false]
   rcases h2 j hj with h4 | ⟨id, e1, e2, e3, e4, e5⟩
   ·exact .inl h4
   ·refine .inr ⟨id, e1, ?_, e3, by omega, e5⟩
    rw [hk id e4 (fun e6 => e (h3 j i id hj hi (by rw [e1]; rfl) e6)), e2]
 ·simp at ha hb
  rw [lat_setG ha] at ea
  rw [lat_setG hb] at eb
  by_cases c1 : a = i <;> by_cases c2 : b = i
  ·omega
  ·simp only [c1, if_true] at ea; simp only [c2, if_false] at eb
   rcases hid id ea with h4 | h4
   ·have := hlt b hb id eb; omega
   ·exact absurd (h3 i b id hi hb h4 eb) (fun e => c2 e.symm)
  ·simp only [c1, if_false] at ea; simp only [c2, if_true] at eb
   rcases hid id eb with h4 | h4
   ·have := hlt a ha id ea; omega
   ·exact absurd (h3 a i id ha hi ea h4) c1
  ·simp only [c1, if_false] at ea; simp only [c2, if_false] at eb
   exact h3 a b id ha hb ea eb
noncomputable def rc (g : Gr) (n j : Nat) (k : Int) (m : Int) : Nat := if 0 ≤ m ∧ m < n then (leftsL g m).count k else if m = n then ((leftsL g n).take j).count k else 0
structure RtP (g : Gr) (n j : Nat) (rt : List (List Int)) : Prop where
 len : rt.length = g.p.l.length
 room : ∀ k, k < g.p.l.length → (lat rt k).length ≤ 320 * n + j
 count : ∀ k, k < g.p.l.length → ∀ m : Int, (lat rt k).count m = rc g n j k m
structure WtP (g : Gr) (n : Nat) (wt : List Int) : Prop where
 len : wt.length = g.p.l.length
 val : ∀ k, k < n → lat wt k = (leftsL g k).length
theorem lat_rep {α : Type} [Inhabited α] {n i : Nat} {a : α} (h : i < n) : lat (List.replicate n a) i = a := by
 rw [lat_eq (by simpa using h)]; simp
theorem RtP.zero (g : Gr) : RtP g 0 0 (List.replicate g.p.l.length []) := by
 refine ⟨by simp, fun k hk => by simp [lat_rep hk], fun k hk m => ?_⟩
 rw [lat_rep hk]
 simp [rc]
 omega
theorem RtP.step {g : Gr} {n j : Nat} {rt : List (List Int)} {c : Nat} (h : RtP g n j rt) (hc : c < g.p.l.length) (hj : j < (leftsL g n).length) (e : lat (leftsL g n) j = c) : RtP g n (j + 1) (rt.set c (lat rt c ++ [(n : Int)])) := by
 obtain ⟨h1, h2, h3⟩ := h
 refine ⟨by simpa using h1, fun k hk => ?_, fun k hk m => ?_⟩
 ·rw [lat_setG (by omega)]
  have := h2 c hc
  have := h2 k hk
  split
  ·simp; omega
  ·omega
 ·rw [lat_setG (by omega)]
  have a1 := h3 c hc m
  have a2 := h3 k hk m
  unfold rc at *
  rw [List.take_add_one, lat_get hj, e]
  by_cases c1 : k = c
  ·subst c1
   rw [if_pos rfl, List.count_append, a1]
   by_cases b1 : 0 ≤ m ∧ m < n
   ·have : ¬ m = (n : Int) := by omega
    simp [b1, List.count_cons, Ne.symm this]
   ·by_cases b2 : m = n
    ·subst b2; simp [List.count_append]
    ·simp [b1, b2, List.count_cons, Ne.symm b2]
  ·rw [if_neg c1, a2]
   have : ¬ (c : Int) = (k : Int) := by omega
   by_cases b1 : 0 ≤ m ∧ m < n
   ·simp [b1]
   ·by_cases b2 : m = n
    ·subst b2; simp [List.count_append, List.count_cons, this]
    ·simp [b1, b2]
theorem RtP.next {g : Gr} {n : Nat} {rt : List (List Int)} (h : RtP g n (leftsL g n).length rt) : RtP g (n + 1) 0 rt := by
 obtain ⟨h1, h2, h3⟩ := h
 refine ⟨h1, fun k hk => ?_, fun k hk m => ?_⟩
 ·have := h2 k hk; have := leftsL_len g n; omega
 ·rw [h3 k hk m]
  unfold rc
  by_cases b1 : 0 ≤ m ∧ m < n
  ·rw [if_pos b1, if_pos (by omega)]
  ·rw [if_neg b1]
   by_cases b2 : m = n
   ·subst b2; rw [if_pos rfl, if_pos (by omega), List.take_length]
   ·rw [if_neg b2, if_neg (by omega)]; split <;> simp
theorem rankof_ok (g : Gr) (hg : g.Small) (hm : mayB g = true) {mk : Nat} {h : Heap} (hmk : mk ≤ h.n) : WF PR false mk (.fn 131 [] []) [.agg g.cells] h fun r => (∃ K W R wt rt m0, r.v = .ptr K 0 0 ∧ RkR r.h K W R m0 wt rt ∧ WtP g g.p.l.length wt ∧ RtP g g.p.l.length 0 rt ∧ h.n ≤ K ∧ h.n ≤ W ∧ h.n ≤ R) ∧ h.n ≤ r.h.n ∧ ∀ i, i < h.n → r.h.get i = h.get i := by
 have hok := mayB_ok hm
 have hp60 := hok.p
 refine WF.here hmk ?_
 refine WF.fn (F := f131) rfl rfl rfl (Nat.le_of_ble_eq_true rfl) ?_
 refine wbodyS b131 [.tm 2] rfl rfl ?_
 unfold b131
 simp -dsimp [Gr.cells, mksV_nat (n := g.p.l.length) (by omega)]
 refine wk_loop (fun k st => ∃ (i : Int) (wt : List Int) (rt : List (List Int)), 0 ≤ i ∧ (k : Int) = g.p.l.length - i ∧ (gK 21).run st.tm = .int .i64 i ∧ st.h.get h.n = some (.rows [[g.p.enc Pd.cells, g.keys.enc keyCells]]) ∧ WtP g i.toNat wt ∧ RtP g i.toNat 0 rt ∧ RkR st.h (h.n + 3) (h.n + 1) (h.n + 2) (h.n + 4) wt rt ∧ st.defs = []) g.p.l.length
  ⟨0, List.replicate g.p.l.length 0, List.replicate g.p.l.length [], by omega, by omega, by simp, by simp, ⟨by simp, by simp⟩, RtP.zero g, ⟨by simp, by simp [intRows], ⟨List.replicate g.p.l.length .nils, by simp, ⟨by simp, fun i hi => .inl ⟨by simp at hi; rw [lat_rep hi], by simp at hi; rw [lat_rep hi]; rfl⟩, fun i j id hi hj e => by simp at hi; rw [lat_rep hi] at e; simp [slId] at e⟩⟩, by omega, by omega, by omega, by omega, by omega, by omega, by simp⟩, rfl⟩ ?_
 rintro k ⟨tm, h1, defs, round⟩ ⟨i, wt, rt, hi, hk, h21, hbox, hW, hR, hRk, rfl⟩ hK
 have h1' := hK 1 rfl
 have h3 := hK 3 rfl
 have h20 := hK 20 rfl
 simp at h1' h3 h20 h21 hbox hRk
 clear hK
 simp -dsimp [h20, h21]
 rw [Br_bool]
 refine ⟨fun hc => ?_, fun hc => ?_⟩
 ·simp at hc
  have hkk := hRk.k
  have hww := hRk.w
  rw [hW.len, hR.len] at hkk
  simp -dsimp [h1', h3, h21, hbox]
  refine WFS.by (lefts_ok g hg i) ?_
  intro v h2 e
  cases e
  have hlen3 := leftsL_len g i
  simp -dsimp [h1', h3, h21, hkk, iaddr_sl (e := 1) (id := h.n + 1) (b := 0) (n := g.p.l.length) (f := true) (k := .i64) hi hc, hww, intRow_get (l := wt) (r := i.toNat) (by rw [hW.len]; omega)]
  rw [intRows_set]
  have hii : ((i.toNat : Nat) : Int) = i := by omega
  have hW' : WtP g (i.toNat + 1) (wt.set i.toNat ((leftsL g i).length : Int)) := by
   refine ⟨by simp [hW.len], fun q hq => ?_⟩
   have := hW.len
   rw [lat_set (by omega)]
   by_cases e : q = i.toNat
   ·subst e; rw [if_pos rfl, hii]
   ·rw [if_neg e]; exact hW.val q (by omega)
  have hRk' : RkR (h1.set (h.n + 1) (.rows (intRows (wt.set i.toNat ((leftsL g i).length : Int))))) (h.n + 3) (h.n + 1) (h.n + 2) (h.n + 4) (wt.set i.toNat ((leftsL g i).length : Int)) rt := by
   obtain ⟨r1, r2, ⟨vs, r3, r4⟩, r5, r6, r7, r8, r9, r10, r11⟩ := hRk
   refine ⟨by rw [Heap.get_set, if_neg (by omega), r1]; simp, by simp, ⟨vs, by rw [Heap.get_set, if_neg (by omega), r3], r4.len, fun q hq => ?_, r4.dist⟩, r5, r6, r7, r8, r9, r10, by simpa using r11⟩
   rcases r4.own q hq with h5 | ⟨id, e1, e2, e3, e4, e5⟩
   ·exact .inl h5
   ·exact .inr ⟨id, e1, by rw [Heap.get_set, if_neg (by omega), e2], e3, by simpa using e4, e5⟩
  obtain ⟨wt', hwt⟩ : ∃ wt', wt.set i.toNat ((leftsL g i).length : Int) = wt' := ⟨_, rfl⟩
  rw [hwt] at hW' hRk' ⊢
  refine wk_loop (fun k2 st => ∃ (j : Int) (rt : List (List Int)), 0 ≤ j ∧ (k2 : Int) = (leftsL g i).length - j ∧ (gK 37).run st.tm = .int .i64 j ∧ st.h.get h.n = some (.rows [[g.p.enc Pd.cells, g.keys.enc keyCells]]) ∧ RtP g i.toNat j.toNat rt ∧ RkR st.h (h.n + 3) (h.n + 1) (h.n + 2) (h.n + 4) wt' rt ∧ st.defs = []) (leftsL g i).length
   ⟨0, rt, by omega, by omega, by simp, by simp [hbox], hR, hRk', rfl⟩ ?_
  rintro k2 ⟨tm2, h4, defs, round⟩ ⟨j, rt2, hj, hk2, h37, hbox2, hR2, hRk2, rfl⟩ hK
  have h3' := hK 3 rfl
  have h4' := hK 4 rfl
  have h21' := hK 21 rfl
  have h35 := hK 35 rfl
  have h36 := hK 36 rfl
  simp [h3, h21] at h3' h4' h21' h35 h36 h37 hbox2 hRk2
  clear hK
  simp -dsimp [h36, h37]
  rw [Br_bool]
  refine ⟨fun hc2 => ?_, fun hc2 => ?_⟩
  ·simp at hc2
   have hlt : j.toNat < (leftsL g i).length := by omega
   have hj' : j < ((slOf (leftsL g i)).l.length : Int) := by simpa using hc2
   obtain ⟨c, hcc⟩ : ∃ c, lat (leftsL g i) j.toNat = c := ⟨_, rfl⟩
   have hcm : c ∈ leftsL g i := hcc ▸ lat_mem hlt
   have hrange := leftsL_range hcm
   have hkk2 := hRk2.k
   have hww2 := hRk2.w
   rw [hR2.len] at hkk2
   obtain ⟨vs, r3, r4⟩ := hRk2.r
   have hvl : vs.length = g.p.l.length := by rw [r4.len, hR2.len]
   have hcl : c.toNat < vs.length := by omega
   have hget : (vs.map fun v => [v])[c.toNat]? = some [lat vs c.toNat] := by simp [lat_get hcl]
   have fj : fw .i64 (j + 1) = j + 1 := fw64 (by omega) (by omega)
   have hi' : ((i.toNat : Nat) : Int) = i := by omega
   have hroom := hR2.room c.toNat (by omega)
   simp -dsimp [h35, h37, iaddr_int hj hj', intCells, hcc, h3', hkk2, iaddr_sl (e := 1) (id := h.n + 2) (b := 0) (n := g.p.l.length) (f := true) (k := .i64) hrange.1 hrange.2, r3, hget, h4']
   refine OpS.ex ?_
   rw [W_append (xs := [[.int .i64 i]]) (by simp)]
   obtain ⟨v', h5, w1, w2, w3, w4, w5⟩ := own_append (mk := h.n) (bytes := 8) (xs := [[.int .i64 i]]) (r4.own c.toNat hcl) (by omega) (by simp) (by simp; omega) (by omega) hRk2.n
   simp only [ev_t, gK_sK, Nat.reduceEqDiff, if_false, if_true]
   refine ⟨_, w1, ?_⟩
   have x1 : ∀ q, q < h.n + 4 → h5.get q = h4.get q := fun q hq => w4 q (by have := hRk2.n; omega) ((r4.own c.toNat hcl).slId hq)
   have x2 : h5.get (h.n + 2) = some (.rows (vs.map fun v => [v])) := by rw [x1 _ (by omega), r3]
   have x3 : h5.get (h.n + 3) = some (.rows [[V.sl (h.n + 1) 0 wt'.length 1 true, V.sl (h.n + 2) 0 g.p.l.length 1 true]]) := by rw [x1 _ (by omega), hkk2]
   obtain ⟨y1, y2⟩ := w2.cells
   have y3 : h.n ≤ h.n + 2 := by omega
   simp -dsimp [iaddr_sl (e := 1) (id := h.n + 2) (b := 0) (n := g.p.l.length) (f := true) (k := .i64) hrange.1 hrange.2, y1, y2, x2, x3, hget, h37, fj]
   have hcn : ((c.toNat : Nat) : Int) = c := by omega
   have hR3 := hR2.step (c := c.toNat) (by omega) (by rw [hii]; exact hlt) (by rw [hii, hcc, hcn])
   have hj2 : (j + 1).toNat = j.toNat + 1 := by omega
   refine Again.intro (k2 - 1) (by omega) ⟨j + 1, rt2.set c.toNat (lat rt2 c.toNat ++ [(i.toNat : Int)]), by omega, by omega, by simp, ?_, by rw [hj2]; exact hR3, ⟨?_, ?_, ⟨vs.set c.toNat v', ?_, ?_⟩, by omega, by omega, by omega, by omega, by omega, by omega, ?_⟩, rfl⟩
   ·rw [Heap.get_set, if_neg (by omega), x1 _ (by omega), hbox2]
   ·rw [Heap.get_set, if_neg (by omega), x3, hR3.len]
   ·rw [Heap.get_set, if_neg (by omega), x1 _ (by omega), hww2]
   ·rw [Heap.get_set, if_pos rfl]; simp [List.map_set]
   ·have w2' : Own (h5.set (h.n + 2) (Obj.rows ((vs.map fun v => [v]).set c.toNat [v']))) (h.n + 4) v' 1 (intRows (lat rt2 c.toNat ++ [(i.toNat : Int)])) := by
     have w2'' : Own h5 (h.n + 4) v' 1 (intRows (lat rt2 c.toNat ++ [(i.toNat : Int)])) := by rw [hii]; simpa [intRows] using w2
     rcases w2'' with h6 | ⟨id, e1, e2, e3, e4, e5⟩
     ·exact .inl h6
     ·exact .inr ⟨id, e1, by rw [Heap.get_set, if_neg (by omega), e2], e3, by simpa using e4, e5⟩
    have r4' : Rights (h4.set (h.n + 2) (Obj.rows ((vs.map fun v => [v]).set c.toNat [v']))) (h.n + 4) vs rt2 := by
     refine ⟨r4.len, fun q hq => ?_, r4.dist⟩
     rcases r4.own q hq with h6 | ⟨id, e1, e2, e3, e4, e5⟩
     ·exact .inl h6
     ·exact .inr ⟨id, e1, by rw [Heap.get_set, if_neg (by omega), e2], e3, by simpa using e4, e5⟩
    refine rights_set r4' hcl w2' (by simpa using w3) (fun q hq hs => ?_) (fun q hq => ?_)
    ·rw [Heap.get_set, Heap.get_set]
     by_cases e : q = h.n + 2
     ·simp [e]
     ·simp only [e, if_false]; exact w4 q (by simpa using hq) hs
    ·simpa using w5 q hq
   ·have := hRk2.n; simp; omega
  ·simp at hc2
   have hc2' : decide (j < ((leftsL g i).length : Int)) = false := by simpa using hc2
   have hjl : j.toNat = (leftsL g i).length := by omega
   simp -dsimp [hc2', h21', fw64 (n := i + 1) (by omega) (by omega)]
   rw [hjl] at hR2
   have hi2 : (i + 1).toNat = i.toNat + 1 := by omega
   refine Again.intro (k - 1) (by omega) ⟨i + 1, wt', rt2, by omega, by omega, by simp, hbox2, by rw [hi2]; exact hW', by rw [hi2]; exact RtP.next (by rw [hii]; exact hR2), hRk2, rfl⟩
 ·simp at hc
  have hc' : decide (i < (g.p.l.length : Int)) = false := by simpa using hc
  have hi2 : i.toNat = g.p.l.length := by have := hW.len; omega
  rw [hi2] at hW hR
  simp -dsimp [hc', h3]
  exact ⟨h.n + 1, h.n + 2, wt, rt, ⟨_, hRk⟩, hW, hR, by omega, by omega⟩
end Go.Abs
namespace Go.Abs
open Go Pr
set_option maxRecDepth 10000
theorem del_ok {h : Heap} {M mk : Nat} {S : List (Int × Bool)} (hM : Flags h M S) (hmk : mk ≤ M) (k : Int) : ∃ h', delV mk (.one .int) (.map M) (.int .i64 k) h = some ⟨.any, h'⟩ ∧ h'.n = h.n ∧ (∀ j, j ≠ M → h'.get j = h.get j) ∧ Flags h' M (aDel k S) := by
 obtain ⟨es, c, h1, h2⟩ := hM
 simp only [delV, h1, ble_dec, hmk, decide_true, Bool.true_and]
 rcases findK_ok intV_key k es S 0 h2 with ⟨g1, g2, _, g4⟩ | ⟨j, v, g1, g2, _, g4⟩
 ·simp only [intV] at g2
  rw [g2]
  exact ⟨h, rfl, rfl, fun _ _ => rfl, es, c, h1, by rw [g4]; exact h2⟩
 ·simp only [intV] at g2
  rw [g2]
  exact ⟨h.set M (.map (es.eraseIdx (0 + j)) c), rfl, rfl, fun q hq => by rw [Heap.get_set, if_neg hq], _, _, by rw [Heap.get_set, if_pos rfl], by simpa using g4⟩
theorem flags_len {h : Heap} {M : Nat} {S : List (Int × Bool)} (hM : Flags h M S) : lenV .map (.map M) h = some (.int .i64 S.length) := by
 obtain ⟨es, c, h1, h2⟩ := hM
 have : es.length = S.length := by simpa [MapR] using congrArg List.length h2
 simp [h1, this]
theorem aSet_len {k : Int} {v : Bool} : ∀ {S : List (Int × Bool)}, (aSet k v S).length ≤ S.length + 1
 | [] => by simp [aSet]
 | e :: S => by simp only [aSet]; split <;> simp <;> exact aSet_len
theorem aDel_len {k : Int} : ∀ {S : List (Int × Bool)}, isB S k = true → (aDel k S).length + 1 = S.length
 | [], h => by simp [isB, aLook] at h
 | e :: S, h => by
  simp only [aDel]
  by_cases c : k = e.1
  ·simp [c]
  ·rw [if_neg c]
   have : isB S k = true := by simpa [isB, aLook, c] using h
   simpa using aDel_len this
theorem mem_aSet {k : Int} {v : Bool} {e : Int × Bool} : ∀ {S : List (Int × Bool)}, e ∈ aSet k v S → e.2 = v ∨ e ∈ S
 | [], h => by simp [aSet] at h; subst h; exact .inl rfl
 | x :: S, h => by
  simp only [aSet] at h
  split at h
  ·rcases List.mem_cons.1 h with rfl | h
   ·exact .inl rfl
   ·exact .inr (List.mem_cons_of_mem _ h)
  ·rcases List.mem_cons.1 h with rfl | h
   ·exact .inr (by simp)
   ·exact (mem_aSet h).imp id (List.mem_cons_of_mem _)
theorem mem_aDel {k : Int} {e : Int × Bool} : ∀ {S : List (Int × Bool)}, e ∈ aDel k S → e ∈ S
 | [], h => by simp [aDel] at h
 | x :: S, h => by
  simp only [aDel] at h
  split at h
  ·exact List.mem_cons_of_mem _ h
  ·rcases List.mem_cons.1 h with rfl | h
   ·simp
   ·exact List.mem_cons_of_mem _ (mem_aDel h)
structure FB (g : Gr) (h0 : Heap) (G O A T M : Nat) : Prop where
 gb : h0.get G = some (.rows [[g.p.enc Pd.cells, g.keys.enc keyCells]])
 o : h0.get O = some (.rows [[.sl A 0 g.p.l.length 1 true]])
 t : h0.get T = some (.rows [[.map M]])
 lg : G < h0.n
 lo : O < h0.n
 la : A < h0.n
 lt : T < h0.n
 lm : M < h0.n
 ga : G ≠ A
 gm : G ≠ M
 oa : O ≠ A
 om : O ≠ M
 ta : T ≠ A
 tm : T ≠ M
 am : A ≠ M
structure FR (h0 : Heap) (A M : Nat) (S : List (Int × Bool)) (ob : List Bool) (h : Heap) : Prop where
 keep : ∀ i, i < h0.n → i ≠ A → i ≠ M → h.get i = h0.get i
 n : h0.n ≤ h.n
 m : Flags h M S
 a : h.get A = some (.rows (boolRows ob))
structure FI (g : Gr) (a : Int) (S : List (Int × Bool)) (ob : List Bool) (m : Int) : Prop where
 len : ob.length = g.p.l.length
 nd : (S.map (·.1)).Nodup
 tv : ∀ e ∈ S, e.2 = true
 i2 : ∀ k, isB S k = true → 0 ≤ k ∧ k < g.p.l.length ∧ (k = a ∨ lat ob k.toNat = true)
 i3 : ∀ k : Int, 0 ≤ k → k < g.p.l.length → lat ob k.toNat = true → Rch g a k
 i4 : ∀ k : Int, 0 ≤ k → k < g.p.l.length → (k = a ∨ lat ob k.toNat = true) → isB S k = true ∨ k = m ∨ ∀ c ∈ stepL g k, lat ob c.toNat = true
theorem step_range {g : Gr} (hm : mayB g = true) {n c : Int} (h0 : 0 ≤ n) (h1 : n < g.p.l.length) (hc : c ∈ stepL g n) : 0 ≤ c ∧ c < g.p.l.length := by
 have hok := mayB_ok hm
 simp only [stepL, List.mem_filterMap] at hc
 obtain ⟨s, hs, e⟩ := hc
 split at e
 ·rename_i hk
  cases e
  have hp := lat_mem (l := g.p.l) (i := n.toNat) (by omega)
  obtain ⟨al, ha, hs⟩ := catUp_mem (Nat.le_refl _) hs
  have := (hok.sy _ hp _ ha _ hs).non hk
  exact ⟨this.1, this.2.1⟩
 ·cases e
theorem FI.flag {g : Gr} {a m c : Int} {S : List (Int × Bool)} {ob : List Bool} (h : FI g a S ob m) (hc0 : 0 ≤ c) (hc1 : c < g.p.l.length) (hr : Rch g a c) : FI g a (aSet c true S) (ob.set c.toNat true) m := by
 obtain ⟨h1, h2, htv, h3, h4, h5⟩ := h
 have hmono : ∀ k : Int, 0 ≤ k → k < g.p.l.length → lat ob k.toNat = true → lat (ob.set c.toNat true) k.toNat = true := fun k k0 k1 e => by
  rw [lat_setT (by omega)]; split
  ·rfl
  ·exact e
 refine ⟨by simpa using h1, ?_, fun e he => (mem_aSet he).elim id (htv e), fun k hk => ?_, fun k k0 k1 hk => ?_, fun k k0 k1 hk => ?_⟩
 ·rw [aSet_keys]
  split
  ·exact h2
  ·rename_i hn
   exact List.nodup_append.2 ⟨h2, by simp, fun x hx y hy e => hn (by simp at hy; rw [← hy, ← e]; exact hx)⟩
 ·rw [isB_set] at hk
  by_cases e : k = c
  ·subst e; exact ⟨hc0, hc1, .inr (by rw [lat_setT (by omega), if_pos rfl])⟩
  ·rw [if_neg e] at hk
   obtain ⟨a1, a2, a3⟩ := h3 k hk
   exact ⟨a1, a2, a3.imp id (hmono k a1 a2)⟩
 ·rw [lat_setT (by omega)] at hk
  by_cases e : k.toNat = c.toNat
  ·have : k = c := by omega
   rw [this]; exact hr
  ·rw [if_neg e] at hk; exact h4 k k0 k1 hk
 ·by_cases e : k = c
  ·left; rw [isB_set, if_pos e]
  ·have hk' : k = a ∨ lat ob k.toNat = true := by
    rcases hk with hk | hk
    ·exact .inl hk
    ·rw [lat_setT (by omega), if_neg (by omega)] at hk; exact .inr hk
   rcases h5 k k0 k1 hk' with h6 | h6 | h6
   ·left; rw [isB_set, if_neg e]; exact h6
   ·exact .inr (.inl h6)
   ·refine .inr (.inr fun q hq => ?_)
    have := h6 q hq
    by_cases hq2 : q.toNat < ob.length
    ·rw [lat_setT hq2]; split
     ·rfl
     ·exact this
    ·have e1 : lat ob q.toNat = default := by unfold lat; rw [List.getElem!_eq_getElem?_getD, List.getElem?_eq_none (by omega)]; rfl
     rw [e1] at this; cases this
theorem count_set_true {ob : List Bool} {c : Nat} (hc : c < ob.length) (h : lat ob c = false) : (ob.set c true).count false + 1 = ob.count false := by
 rw [List.count_set hc]
 have h1 : ob[c] = false := by rw [← lat_eq hc]; exact h
 have h2 : 0 < ob.count false := List.count_pos_iff.2 (h1 ▸ List.getElem_mem hc)
 simp [h1]; omega
theorem ownJ_read {α : Type} [Inhabited α] {enc : α → List V} {h h' : Heap} {m esz : Nat} {v : V} {l : List α} (hO : OwnJ h m v esz (l.map enc)) (hk : ∀ j, m ≤ j → j < h.n → h'.get j = h.get j) : lenV .sl v h' = some (.int .i64 l.length) ∧ ∀ j : Int, 0 ≤ j → j < l.length → ∃ p, iaddrV esz v (.int .i64 j) = some p ∧ ∀ n, loadV n p h' = loadN (enc (lat l j.toNat)) 0 n := by
 rcases hO with ⟨rfl, e⟩ | ⟨id, L, rfl, e2, e3, e4⟩
 ·have : l = [] := by simpa using e
  subst this
  exact ⟨by simp, fun j h0 h1 => by simp at h1; omega⟩
 ·refine ⟨by simp, fun j h0 h1 => ⟨.ptr id (0 + j.toNat) 0, iaddr_sl h0 (by simpa using h1), fun n => ?_⟩⟩
  have : (l.map enc ++ L)[j.toNat]? = some (enc (lat l j.toNat)) := by
   rw [List.getElem?_append_left (by simp; omega), List.getElem?_map, lat_get (by omega)]; rfl
  rw [loadV_ptr, hk id e3 e4, e2, loadAt_rows, Nat.zero_add, this]
  rfl
theorem FR.push {h0 h : Heap} {A M : Nat} {S : List (Int × Bool)} {ob : List Bool} (hR : FR h0 A M S ob h) (ha : A < h0.n) (hm : M < h0.n) (o : Obj) : FR h0 A M S ob (h.push o) := by
 obtain ⟨h1, h2, ⟨es, c, h3, h4⟩, h5⟩ := hR
 exact ⟨fun i hi ha hm => by rw [Heap.get_push, if_neg (by omega), h1 i hi ha hm], by simp; omega, ⟨es, c, by rw [Heap.get_push, if_neg (by omega), h3], h4⟩, by rw [Heap.get_push, if_neg (by omega), h5]⟩
theorem FR.set {h0 h : Heap} {A M i : Nat} {S : List (Int × Bool)} {ob : List Bool} (hR : FR h0 A M S ob h) (ha : A < h0.n) (hm : M < h0.n) (o : Obj) (hi : h0.n ≤ i) : FR h0 A M S ob (h.set i o) := by
 obtain ⟨h1, h2, ⟨es, c, h3, h4⟩, h5⟩ := hR
 exact ⟨fun q hq ha hm => by rw [Heap.get_set, if_neg (by omega), h1 q hq ha hm], by simp; omega, ⟨es, c, by rw [Heap.get_set, if_neg (by omega), h3], h4⟩, by rw [Heap.get_set, if_neg (by omega), h5]⟩
theorem look_ok2 (g : Gr) (hm : mayB g = true) {h0 h : Heap} {G O A T M mk : Nat} {S : List (Int × Bool)} {ob : List Bool} {a x : Int} (hB : FB g h0 G O A T M) (hR : FR h0 A M S ob h) (hI : FI g a S ob (-1)) (hmA : mk ≤ A) (hmM : mk ≤ M) (hx : isB S x = true) :
  WF PR false mk (.fn 134 [] [.ptr T 0 0, .ptr G 0 0, .ptr O 0 0]) [.int .i64 x] h fun r => ∃ S' ob', FR h0 A M S' ob' r.h ∧ FI g a S' ob' (-1) ∧ S'.length + 2 * ob'.count false + 1 ≤ S.length + 2 * ob.count false := by
 have hok := mayB_ok hm
 have hp60 := hok.p
 obtain ⟨hx0, hx1, hxa⟩ := hI.i2 x hx
 refine WF.fn (F := f134) rfl rfl rfl (Nat.le_of_ble_eq_true rfl) ?_
 refine wbodyS b134 [] rfl rfl ?_
 unfold b134
 have t1 : h.get T = some (.rows [[.map M]]) := by rw [hR.keep T hB.lt hB.ta hB.tm, hB.t]
 simp -dsimp [t1]
 refine OpS.ex ?_
 obtain ⟨h1, w1, w2, w3, w4⟩ := del_ok hR.m hmM x
 refine ⟨_, w1, ?_⟩
 have hR1 : FR h0 A M (aDel x S) ob h1 := ⟨fun i hi ha hm => by rw [w3 i hm, hR.keep i hi ha hm], by rw [w2]; exact hR.n, w4, by rw [w3 A hB.am, hR.a]⟩
 have hlen := aDel_len hx
 have hI1 : FI g a (aDel x S) ob x := by
  obtain ⟨a1, a2, atv, a3, a4, a5⟩ := hI
  refine ⟨a1, by rw [aDel_keys]; exact a2.erase _, fun e he => atv e (mem_aDel he), fun k hk => ?_, a4, fun k k0 k1 hk => ?_⟩
  ·rw [aDel_isB a2] at hk
   split at hk
   ·cases hk
   ·exact a3 k hk
  ·rcases a5 k k0 k1 hk with h5 | h5 | h5
   ·by_cases e : k = x
    ·exact .inr (.inl e)
    ·left; rw [aDel_isB a2, if_neg e]; exact h5
   ·omega
   ·exact .inr (.inr h5)
 have g1 : h1.get G = some (.rows [[g.p.enc Pd.cells, g.keys.enc keyCells]]) := by rw [hR1.keep G hB.lg hB.ga hB.gm, hB.gb]
 have hpm := lat_mem (l := g.p.l) (i := x.toNat) (by omega)
 have o1 := hok.a _ hpm
 have o2 := hok.s _ hpm
 have hx1' : x < ((g.p.l.length : Nat) : Int) := hx1
 simp -dsimp [g1, hx0, hx1', Pd.cells]
 have hmh : mk ≤ h1.n := by have := hR1.n; have := hB.la; omega
 refine WFS.by (concatSy_ok o1 o2 hmh) ?_
 rintro v2 h2 ⟨hO, hn2, hk2⟩
 have hR2 : FR h0 A M (aDel x S) ob h2 := by
  have hn := hR1.n
  obtain ⟨b1, b2, ⟨es, c, b3, b4⟩, b5⟩ := hR1
  have hla := hB.la
  have hlm := hB.lm
  exact ⟨fun i hi ha hm => by rw [hk2 i (by omega), b1 i hi ha hm], by simp only at hn2; omega, ⟨es, c, by rw [hk2 M (by omega), b3], b4⟩, by rw [hk2 A (by omega), b5]⟩
 obtain ⟨L, hL⟩ : ∃ L, catUp (lat g.p.l x.toNat).a.l (lat g.p.l x.toNat).a.l.length = L := ⟨_, rfl⟩
 have hLs : symsOf g x.toNat = L := hL
 rw [hL] at hO
 have hLlen : L.length ≤ 320 := by
  have := catUp_len o2 _ (Nat.le_refl _)
  rw [hL] at this
  have : 40 * (lat g.p.l x.toNat).a.l.length ≤ 40 * 8 := Nat.mul_le_mul_left _ o1
  omega
 have hrd2 := ownJ_read (h' := h2) hO (fun _ _ _ => rfl)
 simp -dsimp [hrd2.1]
 have hlA := hB.la
 have hlM := hB.lm
 have hn1 := hR1.n
 simp only at hn2
 refine wk_loop (fun k st => ∃ (j : Int) (S' : List (Int × Bool)) (ob' : List Bool), 0 ≤ j ∧ (k : Int) = L.length - j ∧ (gK 17).run st.tm = .int .i64 j ∧ FR h0 A M S' ob' st.h ∧ FI g a S' ob' x ∧ S'.length + 2 * ob'.count false ≤ (aDel x S).length + 2 * ob.count false ∧ (∀ s ∈ L.take j.toNat, s.kind = 2 → lat ob' s.n.toNat = true) ∧ h2.n ≤ st.h.n ∧ (∀ q, h1.n ≤ q → q < h2.n → st.h.get q = h2.get q) ∧ st.defs = []) L.length
  ⟨0, aDel x S, ob, by omega, by omega, by simp, hR2, hI1, Nat.le_refl _, by simp, Nat.le_refl _, fun _ _ _ => rfl, rfl⟩ ?_
 rintro k ⟨tm, h3, defs, round⟩ ⟨j, S', ob', hj, hk, h17, hR3, hI3, hmu, hpart, hn3, hk3, rfl⟩ hK
 have q1 := hK 1 rfl
 have q3 := hK 3 rfl
 have q15 := hK 15 rfl
 have q16 := hK 16 rfl
 simp at q1 q3 q15 q16 h17 hR3 hn3 hk3
 clear hK
 simp -dsimp [q16, h17]
 rw [Br_bool]
 refine ⟨fun hc => ?_, fun hc => ?_⟩
 ·simp at hc
  have hjl : j.toNat < L.length := by omega
  obtain ⟨p, p1, p2⟩ := (ownJ_read (h' := h3) hO (fun q hq1 hq2 => hk3 q hq1 hq2)).2 j hj hc
  simp only at p1
  obtain ⟨s, hs⟩ : ∃ s, lat L j.toNat = s := ⟨_, rfl⟩
  have hsm : s ∈ L := hs ▸ lat_mem hjl
  rw [hs] at p2
  have htk : L.take (j + 1).toNat = L.take j.toNat ++ [s] := by rw [show (j + 1).toNat = j.toNat + 1 by omega, List.take_add_one, lat_get hjl, hs]; rfl
  have fj : fw .i64 (j + 1) = j + 1 := fw64 (by omega) (by omega)
  have hmk3 : mk ≤ h3.n := by omega
  simp -dsimp [q15, h17, p1, p2, Sy.cells, hmk3]
  obtain ⟨H3, eH3⟩ : ∃ H3, (h3.push (Obj.rows [[V.int IntKind.i64 0, V.nils, V.int IntKind.i64 0]])).set h3.n (Obj.rows [[V.int IntKind.i64 s.kind, Sl.enc Rg.cells s.r, V.int IntKind.i64 s.n]]) = H3 := ⟨_, rfl⟩
  have hn0 := hR3.n
  have hR4 : FR h0 A M S' ob' H3 := by rw [← eH3]; exact (hR3.push hlA hlM _).set hlA hlM _ hn0
  have x1 : H3.n = h3.n + 1 := by rw [← eH3]; simp
  have x2 : ∀ q, h1.n ≤ q → q < h2.n → H3.get q = h2.get q := fun q hq1 hq2 => by rw [← eH3, Heap.get_set, if_neg (by omega), Heap.get_push, if_neg (by omega), hk3 q hq1 hq2]
  have x3 : H3.get h3.n = some (.rows [[V.int IntKind.i64 s.kind, Sl.enc Rg.cells s.r, V.int IntKind.i64 s.n]]) := by rw [← eH3]; simp
  rw [eH3]
  rw [Gd_t]
  refine ⟨fun hd => ?_, fun hd => ?_⟩
  ·have hkind : s.kind = 2 := by simpa using hd
   have hcs : s.n ∈ stepL g x := by
    simp only [stepL, List.mem_filterMap, hLs]
    exact ⟨s, hsm, by rw [if_pos hkind]⟩
   obtain ⟨c0, c1⟩ := step_range hm hx0 hx1 hcs
   have hrc : Rch g a s.n := by
    rcases hxa with rfl | h
    ·exact .one hcs
    ·exact .more (hI.i3 x hx0 hx1 h) hcs
   have o3 : H3.get O = some (.rows [[.sl A 0 g.p.l.length 1 true]]) := by rw [hR4.keep O hB.lo hB.oa hB.om, hB.o]
   have t3 : H3.get T = some (.rows [[.map M]]) := by rw [hR4.keep T hB.lt hB.ta hB.tm, hB.t]
   have a3 := hR4.a
   have hcl : s.n.toNat < ob'.length := by rw [hI3.len]; omega
   have c1' : s.n < ((g.p.l.length : Nat) : Int) := c1
   simp -dsimp [hd, q3, o3, x3, iaddr_sl (e := 1) (id := A) (b := 0) (n := g.p.l.length) (f := true) (k := .i64) c0 c1', a3, boolRow_get hcl]
   rw [Br_bool]
   refine ⟨fun he => ?_, fun he => ?_⟩
   ·simp at he
    simp -dsimp [q1, q3, o3, t3, x3, iaddr_sl (e := 1) (id := A) (b := 0) (n := g.p.l.length) (f := true) (k := .i64) c0 c1', a3, boolRow_get hcl, hmA]
    rw [boolRows_set]
    refine OpS.ex ?_
    obtain ⟨es, c, m1, m2⟩ := hR4.m
    have hfl : Flags (H3.set A (.rows (boolRows (ob'.set s.n.toNat true)))) M S' := ⟨es, c, by rw [Heap.get_set, if_neg (Ne.symm hB.am), m1], m2⟩
    obtain ⟨es', c', k1, k2⟩ := flags_set hfl hmM s.n true
    refine ⟨_, k1, ?_⟩
    have hxA : ¬ h3.n = A := by omega
    have hxM : ¬ h3.n = M := by omega
    simp -dsimp [x3, hxA, hxM, h17, fj, q1, hB.ta, t3]
    have hI4 := hI3.flag c0 c1 hrc
    have hcnt := count_set_true hcl he
    have hsl := aSet_len (k := s.n) (v := true) (S := S')
    refine Again.intro (k - 1) (by omega) ⟨j + 1, aSet s.n true S', ob'.set s.n.toNat true, by omega, by omega, by simp, ⟨fun i hi ha hm => ?_, ?_, ⟨es', c', by rw [Heap.get_set, if_pos rfl], k2⟩, ?_⟩, hI4, by omega, fun q hq hq2 => ?_, ?_, fun q hq1 hq2 => ?_, rfl⟩
    ·rw [Heap.get_set, if_neg hm, Heap.get_set, if_neg ha, hR4.keep i hi ha hm]
    ·simp; omega
    ·rw [Heap.get_set, if_neg hB.am, Heap.get_set, if_pos rfl]
    ·rw [htk] at hq
     rcases List.mem_append.1 hq with hq | hq
     ·have h9 := hpart q hq hq2
      by_cases hq3 : q.n.toNat < ob'.length
      ·rw [lat_setT hq3]; split
       ·rfl
       ·exact h9
      ·have e1 : lat ob' q.n.toNat = default := by unfold lat; rw [List.getElem!_eq_getElem?_getD, List.getElem?_eq_none (by omega)]; rfl
       rw [e1] at h9; cases h9
     ·simp at hq; subst hq; rw [lat_setT hcl, if_pos rfl]
    ·simp; omega
    ·rw [Heap.get_set, if_neg (by omega), Heap.get_set, if_neg (by omega), x2 q hq1 hq2]
   ·simp at he
    simp -dsimp [h17, fj]
    refine Again.intro (k - 1) (by omega) ⟨j + 1, S', ob', by omega, by omega, by simp, hR4, hI3, hmu, fun q hq hq2 => ?_, by simp; omega, x2, rfl⟩
    rw [htk] at hq
    rcases List.mem_append.1 hq with hq | hq
    ·exact hpart q hq hq2
    ·simp at hq; subst hq; exact he
  ·have hkind : ¬ s.kind = 2 := by simpa using hd
   simp -dsimp [hd, h17, fj]
   refine Again.intro (k - 1) (by omega) ⟨j + 1, S', ob', by omega, by omega, by simp, hR4, hI3, hmu, fun q hq hq2 => ?_, by simp; omega, x2, rfl⟩
   rw [htk] at hq
   rcases List.mem_append.1 hq with hq | hq
   ·exact hpart q hq hq2
   ·simp at hq; subst hq; exact absurd hq2 hkind
 ·simp at hc
  have hc' : decide (j < (L.length : Int)) = false := by simpa using hc
  simp -dsimp [hc']
  refine ⟨S', ob', hR3, ?_, by omega⟩
  obtain ⟨a1, a2, atv, a3, a4, a5⟩ := hI3
  refine ⟨a1, a2, atv, a3, a4, fun k k0 k1 hk => ?_⟩
  rcases a5 k k0 k1 hk with h5 | rfl | h5
  ·exact .inl h5
  ·refine .inr (.inr fun c hc2 => ?_)
   simp only [stepL, List.mem_filterMap, hLs] at hc2
   obtain ⟨s, hs, e⟩ := hc2
   split at e
   ·rename_i hk2
    cases e
    exact hpart s (by rw [List.take_of_length_le (by omega)]; exact hs) hk2
   ·cases e
  ·exact .inr (.inr h5)
theorem reach_of {g : Gr} {a : Int} {ob : List Bool} (h : FI g a [] ob (-1)) (hm : mayB g = true) (ha0 : 0 ≤ a) (ha1 : a < g.p.l.length) : ob = reachL g a := by
 obtain ⟨h1, _, _, _, h4, h5⟩ := h
 have key : ∀ c, Rch g a c → 0 ≤ c ∧ c < g.p.l.length ∧ lat ob c.toNat = true := by
  intro c hc
  induction hc with
  | one hs =>
   have hr := step_range hm ha0 ha1 hs
   rcases h5 a ha0 ha1 (.inl rfl) with h | h | h
   ·simp [isB, aLook] at h
   ·omega
   ·exact ⟨hr.1, hr.2, h _ hs⟩
  | more _ hs ih =>
   have hr := step_range hm ih.1 ih.2.1 hs
   rcases h5 _ ih.1 ih.2.1 (.inr ih.2.2) with h | h | h
   ·simp [isB, aLook] at h
   ·have := ih.1; omega
   ·exact ⟨hr.1, hr.2, h _ hs⟩
 refine List.ext_getElem (by simp [reachL, h1]) fun i hi hi2 => ?_
 have hl : i < g.p.l.length := by omega
 simp only [reachL, List.getElem_map, List.getElem_range]
 rw [Bool.eq_iff_iff]
 simp only [rchB, decide_eq_true_eq]
 have e1 : lat ob ((i : Int)).toNat = ob[i] := by rw [Int.toNat_natCast, lat_eq hi]
 constructor
 ·intro h
  exact h4 i (by omega) (by omega) (by rw [e1]; exact h)
 ·intro h
  rw [← e1]; exact (key i h).2.2
theorem OpS_mupd {h : Heap} {M mk : Nat} {S : List (Int × Bool)} {k : Int} {b : Bool} {Q : VH → Prop} (hM : Flags h M S) (hmk : mk ≤ M) (hq : ∀ es c, MapR intV boolV es (aSet k b S) → Q ⟨.any, h.set M (.map es c)⟩) : OpS (mupdV mk (.one .int) (.map M) (.int .i64 k) (.bool b) h) Q ⟨⟩ := by
 obtain ⟨es, c, h1, h2⟩ := flags_set hM hmk k b
 exact ⟨_, h1, hq es c h2⟩
theorem isB_one {e : Int × Bool} {S : List (Int × Bool)} : isB (e :: S) e.1 = e.2 := by simp [isB, aLook]
theorem from_ok (g : Gr) (hg : g.Small) (a : Int) {mk : Nat} {h : Heap} (hmk : mk ≤ h.n) : WF PR false mk (.fn 95 [] []) [.agg g.cells, .int .i64 a] h fun r =>
  ((¬ (mayB g = true ∧ 0 ≤ a ∧ a < g.p.l.length) ∧ r.v = .nils) ∨ (mayB g = true ∧ 0 ≤ a ∧ a < g.p.l.length) ∧ ∃ A, r.v = .sl A 0 g.p.l.length 1 true ∧ r.h.get A = some (.rows (boolRows (reachL g a))) ∧ h.n ≤ A ∧ A < r.h.n) ∧ h.n ≤ r.h.n ∧ ∀ i, i < h.n → r.h.get i = h.get i := by
 refine WF.here hmk ?_
 refine WF.fn (F := f95) rfl rfl rfl (Nat.le_of_ble_eq_true rfl) ?_
 refine wbodyS b95 [.tm 4] rfl rfl ?_
 unfold b95
 simp -dsimp [Gr.cells]
 refine WFS.by (may_ok g hg) ?_
 intro v h1 e
 cases e
 simp -dsimp
 rw [Gd_f]
 refine ⟨fun hb1 => ?_, fun hb1 => ?_⟩
 ·simp -dsimp [hb1]
  rw [Gd_f]
  refine ⟨fun hb2 => ?_, fun hb2 => ?_⟩
  ·simp -dsimp [hb2]
   rw [Br_bool]
   refine ⟨fun hb3 => ?_, fun hb3 => ?_⟩
   ·simp at hb3
    simp -dsimp
    intro _ _; omega
   ·simp at hb1 hb2 hb3
    have hok := mayB_ok hb1
    have hp60 := hok.p
    simp -dsimp [mksV_nat (n := g.p.l.length) (by omega)]
    refine OpS_mupd (S := []) ⟨[], 0, by simp, rfl⟩ (by omega) ?_
    intro es c hes
    simp -dsimp
    refine wk_abs (fun st => FB g st.h h.n (h.n + 2) (h.n + 1) (h.n + 4) (h.n + 3) ∧ FR st.h (h.n + 1) (h.n + 3) [(a, true)] (List.replicate g.p.l.length false) st.h ∧ (gK 2).run st.tm = .ptr h.n 0 0 ∧ (gK 5).run st.tm = .ptr (h.n + 2) 0 0 ∧ (gK 6).run st.tm = .ptr (h.n + 4) 0 0 ∧ (gK 7).run st.tm = .fn 134 [] [.ptr (h.n + 4) 0 0, .ptr h.n 0 0, .ptr (h.n + 2) 0 0] ∧ st.defs = []) ⟨⟨by simp, by simp, by simp, by simp, by simp, by simp, by simp, by simp, by omega, by omega, by omega, by omega, by omega, by omega, by omega⟩, ⟨fun _ _ _ _ => rfl, Nat.le_refl _, ⟨es, c, by simp, hes⟩, by simp [boolRows]⟩, by simp⟩ ?_
    rintro ⟨tm, h0, defs, round⟩ ⟨hB, hR, k2, k5, k6, k7, rfl⟩
    simp only at hB hR k2 k5 k6 k7
    have hlen : (List.replicate g.p.l.length false).length = g.p.l.length := by simp
    refine wk_loop (fun k st => ∃ (S : List (Int × Bool)) (ob : List Bool), k = S.length + 2 * ob.count false ∧ FR h0 (h.n + 1) (h.n + 3) S ob st.h ∧ FI g a S ob (-1) ∧ st.defs = []) _ ⟨[(a, true)], List.replicate g.p.l.length false, rfl, hR, ⟨hlen, by simp, by simp, fun k hk => ?_, fun k k0 k1 hk => ?_, fun k k0 k1 hk => ?_⟩, rfl⟩ ?_
    ·by_cases e : k = a
     ·subst e; exact ⟨hb2, hb3, .inl rfl⟩
     ·simp [isB, aLook, e] at hk
    ·rw [lat_rep (by omega)] at hk; cases hk
    ·rcases hk with rfl | hk
     ·left; simp [isB, aLook]
     ·rw [lat_rep (by omega)] at hk; cases hk
    rintro k ⟨tm2, h1, defs, round⟩ ⟨S, ob, hk, hR1, hI1, rfl⟩ hK
    have q2 := hK 2 rfl
    have q5 := hK 5 rfl
    have q6 := hK 6 rfl
    have q7 := hK 7 rfl
    simp [k2, k5, k6, k7] at q2 q5 q6 q7 hR1
    clear hK
    have t1 : h1.get (h.n + 4) = some (.rows [[.map (h.n + 3)]]) := by rw [hR1.keep _ hB.lt hB.ta hB.tm, hB.t]
    have g1 : h1.get h.n = some (.rows [[g.p.enc Pd.cells, g.keys.enc keyCells]]) := by rw [hR1.keep _ hB.lg hB.ga hB.gm, hB.gb]
    have hfl := flags_len hR1.m
    simp -dsimp only [len_map] at hfl
    simp -dsimp [q6, t1, hfl]
    rw [Br_bool]
    refine ⟨fun hc => ?_, fun hc => ?_⟩
    ·simp at hc
     simp -dsimp [q2, g1]
     refine wk_loop (fun k2 st => ∃ (i : Int) (S' : List (Int × Bool)) (ob' : List Bool), 0 ≤ i ∧ (k2 : Int) = g.p.l.length - i ∧ (gK 37).run st.tm = .int .i64 i ∧ FR h0 (h.n + 1) (h.n + 3) S' ob' st.h ∧ FI g a S' ob' (-1) ∧ S'.length + 2 * ob'.count false ≤ k ∧ (S'.length + 2 * ob'.count false < k ∨ ((∃ q, isB S' q = true) ∧ ∀ q, isB S' q = true → i ≤ q)) ∧ st.defs = []) g.p.l.length
      ⟨0, S, ob, by omega, by omega, by simp, hR1, hI1, by omega, .inr ⟨?_, fun q hq => (hI1.i2 q hq).1⟩, rfl⟩ ?_
     ·cases hS : S with
      | nil => rw [hS] at hc; simp at hc
      | cons e S2 =>
       refine ⟨e.1, ?_⟩
       rw [isB_one]
       exact hI1.tv e (by rw [hS]; simp)
     rintro k3 ⟨tm3, h3, defs, round⟩ ⟨i, S', ob', hi, hk3, h37, hR3, hI3, hmu, hor, rfl⟩ hK
     have r6 := hK 6 rfl
     have r7 := hK 7 rfl
     have r36 := hK 36 rfl
     simp [q6, q7] at r6 r7 r36 h37 hR3
     clear hK
     simp -dsimp [r36, h37]
     rw [Br_bool]
     refine ⟨fun hd => ?_, fun hd => ?_⟩
     ·simp at hd
      have t3 : h3.get (h.n + 4) = some (.rows [[.map (h.n + 3)]]) := by rw [hR3.keep _ hB.lt hB.ta hB.tm, hB.t]
      have fi : fw .i64 (i + 1) = i + 1 := fw64 (by omega) (by omega)
      simp -dsimp [r6, h37, t3, flags_look hR3.m i]
      rw [Br_bool]
      refine ⟨fun he => ?_, fun he => ?_⟩
      ·simp -dsimp [r7]
       refine WFS.by (look_ok2 g hb1 hB hR3 hI3 (by omega) (by omega) he) ?_
       rintro v h4 ⟨S4, ob4, hR4, hI4, hmu4⟩
       simp -dsimp [h37, fi]
       exact Again.intro (k3 - 1) (by omega) ⟨i + 1, S4, ob4, by omega, by omega, by simp, hR4, hI4, by omega, .inl (by omega), rfl⟩
      ·simp -dsimp [h37, fi]
       refine Again.intro (k3 - 1) (by omega) ⟨i + 1, S', ob', by omega, by omega, by simp, hR3, hI3, hmu, hor.imp id (fun ⟨a1, a2⟩ => ⟨a1, fun q hq => ?_⟩), rfl⟩
       have := a2 q hq
       by_cases e : q = i
       ·subst e; rw [he] at hq; cases hq
       ·omega
     ·simp at hd
      have hd' : decide (i < (g.p.l.length : Int)) = false := by simpa using hd
      simp -dsimp [hd']
      refine Again.intro (S'.length + 2 * ob'.count false) ?_ ⟨S', ob', rfl, hR3, hI3, rfl⟩
      rcases hor with h5 | ⟨⟨q, hq⟩, h5⟩
      ·exact h5
      ·have := h5 q hq
       have := hI3.i2 q hq
       omega
    ·simp at hc
     have hS : S = [] := by simpa using hc
     subst hS
     have o1 : h1.get (h.n + 2) = some (.rows [[.sl (h.n + 1) 0 g.p.l.length 1 true]]) := by rw [hR1.keep _ hB.lo hB.oa hB.om, hB.o]
     simp -dsimp [q5, o1]
     have hreach := reach_of hI1 hb1 hb2 hb3
     have a1 := hR1.a
     rw [hreach] at a1
     have := hR1.n
     have := hB.la
     exact ⟨⟨hb1, hb2, hb3⟩, a1, by omega⟩
  ·simp at hb2
   simp -dsimp [hb2]
   intro _ _; omega
 ·simp at hb1
  simp -dsimp [hb1]
noncomputable def lostI (g : Gr) : Int := if mayB g = true then idxP (fun x => false == x) ((reachL g 0).set 0 true) 0 else -1
@[simp] theorem iaddr_zero {id n e : Nat} {f : Bool} (h : 0 < n) : iaddrV e (.sl id 0 n e f) (.int .i64 0) = some (.ptr id 0 0) := by
 have := iaddr_sl (e := e) (id := id) (b := 0) (n := n) (f := f) (k := .i64) (i := 0) (by omega) (by omega)
 simpa using this
theorem Lost_ok (g : Gr) (hg : g.Small) {d : Bool} {mk : Nat} {h : Heap} : WF PR d mk (.fn 61 [] []) [.agg g.cells] h fun r => r = ⟨.int .i64 (lostI g), h⟩ := by
 refine WF.pureOne (F := f61) rfl rfl rfl (Nat.le_of_ble_eq_true rfl) ?_
 refine wbodyS b61 [.tm 2] rfl rfl ?_
 unfold b61
 simp -dsimp [Gr.cells]
 refine WFS.by (from_ok g hg 0 (h := h.push (.rows [[g.p.enc Pd.cells, g.keys.enc keyCells]])) (by simp)) ?_
 rintro v h1 ⟨hc, hn, hk⟩
 rcases hc with ⟨hc, rfl⟩ | ⟨⟨hm, _, h0⟩, A, rfl, hA, hA1, hA2⟩
 ·have : lostI g = -1 := by
   unfold lostI
   split
   ·rename_i hm
    have := (mayB_ok hm).p0
    exact absurd ⟨hm, by omega, by omega⟩ hc
   ·rfl
  simp -dsimp [this]
 ·simp only at hA hA1 hA2 hn
  have hp0 := (mayB_ok hm).p0
  have hp60 := (mayB_ok hm).p
  have hl : (reachL g 0).length = g.p.l.length := by simp [reachL]
  have e1 : ¬ g.p.l = [] := fun e => by rw [e] at hp0; simp at hp0
  have hAm : h.n ≤ A := by simp at hA1; omega
  simp -dsimp [e1, hp0, hA, boolRow_get (l := reachL g 0) (r := 0) (by omega), hAm]
  rw [boolRows_set]
  refine WFS.by (index_ok (l := (reachL g 0).set 0 true) (by simp [hl]) (fun i i0 i1 => ⟨.ptr A (0 + i.toNat) 0, iaddr_sl i0 (by simp [hl] at i1; exact i1), ?_⟩) (by simp [hl]; omega)) ?_
  ·rw [loadV_ptr, Heap.get_set, if_pos rfl, loadAt_rows, Nat.zero_add, boolRow_get (by omega)]
   rfl
  ·intro v h2 e
   cases e
   have : lostI g = idxP (fun x => false == x) ((reachL g 0).set 0 true) 0 := by rw [lostI, if_pos hm]
   simp -dsimp [this]
end Go.Abs
