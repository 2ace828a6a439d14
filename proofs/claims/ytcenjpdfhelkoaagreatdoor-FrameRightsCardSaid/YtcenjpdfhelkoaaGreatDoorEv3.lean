/- The evaluator's texts DTab to DTab, joined. -/
import Derived.Test.YtcenjpdfhelkoaaGreatDoorEv2
set_option linter.all false
set_option linter.deprecated false
set_option linter.unusedVariables false
set_option linter.unusedSimpArgs false
set_option linter.unnecessarySimpa false
/- The functions' codes, printed by Gen. -/
set_option maxRecDepth 100000
set_option linter.unusedVariables false
namespace Go.Evl.Zone
open Go Go.Evl

/-- cenotaph/cenotaphlaw12.FrameRights -/
def c3 : CF := ⟨
 (.seq
 (.reg false [
   ⟨(some 1), (.box (.t 0)), none⟩,
   ⟨(some 2), (.mv (.c (.val (.bool false)))), none⟩] [])
 (.seq
 (.seq
 (.reg false [
   ⟨(some 3), (.ld 12 true (.t 1)), none⟩,
   ⟨(some 4), (.call (.c (.fn 13 [])) [(.t 3)]), none⟩,
   ⟨(some 5), (.un .not (.t 4)), none⟩] [])
 (.cond (.t 5)
  (.seq
  (.reg false [
    ⟨(some 6), (.call (.c (.fn 14 [])) []), none⟩,
    ⟨(some 2), (.mv (.t 6)), none⟩] [])
  .ret)
  .skip))
 (.seq
 (.reg true [
   ⟨(some 7), (.call (.c (.fn 14 [])) []), none⟩,
   ⟨(some 8), (.mv (.t 7)), none⟩,
   ⟨(some 9), (.ld 12 true (.t 1)), (some (8, true))⟩,
   ⟨(some 10), (.call (.c (.fn 16 [])) [(.t 9)]), (some (8, true))⟩,
   ⟨(some 11), (.call (.c (.fn 15 [])) [(.t 10)]), (some (8, true))⟩,
   ⟨(some 12), (.ld 12 true (.t 1)), (some (8, true))⟩,
   ⟨(some 13), (.call (.c (.fn 17 [])) [(.t 12)]), (some (8, true))⟩,
   ⟨(some 14), (.bin .eql 4 false false (.t 11) (.t 13)), (some (8, true))⟩,
   ⟨(some 15), (.pick (.t 8) (.t 14) (.c (.val (.bool false)))), none⟩,
   ⟨(some 16), (.mv (.t 15)), none⟩,
   ⟨(some 17), (.ld 12 true (.t 1)), (some (16, true))⟩,
   ⟨(some 18), (.call (.c (.fn 16 [])) [(.t 17)]), (some (16, true))⟩,
   ⟨(some 19), (.call (.c (.fn 19 [])) [(.t 18)]), (some (16, true))⟩,
   ⟨(some 20), (.ld 12 true (.t 1)), (some (16, true))⟩,
   ⟨(some 21), (.call (.c (.fn 20 [])) [(.t 20)]), (some (16, true))⟩,
   ⟨(some 22), (.call (.c (.fn 18 [])) [(.t 19), (.t 21)]), (some (16, true))⟩,
   ⟨(some 23), (.pick (.t 16) (.t 22) (.c (.val (.bool false)))), none⟩,
   ⟨(some 2), (.mv (.t 23)), none⟩] [(3, 5), (4, 5), (11, 13), (12, 13)])
 .ret))),
 [.tmp 2]⟩

def L13_0 : CC :=
 (.seq
 (.seq
 (.reg false [
   ⟨(some 49), (.mv (.t 3)), none⟩,
   ⟨(some 50), (.fad 7 (.t 1)), none⟩,
   ⟨(some 51), (.ld 1 false (.t 50)), none⟩,
   ⟨(some 52), (.len false (.t 51)), none⟩,
   ⟨(some 53), (.bin .lss 3 false false (.t 49) (.t 52)), none⟩] [])
 (.cond (.t 53)
  .skip
  (.exit 0)))
 (.seq
 (.block 1
  (.seq
  (.reg false [
    ⟨(some 56), (.fad 7 (.t 1)), none⟩,
    ⟨(some 57), (.ld 1 false (.t 56)), none⟩,
    ⟨(some 58), (.mv (.t 3)), none⟩,
    ⟨(some 59), (.ias 2 (.t 57) (.t 58)), none⟩,
    ⟨(some 60), (.fad 1 (.t 59)), none⟩,
    ⟨(some 61), (.ld 1 false (.t 60)), none⟩,
    ⟨(some 62), (.len false (.t 61)), none⟩,
    ⟨(some 63), (.bin .gtr 3 false true (.t 62) (.c (.val (.int .i64 70)))), none⟩] [])
  (.cond (.t 63)
   (.seq
   (.reg false [
     ⟨(some 2), (.mv (.c (.val (.bool false)))), none⟩] [])
   .ret)
   .skip)))
 (.reg false [
   ⟨(some 54), (.mv (.t 3)), none⟩,
   ⟨(some 55), (.bin .add 3 false true (.t 54) (.c (.val (.int .i64 1)))), none⟩,
   ⟨(some 3), (.mv (.t 55)), none⟩] [])))

def L13_1 : CC :=
 (.seq
 (.seq
 (.reg false [
   ⟨(some 64), (.mv (.t 4)), none⟩,
   ⟨(some 65), (.fad 3 (.t 1)), none⟩,
   ⟨(some 66), (.ld 1 false (.t 65)), none⟩,
   ⟨(some 67), (.len false (.t 66)), none⟩,
   ⟨(some 68), (.bin .lss 3 false false (.t 64) (.t 67)), none⟩] [])
 (.cond (.t 68)
  .skip
  (.exit 2)))
 (.seq
 (.block 3
  (.seq
  (.reg false [
    ⟨(some 71), (.fad 3 (.t 1)), none⟩,
    ⟨(some 72), (.ld 1 false (.t 71)), none⟩,
    ⟨(some 73), (.mv (.t 4)), none⟩,
    ⟨(some 74), (.ias 3 (.t 72) (.t 73)), none⟩,
    ⟨(some 75), (.fad 1 (.t 74)), none⟩,
    ⟨(some 76), (.fad 1 (.t 75)), none⟩,
    ⟨(some 77), (.ld 1 false (.t 76)), none⟩,
    ⟨(some 78), (.len false (.t 77)), none⟩,
    ⟨(some 79), (.bin .gtr 3 false true (.t 78) (.c (.val (.int .i64 200)))), none⟩] [])
  (.cond (.t 79)
   (.seq
   (.reg false [
     ⟨(some 2), (.mv (.c (.val (.bool false)))), none⟩] [])
   .ret)
   .skip)))
 (.reg false [
   ⟨(some 69), (.mv (.t 4)), none⟩,
   ⟨(some 70), (.bin .add 3 false true (.t 69) (.c (.val (.int .i64 1)))), none⟩,
   ⟨(some 4), (.mv (.t 70)), none⟩] [])))

def L13_2 : CC :=
 (.seq
 (.seq
 (.reg false [
   ⟨(some 80), (.mv (.t 5)), none⟩,
   ⟨(some 81), (.fad 9 (.t 1)), none⟩,
   ⟨(some 82), (.ld 1 false (.t 81)), none⟩,
   ⟨(some 83), (.len false (.t 82)), none⟩,
   ⟨(some 84), (.bin .lss 3 false false (.t 80) (.t 83)), none⟩] [])
 (.cond (.t 84)
  .skip
  (.exit 4)))
 (.seq
 (.block 5
  (.seq
  (.reg false [
    ⟨(some 87), (.fad 9 (.t 1)), none⟩,
    ⟨(some 88), (.ld 1 false (.t 87)), none⟩,
    ⟨(some 89), (.mv (.t 5)), none⟩,
    ⟨(some 90), (.ias 9 (.t 88) (.t 89)), none⟩,
    ⟨(some 91), (.fad 5 (.t 90)), none⟩,
    ⟨(some 92), (.ld 2 true (.t 91)), none⟩,
    ⟨(some 6), (.alloc [(.val (.int .i64 0)), (.val (.int .i64 0))]), none⟩,
    ⟨none, (.st 2 (.t 6) (.t 92)), none⟩] [])
  (.seq
  (.reg false [
    ⟨(some 93), (.fad 0 (.t 6)), none⟩,
    ⟨(some 94), (.ld 1 false (.t 93)), none⟩,
    ⟨(some 95), (.bin .gtr 3 false true (.t 94) (.c (.val (.int .i64 1099511627776)))), none⟩,
    ⟨(some 96), (.mv (.t 95)), none⟩,
    ⟨(some 97), (.fad 0 (.t 6)), (some (96, false))⟩,
    ⟨(some 98), (.ld 1 false (.t 97)), (some (96, false))⟩,
    ⟨(some 99), (.bin .lss 3 false true (.t 98) (.c (.val (.int .i64 (-1099511627776))))), (some (96, false))⟩,
    ⟨(some 100), (.pick (.t 96) (.c (.val (.bool true))) (.t 99)), none⟩,
    ⟨(some 101), (.mv (.t 100)), none⟩,
    ⟨(some 102), (.fad 1 (.t 6)), (some (101, false))⟩,
    ⟨(some 103), (.ld 1 false (.t 102)), (some (101, false))⟩,
    ⟨(some 104), (.bin .gtr 3 false true (.t 103) (.c (.val (.int .i64 1099511627776)))), (some (101, false))⟩,
    ⟨(some 105), (.pick (.t 101) (.c (.val (.bool true))) (.t 104)), none⟩,
    ⟨(some 106), (.mv (.t 105)), none⟩,
    ⟨(some 107), (.fad 1 (.t 6)), (some (106, false))⟩,
    ⟨(some 108), (.ld 1 false (.t 107)), (some (106, false))⟩,
    ⟨(some 109), (.bin .lss 3 false true (.t 108) (.c (.val (.int .i64 (-1099511627776))))), (some (106, false))⟩,
    ⟨(some 110), (.pick (.t 106) (.c (.val (.bool true))) (.t 109)), none⟩,
    ⟨(some 111), (.mv (.t 110)), none⟩,
    ⟨(some 112), (.fad 9 (.t 1)), (some (111, false))⟩,
    ⟨(some 113), (.ld 1 false (.t 112)), (some (111, false))⟩,
    ⟨(some 114), (.mv (.t 5)), (some (111, false))⟩,
    ⟨(some 115), (.ias 9 (.t 113) (.t 114)), (some (111, false))⟩,
    ⟨(some 116), (.fad 7 (.t 115)), (some (111, false))⟩,
    ⟨(some 117), (.ld 1 false (.t 116)), (some (111, false))⟩,
    ⟨(some 118), (.len true (.t 117)), (some (111, false))⟩,
    ⟨(some 119), (.bin .gtr 3 false true (.t 118) (.c (.val (.int .i64 100)))), (some (111, false))⟩,
    ⟨(some 120), (.pick (.t 111) (.c (.val (.bool true))) (.t 119)), none⟩] [])
  (.cond (.t 120)
   (.seq
   (.reg false [
     ⟨(some 2), (.mv (.c (.val (.bool false)))), none⟩] [])
   .ret)
   .skip))))
 (.reg false [
   ⟨(some 85), (.mv (.t 5)), none⟩,
   ⟨(some 86), (.bin .add 3 false true (.t 85) (.c (.val (.int .i64 1)))), none⟩,
   ⟨(some 5), (.mv (.t 86)), none⟩] [])))

def L13_3 : CC :=
 (.seq
 (.seq
 (.reg false [
   ⟨(some 121), (.mv (.t 7)), none⟩,
   ⟨(some 122), (.fad 8 (.t 1)), none⟩,
   ⟨(some 123), (.ld 1 false (.t 122)), none⟩,
   ⟨(some 124), (.len false (.t 123)), none⟩,
   ⟨(some 125), (.bin .lss 3 false false (.t 121) (.t 124)), none⟩] [])
 (.cond (.t 125)
  .skip
  (.exit 6)))
 (.seq
 (.block 7
  (.seq
  (.reg false [
    ⟨(some 128), (.fad 8 (.t 1)), none⟩,
    ⟨(some 129), (.ld 1 false (.t 128)), none⟩,
    ⟨(some 130), (.mv (.t 7)), none⟩,
    ⟨(some 131), (.ias 4 (.t 129) (.t 130)), none⟩,
    ⟨(some 132), (.ld 4 true (.t 131)), none⟩,
    ⟨(some 8), (.alloc [(.val (.int .i64 0)), (.val (.int .i64 0)), (.val (.int .i64 0)), (.val (.int .i64 0))]), none⟩,
    ⟨none, (.st 4 (.t 8) (.t 132)), none⟩] [])
  (.seq
  (.reg false [
    ⟨(some 133), (.fad 1 (.t 8)), none⟩,
    ⟨(some 134), (.ld 1 false (.t 133)), none⟩,
    ⟨(some 135), (.bin .gtr 3 false true (.t 134) (.c (.val (.int .i64 1099511627776)))), none⟩,
    ⟨(some 136), (.mv (.t 135)), none⟩,
    ⟨(some 137), (.fad 1 (.t 8)), (some (136, false))⟩,
    ⟨(some 138), (.ld 1 false (.t 137)), (some (136, false))⟩,
    ⟨(some 139), (.bin .lss 3 false true (.t 138) (.c (.val (.int .i64 (-1099511627776))))), (some (136, false))⟩,
    ⟨(some 140), (.pick (.t 136) (.c (.val (.bool true))) (.t 139)), none⟩,
    ⟨(some 141), (.mv (.t 140)), none⟩,
    ⟨(some 142), (.fad 2 (.t 8)), (some (141, false))⟩,
    ⟨(some 143), (.ld 1 false (.t 142)), (some (141, false))⟩,
    ⟨(some 144), (.bin .gtr 3 false true (.t 143) (.c (.val (.int .i64 1099511627776)))), (some (141, false))⟩,
    ⟨(some 145), (.pick (.t 141) (.c (.val (.bool true))) (.t 144)), none⟩,
    ⟨(some 146), (.mv (.t 145)), none⟩,
    ⟨(some 147), (.fad 2 (.t 8)), (some (146, false))⟩,
    ⟨(some 148), (.ld 1 false (.t 147)), (some (146, false))⟩,
    ⟨(some 149), (.bin .lss 3 false true (.t 148) (.c (.val (.int .i64 (-1099511627776))))), (some (146, false))⟩,
    ⟨(some 150), (.pick (.t 146) (.c (.val (.bool true))) (.t 149)), none⟩,
    ⟨(some 151), (.mv (.t 150)), none⟩,
    ⟨(some 152), (.fad 3 (.t 8)), (some (151, false))⟩,
    ⟨(some 153), (.ld 1 false (.t 152)), (some (151, false))⟩,
    ⟨(some 154), (.bin .gtr 3 false true (.t 153) (.c (.val (.int .i64 1099511627776)))), (some (151, false))⟩,
    ⟨(some 155), (.pick (.t 151) (.c (.val (.bool true))) (.t 154)), none⟩,
    ⟨(some 156), (.mv (.t 155)), none⟩,
    ⟨(some 157), (.fad 3 (.t 8)), (some (156, false))⟩,
    ⟨(some 158), (.ld 1 false (.t 157)), (some (156, false))⟩,
    ⟨(some 159), (.bin .lss 3 false true (.t 158) (.c (.val (.int .i64 (-1099511627776))))), (some (156, false))⟩,
    ⟨(some 160), (.pick (.t 156) (.c (.val (.bool true))) (.t 159)), none⟩] [])
  (.cond (.t 160)
   (.seq
   (.reg false [
     ⟨(some 2), (.mv (.c (.val (.bool false)))), none⟩] [])
   .ret)
   .skip))))
 (.reg false [
   ⟨(some 126), (.mv (.t 7)), none⟩,
   ⟨(some 127), (.bin .add 3 false true (.t 126) (.c (.val (.int .i64 1)))), none⟩,
   ⟨(some 7), (.mv (.t 127)), none⟩] [])))

/-- cenotaph/cenotaphlaw12.few -/
def c13 : CF := ⟨
 (.seq
 (.reg false [
   ⟨(some 1), (.box (.t 0)), none⟩,
   ⟨(some 2), (.mv (.c (.val (.bool false)))), none⟩] [])
 (.seq
 (.seq
 (.reg false [
   ⟨(some 9), (.fad 3 (.t 1)), none⟩,
   ⟨(some 10), (.ld 1 false (.t 9)), none⟩,
   ⟨(some 11), (.len false (.t 10)), none⟩,
   ⟨(some 12), (.bin .gtr 3 false true (.t 11) (.c (.val (.int .i64 70)))), none⟩,
   ⟨(some 13), (.mv (.t 12)), none⟩,
   ⟨(some 14), (.fad 5 (.t 1)), (some (13, false))⟩,
   ⟨(some 15), (.ld 1 false (.t 14)), (some (13, false))⟩,
   ⟨(some 16), (.len false (.t 15)), (some (13, false))⟩,
   ⟨(some 17), (.bin .gtr 3 false true (.t 16) (.c (.val (.int .i64 70)))), (some (13, false))⟩,
   ⟨(some 18), (.pick (.t 13) (.c (.val (.bool true))) (.t 17)), none⟩,
   ⟨(some 19), (.mv (.t 18)), none⟩,
   ⟨(some 20), (.fad 6 (.t 1)), (some (19, false))⟩,
   ⟨(some 21), (.ld 1 false (.t 20)), (some (19, false))⟩,
   ⟨(some 22), (.len false (.t 21)), (some (19, false))⟩,
   ⟨(some 23), (.bin .gtr 3 false true (.t 22) (.c (.val (.int .i64 70)))), (some (19, false))⟩,
   ⟨(some 24), (.pick (.t 19) (.c (.val (.bool true))) (.t 23)), none⟩,
   ⟨(some 25), (.mv (.t 24)), none⟩,
   ⟨(some 26), (.fad 7 (.t 1)), (some (25, false))⟩,
   ⟨(some 27), (.ld 1 false (.t 26)), (some (25, false))⟩,
   ⟨(some 28), (.len false (.t 27)), (some (25, false))⟩,
   ⟨(some 29), (.bin .gtr 3 false true (.t 28) (.c (.val (.int .i64 70)))), (some (25, false))⟩,
   ⟨(some 30), (.pick (.t 25) (.c (.val (.bool true))) (.t 29)), none⟩,
   ⟨(some 31), (.mv (.t 30)), none⟩,
   ⟨(some 32), (.fad 9 (.t 1)), (some (31, false))⟩,
   ⟨(some 33), (.ld 1 false (.t 32)), (some (31, false))⟩,
   ⟨(some 34), (.len false (.t 33)), (some (31, false))⟩,
   ⟨(some 35), (.bin .gtr 3 false true (.t 34) (.c (.val (.int .i64 40)))), (some (31, false))⟩,
   ⟨(some 36), (.pick (.t 31) (.c (.val (.bool true))) (.t 35)), none⟩,
   ⟨(some 37), (.mv (.t 36)), none⟩,
   ⟨(some 38), (.fad 11 (.t 1)), (some (37, false))⟩,
   ⟨(some 39), (.ld 1 false (.t 38)), (some (37, false))⟩,
   ⟨(some 40), (.len false (.t 39)), (some (37, false))⟩,
   ⟨(some 41), (.bin .gtr 3 false true (.t 40) (.c (.val (.int .i64 70)))), (some (37, false))⟩,
   ⟨(some 42), (.pick (.t 37) (.c (.val (.bool true))) (.t 41)), none⟩,
   ⟨(some 43), (.mv (.t 42)), none⟩,
   ⟨(some 44), (.fad 8 (.t 1)), (some (43, false))⟩,
   ⟨(some 45), (.ld 1 false (.t 44)), (some (43, false))⟩,
   ⟨(some 46), (.len false (.t 45)), (some (43, false))⟩,
   ⟨(some 47), (.bin .gtr 3 false true (.t 46) (.c (.val (.int .i64 40)))), (some (43, false))⟩,
   ⟨(some 48), (.pick (.t 43) (.c (.val (.bool true))) (.t 47)), none⟩] [])
 (.cond (.t 48)
  (.seq
  (.reg false [
    ⟨(some 2), (.mv (.c (.val (.bool false)))), none⟩] [])
  .ret)
  .skip))
 (.seq
 (.seq
 (.reg false [
   ⟨(some 3), (.mv (.c (.val (.int .i64 0)))), none⟩] [])
 (.block 0
  (.loop L13_0)))
 (.seq
 (.seq
 (.reg false [
   ⟨(some 4), (.mv (.c (.val (.int .i64 0)))), none⟩] [])
 (.block 2
  (.loop L13_1)))
 (.seq
 (.seq
 (.reg false [
   ⟨(some 5), (.mv (.c (.val (.int .i64 0)))), none⟩] [])
 (.block 4
  (.loop L13_2)))
 (.seq
 (.seq
 (.reg false [
   ⟨(some 7), (.mv (.c (.val (.int .i64 0)))), none⟩] [])
 (.block 6
  (.loop L13_3)))
 (.seq
 (.reg false [
   ⟨(some 2), (.mv (.c (.val (.bool true)))), none⟩] [])
 .ret))))))),
 [.tmp 2]⟩

/-- cenotaph/cenotaphlaw12.told -/
def c14 : CF := ⟨
 (.seq
 (.reg false [
   ⟨(some 0), (.mv (.c (.val (.bool false)))), none⟩] [])
 (.seq
 (.reg false [
   ⟨(some 7), (.build [(.val (.int .i64 0)), (.val (.string ⟨#[]⟩)), (.val (.string ⟨#[]⟩)), (.im [] true), (.val (.int .i64 0)), (.im [] true), (.im [] true), (.im [] true), (.im [] true), (.im [] true), (.val (.bool false)), (.im [] true)] [(0, 1, (.c (.val (.int .i64 3)))), (1, 1, (.c (.val (.string ⟨#[48]⟩)))), (2, 1, (.c (.val (.string ⟨#[48, 49]⟩))))]), none⟩,
   ⟨(some 1), (.alloc [(.val (.int .i64 0)), (.val (.string ⟨#[]⟩)), (.val (.string ⟨#[]⟩)), (.im [] true), (.val (.int .i64 0)), (.im [] true), (.im [] true), (.im [] true), (.im [] true), (.im [] true), (.val (.bool false)), (.im [] true)]), none⟩,
   ⟨none, (.st 12 (.t 1) (.t 7)), none⟩] [])
 (.seq
 (.reg false [
   ⟨(some 8), (.ld 12 true (.t 1)), none⟩,
   ⟨(some 9), (.call (.c (.fn 19 [])) [(.t 8)]), none⟩,
   ⟨(some 2), (.mv (.t 9)), none⟩] [])
 (.seq
 (.reg false [
   ⟨(some 11), (.mv (.t 2)), none⟩,
   ⟨(some 12), (.call (.c (.fn 22 [])) [(.t 11)]), none⟩,
   ⟨(some 10), (.mv (.t 12)), none⟩,
   ⟨(some 13), (.ext (.t 10) 0), none⟩,
   ⟨(some 14), (.ext (.t 10) 1), none⟩,
   ⟨(some 3), (.alloc [(.val (.int .i64 0)), (.val (.string ⟨#[]⟩)), (.val (.string ⟨#[]⟩)), (.im [] true), (.val (.int .i64 0)), (.im [] true), (.im [] true), (.im [] true), (.im [] true), (.im [] true), (.val (.bool false)), (.im [] true)]), none⟩,
   ⟨none, (.st 12 (.t 3) (.t 13)), none⟩,
   ⟨(some 4), (.mv (.t 14)), none⟩] [])
 (.seq
 (.reg false [
   ⟨(some 16), (.bsl 1 1 [(.val (.int .u8 0))] [(0, 1, (.c (.val (.int .u8 0))))]), none⟩,
   ⟨(some 17), (.call (.c (.fn 22 [])) [(.t 16)]), none⟩,
   ⟨(some 15), (.mv (.t 17)), none⟩,
   ⟨(some 18), (.ext (.t 15) 0), none⟩,
   ⟨(some 19), (.ext (.t 15) 1), none⟩,
   ⟨(some 5), (.alloc [(.val (.int .i64 0)), (.val (.string ⟨#[]⟩)), (.val (.string ⟨#[]⟩)), (.im [] true), (.val (.int .i64 0)), (.im [] true), (.im [] true), (.im [] true), (.im [] true), (.im [] true), (.val (.bool false)), (.im [] true)]), none⟩,
   ⟨none, (.st 12 (.t 5) (.t 18)), none⟩,
   ⟨(some 6), (.mv (.t 19)), none⟩] [])
 (.seq
 (.reg false [
   ⟨(some 20), (.mv (.t 2)), none⟩,
   ⟨(some 21), (.b2s (.t 20)), none⟩,
   ⟨(some 22), (.bin .eql 9 false true (.t 21) (.c (.val (.string ⟨#[3, 1, 48, 2, 48, 49, 0]⟩)))), none⟩,
   ⟨(some 23), (.mv (.t 22)), none⟩,
   ⟨(some 24), (.mv (.t 4)), (some (23, true))⟩,
   ⟨(some 25), (.bin .eql 52 false true (.t 24) (.c (.val (.int .i64 0)))), (some (23, true))⟩,
   ⟨(some 26), (.pick (.t 23) (.t 25) (.c (.val (.bool false)))), none⟩,
   ⟨(some 27), (.mv (.t 26)), none⟩,
   ⟨(some 28), (.ld 12 true (.t 1)), (some (27, true))⟩,
   ⟨(some 29), (.ld 12 true (.t 3)), (some (27, true))⟩,
   ⟨(some 30), (.call (.c (.fn 23 [])) [(.t 28), (.t 29)]), (some (27, true))⟩,
   ⟨(some 31), (.pick (.t 27) (.t 30) (.c (.val (.bool false)))), none⟩,
   ⟨(some 32), (.mv (.t 31)), none⟩,
   ⟨(some 33), (.ld 12 true (.t 1)), (some (32, true))⟩,
   ⟨(some 34), (.call (.c (.fn 15 [])) [(.t 33)]), (some (32, true))⟩,
   ⟨(some 35), (.pick (.t 32) (.t 34) (.c (.val (.bool false)))), none⟩,
   ⟨(some 36), (.mv (.t 35)), none⟩,
   ⟨(some 37), (.mv (.t 6)), (some (36, true))⟩,
   ⟨(some 38), (.bin .eql 52 false true (.t 37) (.c (.val (.int .i64 3)))), (some (36, true))⟩,
   ⟨(some 39), (.pick (.t 36) (.t 38) (.c (.val (.bool false)))), none⟩,
   ⟨(some 0), (.mv (.t 39)), none⟩] [])
 .ret)))))),
 [.tmp 0]⟩

/-- cenotaph/frame.Right -/
def c15 : CF := ⟨
 (.seq
 (.reg false [
   ⟨(some 1), (.box (.t 0)), none⟩,
   ⟨(some 2), (.mv (.c (.val (.bool false)))), none⟩] [])
 (.seq
 (.seq
 (.reg false [
   ⟨(some 3), (.fad 1 (.t 1)), none⟩,
   ⟨(some 4), (.ld 1 false (.t 3)), none⟩,
   ⟨(some 5), (.call (.c (.fn 50 [])) [(.t 4)]), none⟩,
   ⟨(some 6), (.un .not (.t 5)), none⟩,
   ⟨(some 7), (.mv (.t 6)), none⟩,
   ⟨(some 8), (.fad 2 (.t 1)), (some (7, false))⟩,
   ⟨(some 9), (.ld 1 false (.t 8)), (some (7, false))⟩,
   ⟨(some 10), (.call (.c (.fn 50 [])) [(.t 9)]), (some (7, false))⟩,
   ⟨(some 11), (.un .not (.t 10)), (some (7, false))⟩,
   ⟨(some 12), (.pick (.t 7) (.c (.val (.bool true))) (.t 11)), none⟩] [])
 (.cond (.t 12)
  (.seq
  (.reg false [
    ⟨(some 2), (.mv (.c (.val (.bool false)))), none⟩] [])
  .ret)
  .skip))
 (.seq
 (.seq
 (.reg false [
   ⟨(some 13), (.fad 0 (.t 1)), none⟩,
   ⟨(some 14), (.ld 1 false (.t 13)), none⟩] [])
 (.block 0
  (.seq
  (.reg false [
    ⟨(some 16), (.bin .eql 3 false true (.t 14) (.c (.val (.int .i64 1)))), none⟩,
    ⟨(some 15), (.mv (.t 16)), none⟩] [])
  (.cond (.t 15)
   (.seq
   (.reg false [
     ⟨(some 17), (.ld 12 true (.t 1)), none⟩,
     ⟨(some 18), (.call (.c (.fn 51 [])) [(.t 17)]), none⟩,
     ⟨(some 19), (.mv (.t 18)), none⟩,
     ⟨(some 20), (.fad 8 (.t 1)), (some (19, true))⟩,
     ⟨(some 21), (.ld 1 false (.t 20)), (some (19, true))⟩,
     ⟨(some 22), (.call (.c (.fn 52 [])) [(.t 21)]), (some (19, true))⟩,
     ⟨(some 23), (.pick (.t 19) (.t 22) (.c (.val (.bool false)))), none⟩,
     ⟨(some 24), (.mv (.t 23)), none⟩,
     ⟨(some 25), (.fad 10 (.t 1)), (some (24, true))⟩,
     ⟨(some 26), (.ld 1 false (.t 25)), (some (24, true))⟩,
     ⟨(some 27), (.un .not (.t 26)), (some (24, true))⟩,
     ⟨(some 28), (.pick (.t 24) (.t 27) (.c (.val (.bool false)))), none⟩,
     ⟨(some 2), (.mv (.t 28)), none⟩] [])
   .ret)
   (.seq
   (.reg false [
     ⟨(some 30), (.bin .eql 3 false true (.t 14) (.c (.val (.int .i64 2)))), none⟩,
     ⟨(some 29), (.mv (.t 30)), none⟩] [])
   (.cond (.t 29)
    (.seq
    (.reg false [
      ⟨(some 31), (.ld 12 true (.t 1)), none⟩,
      ⟨(some 32), (.call (.c (.fn 51 [])) [(.t 31)]), none⟩,
      ⟨(some 33), (.mv (.t 32)), none⟩,
      ⟨(some 34), (.fad 8 (.t 1)), (some (33, true))⟩,
      ⟨(some 35), (.ld 1 false (.t 34)), (some (33, true))⟩,
      ⟨(some 36), (.len false (.t 35)), (some (33, true))⟩,
      ⟨(some 37), (.bin .eql 3 false true (.t 36) (.c (.val (.int .i64 0)))), (some (33, true))⟩,
      ⟨(some 38), (.pick (.t 33) (.t 37) (.c (.val (.bool false)))), none⟩,
      ⟨(some 2), (.mv (.t 38)), none⟩] [])
    .ret)
    (.seq
    (.reg false [
      ⟨(some 40), (.bin .eql 3 false true (.t 14) (.c (.val (.int .i64 3)))), none⟩,
      ⟨(some 39), (.mv (.t 40)), none⟩] [])
    (.cond (.t 39)
     (.seq
     (.reg false [
       ⟨(some 41), (.ld 12 true (.t 1)), none⟩,
       ⟨(some 42), (.call (.c (.fn 53 [])) [(.t 41)]), none⟩,
       ⟨(some 43), (.mv (.t 42)), none⟩,
       ⟨(some 44), (.fad 11 (.t 1)), (some (43, true))⟩,
       ⟨(some 45), (.ld 1 false (.t 44)), (some (43, true))⟩,
       ⟨(some 46), (.call (.c (.fn 54 [])) [(.t 45)]), (some (43, true))⟩,
       ⟨(some 47), (.pick (.t 43) (.t 46) (.c (.val (.bool false)))), none⟩,
       ⟨(some 2), (.mv (.t 47)), none⟩] [])
     .ret)
     .skip))))))))
 (.seq
 (.reg false [
   ⟨(some 2), (.mv (.c (.val (.bool false)))), none⟩] [])
 .ret)))),
 [.tmp 2]⟩

/-- cenotaph/cenotaphlaw12.To -/
def c16 : CF := ⟨
 (.seq
 (.reg false [
   ⟨(some 1), (.box (.t 0)), none⟩,
   ⟨(some 2), (.alloc [(.val (.int .i64 0)), (.val (.string ⟨#[]⟩)), (.val (.string ⟨#[]⟩)), (.im [] true), (.val (.int .i64 0)), (.im [] true), (.im [] true), (.im [] true), (.im [] true), (.im [] true), (.val (.bool false)), (.im [] true)]), none⟩] [])
 (.seq
 (.reg true [
   ⟨(some 3), (.fad 0 (.t 1)), none⟩,
   ⟨(some 4), (.ld 1 false (.t 3)), none⟩,
   ⟨(some 5), (.fad 1 (.t 1)), none⟩,
   ⟨(some 6), (.ld 1 false (.t 5)), none⟩,
   ⟨(some 7), (.fad 2 (.t 1)), none⟩,
   ⟨(some 8), (.ld 1 false (.t 7)), none⟩,
   ⟨(some 9), (.fad 3 (.t 1)), none⟩,
   ⟨(some 10), (.ld 1 false (.t 9)), none⟩,
   ⟨(some 11), (.call (.c (.fn 55 [])) [(.t 10)]), none⟩,
   ⟨(some 12), (.fad 4 (.t 1)), none⟩,
   ⟨(some 13), (.ld 1 false (.t 12)), none⟩,
   ⟨(some 14), (.fad 5 (.t 1)), none⟩,
   ⟨(some 15), (.ld 1 false (.t 14)), none⟩,
   ⟨(some 16), (.call (.c (.fn 56 [])) [(.t 15)]), none⟩,
   ⟨(some 17), (.fad 6 (.t 1)), none⟩,
   ⟨(some 18), (.ld 1 false (.t 17)), none⟩,
   ⟨(some 19), (.call (.c (.fn 57 [])) [(.t 18)]), none⟩,
   ⟨(some 20), (.fad 7 (.t 1)), none⟩,
   ⟨(some 21), (.ld 1 false (.t 20)), none⟩,
   ⟨(some 22), (.call (.c (.fn 58 [])) [(.t 21)]), none⟩,
   ⟨(some 23), (.fad 8 (.t 1)), none⟩,
   ⟨(some 24), (.ld 1 false (.t 23)), none⟩,
   ⟨(some 25), (.call (.c (.fn 59 [])) [(.t 24)]), none⟩,
   ⟨(some 26), (.fad 9 (.t 1)), none⟩,
   ⟨(some 27), (.ld 1 false (.t 26)), none⟩,
   ⟨(some 28), (.call (.c (.fn 60 [])) [(.t 27)]), none⟩,
   ⟨(some 29), (.fad 10 (.t 1)), none⟩,
   ⟨(some 30), (.ld 1 false (.t 29)), none⟩,
   ⟨(some 31), (.fad 11 (.t 1)), none⟩,
   ⟨(some 32), (.ld 1 false (.t 31)), none⟩,
   ⟨(some 33), (.call (.c (.fn 57 [])) [(.t 32)]), none⟩,
   ⟨(some 34), (.build [(.val (.int .i64 0)), (.val (.string ⟨#[]⟩)), (.val (.string ⟨#[]⟩)), (.im [] true), (.val (.int .i64 0)), (.im [] true), (.im [] true), (.im [] true), (.im [] true), (.im [] true), (.val (.bool false)), (.im [] true)] [(0, 1, (.t 4)), (1, 1, (.t 6)), (2, 1, (.t 8)), (3, 1, (.t 11)), (4, 1, (.t 13)), (5, 1, (.t 16)), (6, 1, (.t 19)), (7, 1, (.t 22)), (8, 1, (.t 25)), (9, 1, (.t 28)), (10, 1, (.t 30)), (11, 1, (.t 33))]), none⟩,
   ⟨none, (.st 12 (.t 2) (.t 34)), none⟩] [(1, 8), (3, 8), (5, 8), (8, 10), (8, 12), (1, 13), (3, 13), (5, 13), (10, 13), (8, 15), (13, 15), (1, 16), (3, 16), (5, 16), (10, 16), (8, 18), (13, 18), (16, 18), (1, 19), (3, 19), (5, 19), (10, 19), (8, 21), (13, 21), (16, 21), (19, 21), (1, 22), (3, 22), (5, 22), (10, 22), (8, 24), (13, 24), (16, 24), (19, 24), (22, 24), (1, 25), (3, 25), (5, 25), (10, 25), (8, 27), (13, 27), (16, 27), (19, 27), (22, 27), (25, 27), (8, 29), (13, 29), (16, 29), (19, 29), (22, 29), (25, 29), (1, 30), (3, 30), (5, 30), (10, 30), (27, 30)])
 .ret)),
 [.cell 2 12 true]⟩

/-- cenotaph/cenotaphref12.Right -/
def c17 : CF := ⟨
 (.seq
 (.reg false [
   ⟨(some 1), (.box (.t 0)), none⟩,
   ⟨(some 2), (.mv (.c (.val (.bool false)))), none⟩] [])
 (.seq
 (.seq
 (.reg false [
   ⟨(some 3), (.fad 1 (.t 1)), none⟩,
   ⟨(some 4), (.ld 1 false (.t 3)), none⟩,
   ⟨(some 5), (.call (.c (.fn 61 [])) [(.t 4)]), none⟩,
   ⟨(some 6), (.un .not (.t 5)), none⟩,
   ⟨(some 7), (.mv (.t 6)), none⟩,
   ⟨(some 8), (.fad 2 (.t 1)), (some (7, false))⟩,
   ⟨(some 9), (.ld 1 false (.t 8)), (some (7, false))⟩,
   ⟨(some 10), (.call (.c (.fn 61 [])) [(.t 9)]), (some (7, false))⟩,
   ⟨(some 11), (.un .not (.t 10)), (some (7, false))⟩,
   ⟨(some 12), (.pick (.t 7) (.c (.val (.bool true))) (.t 11)), none⟩] [])
 (.cond (.t 12)
  (.seq
  (.reg false [
    ⟨(some 2), (.mv (.c (.val (.bool false)))), none⟩] [])
  .ret)
  .skip))
 (.seq
 (.seq
 (.reg false [
   ⟨(some 13), (.fad 0 (.t 1)), none⟩,
   ⟨(some 14), (.ld 1 false (.t 13)), none⟩] [])
 (.block 0
  (.seq
  (.reg false [
    ⟨(some 16), (.bin .eql 3 false true (.t 14) (.c (.val (.int .i64 1)))), none⟩,
    ⟨(some 15), (.mv (.t 16)), none⟩] [])
  (.cond (.t 15)
   (.seq
   (.reg false [
     ⟨(some 17), (.ld 12 true (.t 1)), none⟩,
     ⟨(some 18), (.call (.c (.fn 62 [])) [(.t 17)]), none⟩,
     ⟨(some 19), (.mv (.t 18)), none⟩,
     ⟨(some 20), (.fad 8 (.t 1)), (some (19, true))⟩,
     ⟨(some 21), (.ld 1 false (.t 20)), (some (19, true))⟩,
     ⟨(some 22), (.call (.c (.fn 63 [])) [(.t 21)]), (some (19, true))⟩,
     ⟨(some 23), (.pick (.t 19) (.t 22) (.c (.val (.bool false)))), none⟩,
     ⟨(some 24), (.mv (.t 23)), none⟩,
     ⟨(some 25), (.fad 10 (.t 1)), (some (24, true))⟩,
     ⟨(some 26), (.ld 1 false (.t 25)), (some (24, true))⟩,
     ⟨(some 27), (.un .not (.t 26)), (some (24, true))⟩,
     ⟨(some 28), (.pick (.t 24) (.t 27) (.c (.val (.bool false)))), none⟩,
     ⟨(some 2), (.mv (.t 28)), none⟩] [])
   .ret)
   (.seq
   (.reg false [
     ⟨(some 30), (.bin .eql 3 false true (.t 14) (.c (.val (.int .i64 2)))), none⟩,
     ⟨(some 29), (.mv (.t 30)), none⟩] [])
   (.cond (.t 29)
    (.seq
    (.reg false [
      ⟨(some 31), (.ld 12 true (.t 1)), none⟩,
      ⟨(some 32), (.call (.c (.fn 62 [])) [(.t 31)]), none⟩,
      ⟨(some 33), (.mv (.t 32)), none⟩,
      ⟨(some 34), (.fad 8 (.t 1)), (some (33, true))⟩,
      ⟨(some 35), (.ld 1 false (.t 34)), (some (33, true))⟩,
      ⟨(some 36), (.len false (.t 35)), (some (33, true))⟩,
      ⟨(some 37), (.bin .eql 3 false true (.t 36) (.c (.val (.int .i64 0)))), (some (33, true))⟩,
      ⟨(some 38), (.pick (.t 33) (.t 37) (.c (.val (.bool false)))), none⟩,
      ⟨(some 2), (.mv (.t 38)), none⟩] [])
    .ret)
    (.seq
    (.reg false [
      ⟨(some 40), (.bin .eql 3 false true (.t 14) (.c (.val (.int .i64 3)))), none⟩,
      ⟨(some 39), (.mv (.t 40)), none⟩] [])
    (.cond (.t 39)
     (.seq
     (.reg false [
       ⟨(some 41), (.fad 3 (.t 1)), none⟩,
       ⟨(some 42), (.ld 1 false (.t 41)), none⟩,
       ⟨(some 43), (.len false (.t 42)), none⟩,
       ⟨(some 44), (.bin .eql 3 false true (.t 43) (.c (.val (.int .i64 0)))), none⟩,
       ⟨(some 45), (.mv (.t 44)), none⟩,
       ⟨(some 46), (.fad 4 (.t 1)), (some (45, true))⟩,
       ⟨(some 47), (.ld 1 false (.t 46)), (some (45, true))⟩,
       ⟨(some 48), (.bin .eql 3 false true (.t 47) (.c (.val (.int .i64 0)))), (some (45, true))⟩,
       ⟨(some 49), (.pick (.t 45) (.t 48) (.c (.val (.bool false)))), none⟩,
       ⟨(some 50), (.mv (.t 49)), none⟩,
       ⟨(some 51), (.fad 5 (.t 1)), (some (50, true))⟩,
       ⟨(some 52), (.ld 1 false (.t 51)), (some (50, true))⟩,
       ⟨(some 53), (.len false (.t 52)), (some (50, true))⟩,
       ⟨(some 54), (.bin .eql 3 false true (.t 53) (.c (.val (.int .i64 0)))), (some (50, true))⟩,
       ⟨(some 55), (.pick (.t 50) (.t 54) (.c (.val (.bool false)))), none⟩,
       ⟨(some 56), (.mv (.t 55)), none⟩,
       ⟨(some 57), (.fad 6 (.t 1)), (some (56, true))⟩,
       ⟨(some 58), (.ld 1 false (.t 57)), (some (56, true))⟩,
       ⟨(some 59), (.len false (.t 58)), (some (56, true))⟩,
       ⟨(some 60), (.bin .eql 3 false true (.t 59) (.c (.val (.int .i64 0)))), (some (56, true))⟩,
       ⟨(some 61), (.pick (.t 56) (.t 60) (.c (.val (.bool false)))), none⟩,
       ⟨(some 62), (.mv (.t 61)), none⟩,
       ⟨(some 63), (.fad 7 (.t 1)), (some (62, true))⟩,
       ⟨(some 64), (.ld 1 false (.t 63)), (some (62, true))⟩,
       ⟨(some 65), (.len false (.t 64)), (some (62, true))⟩,
       ⟨(some 66), (.bin .eql 3 false true (.t 65) (.c (.val (.int .i64 0)))), (some (62, true))⟩,
       ⟨(some 67), (.pick (.t 62) (.t 66) (.c (.val (.bool false)))), none⟩,
       ⟨(some 68), (.mv (.t 67)), none⟩,
       ⟨(some 69), (.fad 8 (.t 1)), (some (68, true))⟩,
       ⟨(some 70), (.ld 1 false (.t 69)), (some (68, true))⟩,
       ⟨(some 71), (.len false (.t 70)), (some (68, true))⟩,
       ⟨(some 72), (.bin .eql 3 false true (.t 71) (.c (.val (.int .i64 0)))), (some (68, true))⟩,
       ⟨(some 73), (.pick (.t 68) (.t 72) (.c (.val (.bool false)))), none⟩,
       ⟨(some 74), (.mv (.t 73)), none⟩,
       ⟨(some 75), (.fad 9 (.t 1)), (some (74, true))⟩,
       ⟨(some 76), (.ld 1 false (.t 75)), (some (74, true))⟩,
       ⟨(some 77), (.len false (.t 76)), (some (74, true))⟩,
       ⟨(some 78), (.bin .eql 3 false true (.t 77) (.c (.val (.int .i64 0)))), (some (74, true))⟩,
       ⟨(some 79), (.pick (.t 74) (.t 78) (.c (.val (.bool false)))), none⟩,
       ⟨(some 80), (.mv (.t 79)), none⟩,
       ⟨(some 81), (.fad 10 (.t 1)), (some (80, true))⟩,
       ⟨(some 82), (.ld 1 false (.t 81)), (some (80, true))⟩,
       ⟨(some 83), (.un .not (.t 82)), (some (80, true))⟩,
       ⟨(some 84), (.pick (.t 80) (.t 83) (.c (.val (.bool false)))), none⟩,
       ⟨(some 85), (.mv (.t 84)), none⟩,
       ⟨(some 86), (.fad 11 (.t 1)), (some (85, true))⟩,
       ⟨(some 87), (.ld 1 false (.t 86)), (some (85, true))⟩,
       ⟨(some 88), (.call (.c (.fn 64 [])) [(.t 87)]), (some (85, true))⟩,
       ⟨(some 89), (.pick (.t 85) (.t 88) (.c (.val (.bool false)))), none⟩,
       ⟨(some 2), (.mv (.t 89)), none⟩] [])
     .ret)
     .skip))))))))
 (.seq
 (.reg false [
   ⟨(some 2), (.mv (.c (.val (.bool false)))), none⟩] [])
 .ret)))),
 [.tmp 2]⟩

/-- cenotaph/cenotaphref06.Same -/
def c18 : CF := ⟨
 (.seq
 (.reg false [
   ⟨(some 4), (.mv (.c (.val (.bool false)))), none⟩] [])
 (.seq
 (.reg false [
   ⟨(some 5), (.mv (.t 0)), none⟩,
   ⟨(some 6), (.b2s (.t 5)), none⟩,
   ⟨(some 7), (.mv (.t 1)), none⟩,
   ⟨(some 8), (.b2s (.t 7)), none⟩,
   ⟨(some 9), (.bin .eql 9 false false (.t 6) (.t 8)), none⟩,
   ⟨(some 4), (.mv (.t 9)), none⟩] [])
 .ret)),
 [.tmp 4]⟩

def L19_0 : CC :=
 (.seq
 (.reg false [
   ⟨(some 51), (.bin .lss 3 false false (.t 50) (.t 49)), none⟩] [])
 (.seq
 (.cond (.t 51)
  .skip
  (.exit 0))
 (.seq
 (.block 1
  (.seq
  (.reg false [
    ⟨(some 52), (.ias 8 (.t 48) (.t 50)), none⟩,
    ⟨(some 53), (.ld 8 true (.t 52)), none⟩,
    ⟨(some 5), (.alloc [(.val (.int .i64 0)), (.val (.string ⟨#[]⟩)), (.val (.int .i64 0)), (.val (.int .i64 0)), (.val (.bool false)), (.val (.complex .f64 0 0)), (.val (.string ⟨#[]⟩)), (.val (.bool false))]), none⟩,
    ⟨none, (.st 8 (.t 5) (.t 53)), none⟩] [])
  (.reg false [
    ⟨(some 54), (.mv (.t 3)), none⟩,
    ⟨(some 55), (.ld 8 true (.t 5)), none⟩,
    ⟨(some 56), (.call (.c (.fn 72 [])) [(.t 54), (.t 55)]), none⟩,
    ⟨(some 3), (.mv (.t 56)), none⟩] [])))
 (.reg false [
   ⟨(some 57), (.bin .add 3 false true (.t 50) (.c (.val (.int .i64 1)))), none⟩,
   ⟨(some 50), (.mv (.t 57)), none⟩] []))))

/-- cenotaph/frame.Put -/
def c19 : CF := ⟨
 (.seq
 (.reg false [
   ⟨(some 1), (.box (.t 0)), none⟩,
   ⟨(some 2), (.mv (.c (.im [] true))), none⟩] [])
 (.seq
 (.seq
 (.reg false [
   ⟨(some 6), (.ld 12 true (.t 1)), none⟩,
   ⟨(some 7), (.call (.c (.fn 15 [])) [(.t 6)]), none⟩,
   ⟨(some 8), (.un .not (.t 7)), none⟩] [])
 (.cond (.t 8)
  (.seq
  (.reg false [
    ⟨(some 2), (.mv (.c (.im [] true))), none⟩] [])
  .ret)
  .skip))
 (.seq
 (.reg true [
   ⟨(some 9), (.fad 0 (.t 1)), none⟩,
   ⟨(some 10), (.ld 1 false (.t 9)), none⟩,
   ⟨(some 11), (.call (.c (.fn 66 [])) [(.c (.im [] true)), (.t 10)]), none⟩,
   ⟨(some 12), (.fad 1 (.t 1)), none⟩,
   ⟨(some 13), (.ld 1 false (.t 12)), none⟩,
   ⟨(some 14), (.call (.c (.fn 65 [])) [(.t 11), (.t 13)]), none⟩,
   ⟨(some 15), (.fad 2 (.t 1)), none⟩,
   ⟨(some 16), (.ld 1 false (.t 15)), none⟩,
   ⟨(some 17), (.call (.c (.fn 65 [])) [(.t 14), (.t 16)]), none⟩,
   ⟨(some 3), (.mv (.t 17)), none⟩] [(2, 4), (2, 7), (5, 7)])
 (.seq
 (.seq
 (.reg false [
   ⟨(some 18), (.fad 0 (.t 1)), none⟩,
   ⟨(some 19), (.ld 1 false (.t 18)), none⟩,
   ⟨(some 20), (.bin .eql 3 false true (.t 19) (.c (.val (.int .i64 3)))), none⟩] [])
 (.cond (.t 20)
  (.seq
  (.reg false [
    ⟨(some 21), (.mv (.t 3)), none⟩,
    ⟨(some 22), (.fad 11 (.t 1)), none⟩,
    ⟨(some 23), (.ld 1 false (.t 22)), none⟩,
    ⟨(some 24), (.call (.c (.fn 67 [])) [(.t 21), (.t 23)]), none⟩,
    ⟨(some 2), (.mv (.t 24)), none⟩] [])
  .ret)
  .skip))
 (.seq
 (.reg true [
   ⟨(some 25), (.mv (.t 3)), none⟩,
   ⟨(some 26), (.fad 3 (.t 1)), none⟩,
   ⟨(some 27), (.ld 1 false (.t 26)), none⟩,
   ⟨(some 28), (.call (.c (.fn 69 [])) [(.t 25), (.t 27)]), none⟩,
   ⟨(some 29), (.fad 4 (.t 1)), none⟩,
   ⟨(some 30), (.ld 1 false (.t 29)), none⟩,
   ⟨(some 31), (.call (.c (.fn 66 [])) [(.t 28), (.t 30)]), none⟩,
   ⟨(some 32), (.ld 12 true (.t 1)), none⟩,
   ⟨(some 33), (.call (.c (.fn 68 [])) [(.t 31), (.t 32)]), none⟩,
   ⟨(some 3), (.mv (.t 33)), none⟩] [(3, 5), (3, 7), (6, 7)])
 (.seq
 (.seq
 (.reg false [
   ⟨(some 34), (.fad 0 (.t 1)), none⟩,
   ⟨(some 35), (.ld 1 false (.t 34)), none⟩,
   ⟨(some 36), (.bin .eql 3 false true (.t 35) (.c (.val (.int .i64 1)))), none⟩] [])
 (.cond (.t 36)
  (.reg false [
    ⟨(some 37), (.mv (.t 3)), none⟩,
    ⟨(some 38), (.fad 8 (.t 1)), none⟩,
    ⟨(some 39), (.ld 1 false (.t 38)), none⟩,
    ⟨(some 40), (.call (.c (.fn 71 [])) [(.t 39)]), none⟩,
    ⟨(some 41), (.call (.c (.fn 70 [])) [(.t 37), (.t 40)]), none⟩,
    ⟨(some 3), (.mv (.t 41)), none⟩] [])
  .skip))
 (.seq
 (.reg false [
   ⟨(some 42), (.mv (.t 3)), none⟩,
   ⟨(some 43), (.fad 9 (.t 1)), none⟩,
   ⟨(some 44), (.ld 1 false (.t 43)), none⟩,
   ⟨(some 45), (.len false (.t 44)), none⟩,
   ⟨(some 46), (.call (.c (.fn 66 [])) [(.t 42), (.t 45)]), none⟩,
   ⟨(some 3), (.mv (.t 46)), none⟩] [])
 (.seq
 (.seq
 (.reg false [
   ⟨(some 47), (.fad 9 (.t 1)), none⟩,
   ⟨(some 48), (.ld 1 false (.t 47)), none⟩,
   ⟨(some 49), (.len false (.t 48)), none⟩,
   ⟨(some 50), (.mv (.c (.val (.int .i64 0)))), none⟩] [])
 (.block 0
  (.loop L19_0)))
 (.seq
 (.block 2
  (.seq
  (.reg false [
    ⟨(some 59), (.fad 0 (.t 1)), none⟩,
    ⟨(some 60), (.ld 1 false (.t 59)), none⟩,
    ⟨(some 61), (.bin .eql 3 false true (.t 60) (.c (.val (.int .i64 2)))), none⟩,
    ⟨(some 62), (.mv (.t 61)), none⟩,
    ⟨(some 63), (.fad 10 (.t 1)), (some (62, true))⟩,
    ⟨(some 64), (.ld 1 false (.t 63)), (some (62, true))⟩,
    ⟨(some 65), (.pick (.t 62) (.t 64) (.c (.val (.bool false)))), none⟩,
    ⟨(some 58), (.mv (.t 65)), none⟩] [])
  (.cond (.t 58)
   (.seq
   (.reg false [
     ⟨(some 66), (.mv (.t 3)), none⟩,
     ⟨(some 67), (.call (.c (.fn 66 [])) [(.t 66), (.c (.val (.int .i64 1)))]), none⟩,
     ⟨(some 2), (.mv (.t 67)), none⟩] [])
   .ret)
   (.seq
   (.reg false [
     ⟨(some 69), (.fad 0 (.t 1)), none⟩,
     ⟨(some 70), (.ld 1 false (.t 69)), none⟩,
     ⟨(some 71), (.bin .eql 3 false true (.t 70) (.c (.val (.int .i64 2)))), none⟩,
     ⟨(some 68), (.mv (.t 71)), none⟩] [])
   (.cond (.t 68)
    (.seq
    (.reg false [
      ⟨(some 72), (.mv (.t 3)), none⟩,
      ⟨(some 73), (.call (.c (.fn 66 [])) [(.t 72), (.c (.val (.int .i64 0)))]), none⟩,
      ⟨(some 2), (.mv (.t 73)), none⟩] [])
    .ret)
    .skip)))))
 (.seq
 (.reg false [
   ⟨(some 74), (.mv (.t 3)), none⟩,
   ⟨(some 2), (.mv (.t 74)), none⟩] [])
 .ret)))))))))),
 [.tmp 2]⟩

def L20_0 : CC :=
 (.seq
 (.seq
 (.reg false [
   ⟨(some 62), (.mv (.t 6)), none⟩,
   ⟨(some 63), (.fad 1 (.t 5)), none⟩,
   ⟨(some 64), (.ld 1 false (.t 63)), none⟩,
   ⟨(some 65), (.len false (.t 64)), none⟩,
   ⟨(some 66), (.bin .lss 3 false false (.t 62) (.t 65)), none⟩] [])
 (.cond (.t 66)
  .skip
  (.exit 2)))
 (.seq
 (.block 3
  (.reg false [
    ⟨(some 69), (.mv (.t 3)), none⟩,
    ⟨(some 70), (.fad 1 (.t 5)), none⟩,
    ⟨(some 71), (.ld 1 false (.t 70)), none⟩,
    ⟨(some 72), (.mv (.t 6)), none⟩,
    ⟨(some 73), (.ias 1 (.t 71) (.t 72)), none⟩,
    ⟨(some 74), (.ld 1 false (.t 73)), none⟩,
    ⟨(some 75), (.call (.c (.fn 74 [])) [(.t 69), (.t 74)]), none⟩,
    ⟨(some 3), (.mv (.t 75)), none⟩] []))
 (.reg false [
   ⟨(some 67), (.mv (.t 6)), none⟩,
   ⟨(some 68), (.bin .add 3 false true (.t 67) (.c (.val (.int .i64 1)))), none⟩,
   ⟨(some 6), (.mv (.t 68)), none⟩] [])))

def L20_1 : CC :=
 (.seq
 (.seq
 (.reg false [
   ⟨(some 34), (.mv (.t 4)), none⟩,
   ⟨(some 35), (.fad 3 (.t 1)), none⟩,
   ⟨(some 36), (.ld 1 false (.t 35)), none⟩,
   ⟨(some 37), (.len false (.t 36)), none⟩,
   ⟨(some 38), (.bin .lss 3 false false (.t 34) (.t 37)), none⟩] [])
 (.cond (.t 38)
  .skip
  (.exit 0)))
 (.seq
 (.block 1
  (.seq
  (.reg false [
    ⟨(some 41), (.fad 3 (.t 1)), none⟩,
    ⟨(some 42), (.ld 1 false (.t 41)), none⟩,
    ⟨(some 43), (.mv (.t 4)), none⟩,
    ⟨(some 44), (.ias 3 (.t 42) (.t 43)), none⟩,
    ⟨(some 45), (.fad 1 (.t 44)), none⟩,
    ⟨(some 46), (.ld 2 true (.t 45)), none⟩,
    ⟨(some 5), (.alloc [(.val (.int .i64 0)), (.im [] true)]), none⟩,
    ⟨none, (.st 2 (.t 5) (.t 46)), none⟩] [])
  (.seq
  (.reg true [
    ⟨(some 47), (.mv (.t 3)), none⟩,
    ⟨(some 48), (.fad 3 (.t 1)), none⟩,
    ⟨(some 49), (.ld 1 false (.t 48)), none⟩,
    ⟨(some 50), (.mv (.t 4)), none⟩,
    ⟨(some 51), (.ias 3 (.t 49) (.t 50)), none⟩,
    ⟨(some 52), (.fad 0 (.t 51)), none⟩,
    ⟨(some 53), (.ld 1 false (.t 52)), none⟩,
    ⟨(some 54), (.call (.c (.fn 73 [])) [(.t 47), (.t 53)]), none⟩,
    ⟨(some 55), (.fad 0 (.t 5)), none⟩,
    ⟨(some 56), (.ld 1 false (.t 55)), none⟩,
    ⟨(some 57), (.call (.c (.fn 74 [])) [(.t 54), (.t 56)]), none⟩,
    ⟨(some 58), (.fad 1 (.t 5)), none⟩,
    ⟨(some 59), (.ld 1 false (.t 58)), none⟩,
    ⟨(some 60), (.len false (.t 59)), none⟩,
    ⟨(some 61), (.call (.c (.fn 74 [])) [(.t 57), (.t 60)]), none⟩,
    ⟨(some 3), (.mv (.t 61)), none⟩] [(7, 9), (7, 12), (10, 12)])
  (.seq
  (.reg false [
    ⟨(some 6), (.mv (.c (.val (.int .i64 0)))), none⟩] [])
  (.block 2
   (.loop L20_0))))))
 (.reg false [
   ⟨(some 39), (.mv (.t 4)), none⟩,
   ⟨(some 40), (.bin .add 3 false true (.t 39) (.c (.val (.int .i64 1)))), none⟩,
   ⟨(some 4), (.mv (.t 40)), none⟩] [])))

def L20_2 : CC :=
 (.seq
 (.seq
 (.reg false [
   ⟨(some 84), (.mv (.t 7)), none⟩,
   ⟨(some 85), (.fad 5 (.t 1)), none⟩,
   ⟨(some 86), (.ld 1 false (.t 85)), none⟩,
   ⟨(some 87), (.len false (.t 86)), none⟩,
   ⟨(some 88), (.bin .lss 3 false false (.t 84) (.t 87)), none⟩] [])
 (.cond (.t 88)
  .skip
  (.exit 4)))
 (.seq
 (.block 5
  (.reg false [
    ⟨(some 91), (.mv (.t 3)), none⟩,
    ⟨(some 92), (.fad 5 (.t 1)), none⟩,
    ⟨(some 93), (.ld 1 false (.t 92)), none⟩,
    ⟨(some 94), (.mv (.t 7)), none⟩,
    ⟨(some 95), (.ias 1 (.t 93) (.t 94)), none⟩,
    ⟨(some 96), (.ld 1 false (.t 95)), none⟩,
    ⟨(some 97), (.call (.c (.fn 73 [])) [(.t 91), (.t 96)]), none⟩,
    ⟨(some 3), (.mv (.t 97)), none⟩] []))
 (.reg false [
   ⟨(some 89), (.mv (.t 7)), none⟩,
   ⟨(some 90), (.bin .add 3 false true (.t 89) (.c (.val (.int .i64 1)))), none⟩,
   ⟨(some 7), (.mv (.t 90)), none⟩] [])))

def L20_3 : CC :=
 (.seq
 (.seq
 (.reg false [
   ⟨(some 106), (.mv (.t 8)), none⟩,
   ⟨(some 107), (.fad 7 (.t 1)), none⟩,
   ⟨(some 108), (.ld 1 false (.t 107)), none⟩,
   ⟨(some 109), (.len false (.t 108)), none⟩,
   ⟨(some 110), (.bin .lss 3 false false (.t 106) (.t 109)), none⟩] [])
 (.cond (.t 110)
  .skip
  (.exit 6)))
 (.seq
 (.block 7
  (.reg true [
    ⟨(some 113), (.mv (.t 3)), none⟩,
    ⟨(some 114), (.fad 7 (.t 1)), none⟩,
    ⟨(some 115), (.ld 1 false (.t 114)), none⟩,
    ⟨(some 116), (.mv (.t 8)), none⟩,
    ⟨(some 117), (.ias 2 (.t 115) (.t 116)), none⟩,
    ⟨(some 118), (.fad 0 (.t 117)), none⟩,
    ⟨(some 119), (.ld 1 false (.t 118)), none⟩,
    ⟨(some 120), (.call (.c (.fn 73 [])) [(.t 113), (.t 119)]), none⟩,
    ⟨(some 121), (.fad 7 (.t 1)), none⟩,
    ⟨(some 122), (.ld 1 false (.t 121)), none⟩,
    ⟨(some 123), (.mv (.t 8)), none⟩,
    ⟨(some 124), (.ias 2 (.t 122) (.t 123)), none⟩,
    ⟨(some 125), (.fad 1 (.t 124)), none⟩,
    ⟨(some 126), (.ld 1 false (.t 125)), none⟩,
    ⟨(some 127), (.call (.c (.fn 75 [])) [(.t 120), (.t 126)]), none⟩,
    ⟨(some 3), (.mv (.t 127)), none⟩] [(7, 9), (7, 13)]))
 (.reg false [
   ⟨(some 111), (.mv (.t 8)), none⟩,
   ⟨(some 112), (.bin .add 3 false true (.t 111) (.c (.val (.int .i64 1)))), none⟩,
   ⟨(some 8), (.mv (.t 112)), none⟩] [])))

def L20_4 : CC :=
 (.seq
 (.seq
 (.reg false [
   ⟨(some 141), (.mv (.t 9)), none⟩,
   ⟨(some 142), (.fad 9 (.t 1)), none⟩,
   ⟨(some 143), (.ld 1 false (.t 142)), none⟩,
   ⟨(some 144), (.len false (.t 143)), none⟩,
   ⟨(some 145), (.bin .lss 3 false false (.t 141) (.t 144)), none⟩] [])
 (.cond (.t 145)
  .skip
  (.exit 8)))
 (.seq
 (.block 9
  (.reg false [
    ⟨(some 148), (.mv (.t 3)), none⟩,
    ⟨(some 149), (.fad 9 (.t 1)), none⟩,
    ⟨(some 150), (.ld 1 false (.t 149)), none⟩,
    ⟨(some 151), (.mv (.t 9)), none⟩,
    ⟨(some 152), (.ias 9 (.t 150) (.t 151)), none⟩,
    ⟨(some 153), (.ld 9 true (.t 152)), none⟩,
    ⟨(some 154), (.call (.c (.fn 77 [])) [(.t 148), (.t 153)]), none⟩,
    ⟨(some 3), (.mv (.t 154)), none⟩] []))
 (.reg false [
   ⟨(some 146), (.mv (.t 9)), none⟩,
   ⟨(some 147), (.bin .add 3 false true (.t 146) (.c (.val (.int .i64 1)))), none⟩,
   ⟨(some 9), (.mv (.t 147)), none⟩] [])))

/-- cenotaph/cenotaphref12.Put -/
def c20 : CF := ⟨
 (.seq
 (.reg false [
   ⟨(some 1), (.box (.t 0)), none⟩,
   ⟨(some 2), (.mv (.c (.im [] true))), none⟩] [])
 (.seq
 (.seq
 (.reg false [
   ⟨(some 10), (.ld 12 true (.t 1)), none⟩,
   ⟨(some 11), (.call (.c (.fn 17 [])) [(.t 10)]), none⟩,
   ⟨(some 12), (.un .not (.t 11)), none⟩] [])
 (.cond (.t 12)
  (.seq
  (.reg false [
    ⟨(some 2), (.mv (.c (.im [] true))), none⟩] [])
  .ret)
  .skip))
 (.seq
 (.reg true [
   ⟨(some 13), (.fad 0 (.t 1)), none⟩,
   ⟨(some 14), (.ld 1 false (.t 13)), none⟩,
   ⟨(some 15), (.call (.c (.fn 74 [])) [(.c (.im [] true)), (.t 14)]), none⟩,
   ⟨(some 16), (.fad 1 (.t 1)), none⟩,
   ⟨(some 17), (.ld 1 false (.t 16)), none⟩,
   ⟨(some 18), (.call (.c (.fn 73 [])) [(.t 15), (.t 17)]), none⟩,
   ⟨(some 19), (.fad 2 (.t 1)), none⟩,
   ⟨(some 20), (.ld 1 false (.t 19)), none⟩,
   ⟨(some 21), (.call (.c (.fn 73 [])) [(.t 18), (.t 20)]), none⟩,
   ⟨(some 3), (.mv (.t 21)), none⟩] [(2, 4), (2, 7), (5, 7)])
 (.seq
 (.seq
 (.reg false [
   ⟨(some 22), (.fad 0 (.t 1)), none⟩,
   ⟨(some 23), (.ld 1 false (.t 22)), none⟩,
   ⟨(some 24), (.bin .eql 3 false true (.t 23) (.c (.val (.int .i64 3)))), none⟩] [])
 (.cond (.t 24)
  (.seq
  (.reg false [
    ⟨(some 25), (.mv (.t 3)), none⟩,
    ⟨(some 26), (.fad 11 (.t 1)), none⟩,
    ⟨(some 27), (.ld 1 false (.t 26)), none⟩,
    ⟨(some 28), (.call (.c (.fn 75 [])) [(.t 25), (.t 27)]), none⟩,
    ⟨(some 2), (.mv (.t 28)), none⟩] [])
  .ret)
  .skip))
 (.seq
 (.reg false [
   ⟨(some 29), (.mv (.t 3)), none⟩,
   ⟨(some 30), (.fad 3 (.t 1)), none⟩,
   ⟨(some 31), (.ld 1 false (.t 30)), none⟩,
   ⟨(some 32), (.len false (.t 31)), none⟩,
   ⟨(some 33), (.call (.c (.fn 74 [])) [(.t 29), (.t 32)]), none⟩,
   ⟨(some 3), (.mv (.t 33)), none⟩] [])
 (.seq
 (.seq
 (.reg false [
   ⟨(some 4), (.mv (.c (.val (.int .i64 0)))), none⟩] [])
 (.block 0
  (.loop L20_1)))
 (.seq
 (.reg true [
   ⟨(some 76), (.mv (.t 3)), none⟩,
   ⟨(some 77), (.fad 4 (.t 1)), none⟩,
   ⟨(some 78), (.ld 1 false (.t 77)), none⟩,
   ⟨(some 79), (.call (.c (.fn 74 [])) [(.t 76), (.t 78)]), none⟩,
   ⟨(some 80), (.fad 5 (.t 1)), none⟩,
   ⟨(some 81), (.ld 1 false (.t 80)), none⟩,
   ⟨(some 82), (.len false (.t 81)), none⟩,
   ⟨(some 83), (.call (.c (.fn 74 [])) [(.t 79), (.t 82)]), none⟩,
   ⟨(some 3), (.mv (.t 83)), none⟩] [(3, 5)])
 (.seq
 (.seq
 (.reg false [
   ⟨(some 7), (.mv (.c (.val (.int .i64 0)))), none⟩] [])
 (.block 4
  (.loop L20_2)))
 (.seq
 (.reg true [
   ⟨(some 98), (.mv (.t 3)), none⟩,
   ⟨(some 99), (.fad 6 (.t 1)), none⟩,
   ⟨(some 100), (.ld 1 false (.t 99)), none⟩,
   ⟨(some 101), (.call (.c (.fn 75 [])) [(.t 98), (.t 100)]), none⟩,
   ⟨(some 102), (.fad 7 (.t 1)), none⟩,
   ⟨(some 103), (.ld 1 false (.t 102)), none⟩,
   ⟨(some 104), (.len false (.t 103)), none⟩,
   ⟨(some 105), (.call (.c (.fn 74 [])) [(.t 101), (.t 104)]), none⟩,
   ⟨(some 3), (.mv (.t 105)), none⟩] [(3, 5)])
 (.seq
 (.seq
 (.reg false [
   ⟨(some 8), (.mv (.c (.val (.int .i64 0)))), none⟩] [])
 (.block 6
  (.loop L20_3)))
 (.seq
 (.seq
 (.reg false [
   ⟨(some 128), (.fad 0 (.t 1)), none⟩,
   ⟨(some 129), (.ld 1 false (.t 128)), none⟩,
   ⟨(some 130), (.bin .eql 3 false true (.t 129) (.c (.val (.int .i64 1)))), none⟩] [])
 (.cond (.t 130)
  (.reg false [
    ⟨(some 131), (.mv (.t 3)), none⟩,
    ⟨(some 132), (.fad 8 (.t 1)), none⟩,
    ⟨(some 133), (.ld 1 false (.t 132)), none⟩,
    ⟨(some 134), (.call (.c (.fn 76 [])) [(.t 133)]), none⟩,
    ⟨(some 135), (.call (.c (.fn 73 [])) [(.t 131), (.t 134)]), none⟩,
    ⟨(some 3), (.mv (.t 135)), none⟩] [])
  .skip))
 (.seq
 (.reg false [
   ⟨(some 136), (.mv (.t 3)), none⟩,
   ⟨(some 137), (.fad 9 (.t 1)), none⟩,
   ⟨(some 138), (.ld 1 false (.t 137)), none⟩,
   ⟨(some 139), (.len false (.t 138)), none⟩,
   ⟨(some 140), (.call (.c (.fn 74 [])) [(.t 136), (.t 139)]), none⟩,
   ⟨(some 3), (.mv (.t 140)), none⟩] [])
 (.seq
 (.seq
 (.reg false [
   ⟨(some 9), (.mv (.c (.val (.int .i64 0)))), none⟩] [])
 (.block 8
  (.loop L20_4)))
 (.seq
 (.seq
 (.reg false [
   ⟨(some 155), (.fad 0 (.t 1)), none⟩,
   ⟨(some 156), (.ld 1 false (.t 155)), none⟩,
   ⟨(some 157), (.bin .eql 3 false true (.t 156) (.c (.val (.int .i64 2)))), none⟩,
   ⟨(some 158), (.mv (.t 157)), none⟩,
   ⟨(some 159), (.fad 10 (.t 1)), (some (158, true))⟩,
   ⟨(some 160), (.ld 1 false (.t 159)), (some (158, true))⟩,
   ⟨(some 161), (.pick (.t 158) (.t 160) (.c (.val (.bool false)))), none⟩] [])
 (.cond (.t 161)
  (.seq
  (.reg false [
    ⟨(some 162), (.mv (.t 3)), none⟩,
    ⟨(some 163), (.call (.c (.fn 74 [])) [(.t 162), (.c (.val (.int .i64 1)))]), none⟩,
    ⟨(some 2), (.mv (.t 163)), none⟩] [])
  .ret)
  .skip))
 (.seq
 (.seq
 (.reg false [
   ⟨(some 164), (.fad 0 (.t 1)), none⟩,
   ⟨(some 165), (.ld 1 false (.t 164)), none⟩,
   ⟨(some 166), (.bin .eql 3 false true (.t 165) (.c (.val (.int .i64 2)))), none⟩] [])
 (.cond (.t 166)
  (.seq
  (.reg false [
    ⟨(some 167), (.mv (.t 3)), none⟩,
    ⟨(some 168), (.call (.c (.fn 74 [])) [(.t 167), (.c (.val (.int .i64 0)))]), none⟩,
    ⟨(some 2), (.mv (.t 168)), none⟩] [])
  .ret)
  .skip))
 (.seq
 (.reg false [
   ⟨(some 169), (.mv (.t 3)), none⟩,
   ⟨(some 2), (.mv (.t 169)), none⟩] [])
 .ret)))))))))))))))),
 [.tmp 2]⟩

/-- cenotaph/frame.Take -/
def c22 : CF := ⟨
 (.seq
 (.reg false [
   ⟨(some 2), (.alloc [(.val (.int .i64 0)), (.val (.string ⟨#[]⟩)), (.val (.string ⟨#[]⟩)), (.im [] true), (.val (.int .i64 0)), (.im [] true), (.im [] true), (.im [] true), (.im [] true), (.im [] true), (.val (.bool false)), (.im [] true)]), none⟩,
   ⟨(some 3), (.mv (.c (.val (.int .i64 0)))), none⟩] [])
 (.seq
 (.reg false [
   ⟨(some 6), (.mv (.t 0)), none⟩,
   ⟨(some 7), (.call (.c (.fn 86 [])) [(.t 6)]), none⟩,
   ⟨(some 8), (.build [(.val (.pointer none)), (.val (.bool false))] [(0, 1, (.t 7))]), none⟩,
   ⟨(some 9), (.box (.t 8)), none⟩,
   ⟨(some 4), (.mv (.t 9)), none⟩] [])
 (.seq
 (.reg false [
   ⟨(some 10), (.mv (.t 4)), none⟩,
   ⟨(some 11), (.nck (.t 10)), none⟩,
   ⟨(some 12), (.fad 0 (.t 11)), none⟩,
   ⟨(some 13), (.ld 1 false (.t 12)), none⟩,
   ⟨(some 14), (.call (.c (.fn 87 [])) [(.t 13), (.c (.val (.int .i64 3)))]), none⟩,
   ⟨(some 15), (.build [(.val (.int .i64 0)), (.val (.string ⟨#[]⟩)), (.val (.string ⟨#[]⟩)), (.im [] true), (.val (.int .i64 0)), (.im [] true), (.im [] true), (.im [] true), (.im [] true), (.im [] true), (.val (.bool false)), (.im [] true)] [(0, 1, (.t 14))]), none⟩,
   ⟨(some 5), (.alloc [(.val (.int .i64 0)), (.val (.string ⟨#[]⟩)), (.val (.string ⟨#[]⟩)), (.im [] true), (.val (.int .i64 0)), (.im [] true), (.im [] true), (.im [] true), (.im [] true), (.im [] true), (.val (.bool false)), (.im [] true)]), none⟩,
   ⟨none, (.st 12 (.t 5) (.t 15)), none⟩] [])
 (.seq
 (.reg false [
   ⟨(some 16), (.mv (.t 4)), none⟩,
   ⟨(some 17), (.fad 0 (.t 5)), none⟩,
   ⟨(some 18), (.ld 1 false (.t 17)), none⟩,
   ⟨(some 19), (.bin .eql 3 false true (.t 18) (.c (.val (.int .i64 0)))), none⟩,
   ⟨(some 20), (.mv (.t 19)), none⟩,
   ⟨(some 21), (.mv (.t 4)), (some (20, true))⟩,
   ⟨(some 22), (.nck (.t 21)), (some (20, true))⟩,
   ⟨(some 23), (.fad 0 (.t 22)), (some (20, true))⟩,
   ⟨(some 24), (.ld 1 false (.t 23)), (some (20, true))⟩,
   ⟨(some 25), (.call (.c (.fn 88 [])) [(.t 24)]), (some (20, true))⟩,
   ⟨(some 26), (.bin .eql 52 false true (.t 25) (.c (.val (.int .i64 0)))), (some (20, true))⟩,
   ⟨(some 27), (.pick (.t 20) (.t 26) (.c (.val (.bool false)))), none⟩,
   ⟨(some 28), (.nck (.t 16)), none⟩,
   ⟨(some 29), (.fad 1 (.t 28)), none⟩,
   ⟨none, (.st 1 (.t 29) (.t 27)), none⟩] [])
 (.seq
 (.seq
 (.reg false [
   ⟨(some 30), (.mv (.t 4)), none⟩,
   ⟨(some 31), (.nck (.t 30)), none⟩,
   ⟨(some 32), (.fad 1 (.t 31)), none⟩,
   ⟨(some 33), (.ld 1 false (.t 32)), none⟩,
   ⟨(some 34), (.un .not (.t 33)), none⟩] [])
 (.cond (.t 34)
  (.seq
  (.reg false [
    ⟨(some 35), (.mv (.t 4)), none⟩,
    ⟨(some 36), (.call (.c (.fn 89 [])) [(.t 35)]), none⟩,
    ⟨(some 37), (.fad 1 (.t 5)), none⟩,
    ⟨none, (.st 1 (.t 37) (.t 36)), none⟩] [])
  (.seq
  (.reg false [
    ⟨(some 38), (.mv (.t 4)), none⟩,
    ⟨(some 39), (.call (.c (.fn 89 [])) [(.t 38)]), none⟩,
    ⟨(some 40), (.fad 2 (.t 5)), none⟩,
    ⟨none, (.st 1 (.t 40) (.t 39)), none⟩] [])
  (.seq
  (.reg false [
    ⟨(some 41), (.fad 0 (.t 5)), none⟩,
    ⟨(some 42), (.ld 1 false (.t 41)), none⟩,
    ⟨(some 43), (.bin .eql 3 false true (.t 42) (.c (.val (.int .i64 3)))), none⟩] [])
  (.cond (.t 43)
   (.reg false [
     ⟨(some 44), (.mv (.t 4)), none⟩,
     ⟨(some 45), (.call (.c (.fn 90 [])) [(.t 44)]), none⟩,
     ⟨(some 46), (.fad 11 (.t 5)), none⟩,
     ⟨none, (.st 1 (.t 46) (.t 45)), none⟩] [])
   (.reg false [
     ⟨(some 47), (.mv (.t 4)), none⟩,
     ⟨(some 48), (.call (.c (.fn 91 [])) [(.t 47), (.t 5)]), none⟩] [])))))
  .skip))
 (.seq
 (.block 0
  (.seq
  (.reg false [
    ⟨(some 50), (.mv (.t 4)), none⟩,
    ⟨(some 51), (.nck (.t 50)), none⟩,
    ⟨(some 52), (.fad 1 (.t 51)), none⟩,
    ⟨(some 53), (.ld 1 false (.t 52)), none⟩,
    ⟨(some 49), (.mv (.t 53)), none⟩] [])
  (.cond (.t 49)
   (.seq
   (.reg false [
     ⟨(some 54), (.build [(.val (.int .i64 0)), (.val (.string ⟨#[]⟩)), (.val (.string ⟨#[]⟩)), (.im [] true), (.val (.int .i64 0)), (.im [] true), (.im [] true), (.im [] true), (.im [] true), (.im [] true), (.val (.bool false)), (.im [] true)] []), none⟩,
     ⟨none, (.st 12 (.t 2) (.t 54)), none⟩,
     ⟨(some 3), (.mv (.c (.val (.int .i64 3)))), none⟩] [])
   .ret)
   (.seq
   (.reg false [
     ⟨(some 56), (.mv (.t 4)), none⟩,
     ⟨(some 57), (.nck (.t 56)), none⟩,
     ⟨(some 58), (.fad 0 (.t 57)), none⟩,
     ⟨(some 59), (.ld 1 false (.t 58)), none⟩,
     ⟨(some 60), (.call (.c (.fn 92 [])) [(.t 59)]), none⟩,
     ⟨(some 61), (.bin .neq 52 false true (.t 60) (.c (.val (.int .i64 0)))), none⟩,
     ⟨(some 55), (.mv (.t 61)), none⟩] [])
   (.cond (.t 55)
    (.seq
    (.reg false [
      ⟨(some 62), (.build [(.val (.int .i64 0)), (.val (.string ⟨#[]⟩)), (.val (.string ⟨#[]⟩)), (.im [] true), (.val (.int .i64 0)), (.im [] true), (.im [] true), (.im [] true), (.im [] true), (.im [] true), (.val (.bool false)), (.im [] true)] []), none⟩,
      ⟨(some 63), (.mv (.t 4)), none⟩,
      ⟨(some 64), (.nck (.t 63)), none⟩,
      ⟨(some 65), (.fad 0 (.t 64)), none⟩,
      ⟨(some 66), (.ld 1 false (.t 65)), none⟩,
      ⟨(some 67), (.call (.c (.fn 92 [])) [(.t 66)]), none⟩,
      ⟨none, (.st 12 (.t 2) (.t 62)), none⟩,
      ⟨(some 3), (.mv (.t 67)), none⟩] [])
    .ret)
    (.seq
    (.reg false [
      ⟨(some 69), (.ld 12 true (.t 5)), none⟩,
      ⟨(some 70), (.call (.c (.fn 15 [])) [(.t 69)]), none⟩,
      ⟨(some 71), (.un .not (.t 70)), none⟩,
      ⟨(some 68), (.mv (.t 71)), none⟩] [])
    (.cond (.t 68)
     (.seq
     (.reg false [
       ⟨(some 72), (.build [(.val (.int .i64 0)), (.val (.string ⟨#[]⟩)), (.val (.string ⟨#[]⟩)), (.im [] true), (.val (.int .i64 0)), (.im [] true), (.im [] true), (.im [] true), (.im [] true), (.im [] true), (.val (.bool false)), (.im [] true)] []), none⟩,
       ⟨none, (.st 12 (.t 2) (.t 72)), none⟩,
       ⟨(some 3), (.mv (.c (.val (.int .i64 3)))), none⟩] [])
     .ret)
     .skip)))))))
 (.seq
 (.reg false [
   ⟨(some 73), (.ld 12 true (.t 5)), none⟩,
   ⟨none, (.st 12 (.t 2) (.t 73)), none⟩,
   ⟨(some 3), (.mv (.c (.val (.int .i64 0)))), none⟩] [])
 .ret))))))),
 [.cell 2 12 true, .tmp 3]⟩

/-- cenotaph/frame.Same -/
def c23 : CF := ⟨
 (.seq
 (.reg false [
   ⟨(some 2), (.box (.t 0)), none⟩,
   ⟨(some 3), (.box (.t 1)), none⟩,
   ⟨(some 4), (.mv (.c (.val (.bool false)))), none⟩] [])
 (.seq
 (.reg false [
   ⟨(some 5), (.fad 0 (.t 2)), none⟩,
   ⟨(some 6), (.ld 1 false (.t 5)), none⟩,
   ⟨(some 7), (.fad 0 (.t 3)), none⟩,
   ⟨(some 8), (.ld 1 false (.t 7)), none⟩,
   ⟨(some 9), (.bin .eql 3 false false (.t 6) (.t 8)), none⟩,
   ⟨(some 10), (.mv (.t 9)), none⟩,
   ⟨(some 11), (.fad 1 (.t 2)), (some (10, true))⟩,
   ⟨(some 12), (.ld 1 false (.t 11)), (some (10, true))⟩,
   ⟨(some 13), (.fad 1 (.t 3)), (some (10, true))⟩,
   ⟨(some 14), (.ld 1 false (.t 13)), (some (10, true))⟩,
   ⟨(some 15), (.bin .eql 33 false false (.t 12) (.t 14)), (some (10, true))⟩,
   ⟨(some 16), (.pick (.t 10) (.t 15) (.c (.val (.bool false)))), none⟩,
   ⟨(some 17), (.mv (.t 16)), none⟩,
   ⟨(some 18), (.fad 2 (.t 2)), (some (17, true))⟩,
   ⟨(some 19), (.ld 1 false (.t 18)), (some (17, true))⟩,
   ⟨(some 20), (.fad 2 (.t 3)), (some (17, true))⟩,
   ⟨(some 21), (.ld 1 false (.t 20)), (some (17, true))⟩,
   ⟨(some 22), (.bin .eql 33 false false (.t 19) (.t 21)), (some (17, true))⟩,
   ⟨(some 23), (.pick (.t 17) (.t 22) (.c (.val (.bool false)))), none⟩,
   ⟨(some 24), (.mv (.t 23)), none⟩,
   ⟨(some 25), (.fad 4 (.t 2)), (some (24, true))⟩,
   ⟨(some 26), (.ld 1 false (.t 25)), (some (24, true))⟩,
   ⟨(some 27), (.fad 4 (.t 3)), (some (24, true))⟩,
   ⟨(some 28), (.ld 1 false (.t 27)), (some (24, true))⟩,
   ⟨(some 29), (.bin .eql 3 false false (.t 26) (.t 28)), (some (24, true))⟩,
   ⟨(some 30), (.pick (.t 24) (.t 29) (.c (.val (.bool false)))), none⟩,
   ⟨(some 31), (.mv (.t 30)), none⟩,
   ⟨(some 32), (.fad 10 (.t 2)), (some (31, true))⟩,
   ⟨(some 33), (.ld 1 false (.t 32)), (some (31, true))⟩,
   ⟨(some 34), (.fad 10 (.t 3)), (some (31, true))⟩,
   ⟨(some 35), (.ld 1 false (.t 34)), (some (31, true))⟩,
   ⟨(some 36), (.bin .eql 4 false false (.t 33) (.t 35)), (some (31, true))⟩,
   ⟨(some 37), (.pick (.t 31) (.t 36) (.c (.val (.bool false)))), none⟩,
   ⟨(some 38), (.mv (.t 37)), none⟩,
   ⟨(some 39), (.fad 3 (.t 2)), (some (38, true))⟩,
   ⟨(some 40), (.ld 1 false (.t 39)), (some (38, true))⟩,
   ⟨(some 41), (.fad 3 (.t 3)), (some (38, true))⟩,
   ⟨(some 42), (.ld 1 false (.t 41)), (some (38, true))⟩,
   ⟨(some 43), (.call (.c (.fn 93 [])) [(.t 40), (.t 42)]), (some (38, true))⟩,
   ⟨(some 44), (.pick (.t 38) (.t 43) (.c (.val (.bool false)))), none⟩,
   ⟨(some 45), (.mv (.t 44)), none⟩,
   ⟨(some 46), (.fad 5 (.t 2)), (some (45, true))⟩,
   ⟨(some 47), (.ld 1 false (.t 46)), (some (45, true))⟩,
   ⟨(some 48), (.fad 5 (.t 3)), (some (45, true))⟩,
   ⟨(some 49), (.ld 1 false (.t 48)), (some (45, true))⟩,
   ⟨(some 50), (.call (.c (.fn 94 [])) [(.t 47), (.t 49)]), (some (45, true))⟩,
   ⟨(some 51), (.pick (.t 45) (.t 50) (.c (.val (.bool false)))), none⟩,
   ⟨(some 52), (.mv (.t 51)), none⟩,
   ⟨(some 53), (.fad 6 (.t 2)), (some (52, true))⟩,
   ⟨(some 54), (.ld 1 false (.t 53)), (some (52, true))⟩,
   ⟨(some 55), (.fad 6 (.t 3)), (some (52, true))⟩,
   ⟨(some 56), (.ld 1 false (.t 55)), (some (52, true))⟩,
   ⟨(some 57), (.call (.c (.fn 95 [])) [(.t 54), (.t 56)]), (some (52, true))⟩,
   ⟨(some 58), (.pick (.t 52) (.t 57) (.c (.val (.bool false)))), none⟩,
   ⟨(some 59), (.mv (.t 58)), none⟩,
   ⟨(some 60), (.fad 7 (.t 2)), (some (59, true))⟩,
   ⟨(some 61), (.ld 1 false (.t 60)), (some (59, true))⟩,
   ⟨(some 62), (.fad 7 (.t 3)), (some (59, true))⟩,
   ⟨(some 63), (.ld 1 false (.t 62)), (some (59, true))⟩,
   ⟨(some 64), (.call (.c (.fn 96 [])) [(.t 61), (.t 63)]), (some (59, true))⟩,
   ⟨(some 65), (.pick (.t 59) (.t 64) (.c (.val (.bool false)))), none⟩,
   ⟨(some 66), (.mv (.t 65)), none⟩,
   ⟨(some 67), (.fad 8 (.t 2)), (some (66, true))⟩,
   ⟨(some 68), (.ld 1 false (.t 67)), (some (66, true))⟩,
   ⟨(some 69), (.fad 8 (.t 3)), (some (66, true))⟩,
   ⟨(some 70), (.ld 1 false (.t 69)), (some (66, true))⟩,
   ⟨(some 71), (.call (.c (.fn 97 [])) [(.t 68), (.t 70)]), (some (66, true))⟩,
   ⟨(some 72), (.pick (.t 66) (.t 71) (.c (.val (.bool false)))), none⟩,
   ⟨(some 73), (.mv (.t 72)), none⟩,
   ⟨(some 74), (.fad 9 (.t 2)), (some (73, true))⟩,
   ⟨(some 75), (.ld 1 false (.t 74)), (some (73, true))⟩,
   ⟨(some 76), (.fad 9 (.t 3)), (some (73, true))⟩,
   ⟨(some 77), (.ld 1 false (.t 76)), (some (73, true))⟩,
   ⟨(some 78), (.call (.c (.fn 98 [])) [(.t 75), (.t 77)]), (some (73, true))⟩,
   ⟨(some 79), (.pick (.t 73) (.t 78) (.c (.val (.bool false)))), none⟩,
   ⟨(some 80), (.mv (.t 79)), none⟩,
   ⟨(some 81), (.fad 11 (.t 2)), (some (80, true))⟩,
   ⟨(some 82), (.ld 1 false (.t 81)), (some (80, true))⟩,
   ⟨(some 83), (.fad 11 (.t 3)), (some (80, true))⟩,
   ⟨(some 84), (.ld 1 false (.t 83)), (some (80, true))⟩,
   ⟨(some 85), (.call (.c (.fn 95 [])) [(.t 82), (.t 84)]), (some (80, true))⟩,
   ⟨(some 86), (.pick (.t 80) (.t 85) (.c (.val (.bool false)))), none⟩,
   ⟨(some 4), (.mv (.t 86)), none⟩] [])
 .ret)),
 [.tmp 4]⟩

def L50_0 : CC :=
 (.seq
 (.reg false [
   ⟨(some 18), (.bin .lss 3 false false (.t 17) (.t 16)), none⟩] [])
 (.seq
 (.cond (.t 18)
  .skip
  (.exit 0))
 (.seq
 (.block 1
  (.seq
  (.reg false [
    ⟨(some 19), (.ias 1 (.t 15) (.t 17)), none⟩,
    ⟨(some 20), (.ld 1 false (.t 19)), none⟩,
    ⟨(some 4), (.mv (.t 20)), none⟩] [])
  (.seq
  (.reg false [
    ⟨(some 21), (.mv (.t 4)), none⟩,
    ⟨(some 22), (.bin .leq 5 false true (.t 21) (.c (.val (.int .u8 48)))), none⟩,
    ⟨(some 23), (.mv (.t 22)), none⟩,
    ⟨(some 24), (.mv (.t 4)), (some (23, false))⟩,
    ⟨(some 25), (.bin .gtr 5 false true (.t 24) (.c (.val (.int .u8 57)))), (some (23, false))⟩,
    ⟨(some 26), (.pick (.t 23) (.c (.val (.bool true))) (.t 25)), none⟩] [])
  (.cond (.t 26)
   (.seq
   (.reg false [
     ⟨(some 2), (.mv (.c (.val (.bool false)))), none⟩] [])
   .ret)
   .skip))))
 (.reg false [
   ⟨(some 27), (.bin .add 3 false true (.t 17) (.c (.val (.int .i64 1)))), none⟩,
   ⟨(some 17), (.mv (.t 27)), none⟩] []))))

/-- cenotaph/id.Right -/
def c50 : CF := ⟨
 (.seq
 (.reg false [
   ⟨(some 2), (.mv (.c (.val (.bool false)))), none⟩] [])
 (.seq
 (.seq
 (.reg false [
   ⟨(some 5), (.mv (.t 0)), none⟩,
   ⟨(some 6), (.call (.c (.fn 144 [])) [(.t 5), (.c (.val (.string ⟨#[48]⟩)))]), none⟩,
   ⟨(some 7), (.un .not (.t 6)), none⟩,
   ⟨(some 8), (.mv (.t 7)), none⟩,
   ⟨(some 9), (.mv (.t 0)), (some (8, false))⟩,
   ⟨(some 10), (.len true (.t 9)), (some (8, false))⟩,
   ⟨(some 11), (.bin .gtr 3 false true (.t 10) (.c (.val (.int .i64 6)))), (some (8, false))⟩,
   ⟨(some 12), (.pick (.t 8) (.c (.val (.bool true))) (.t 11)), none⟩] [])
 (.cond (.t 12)
  (.seq
  (.reg false [
    ⟨(some 2), (.mv (.c (.val (.bool false)))), none⟩] [])
  .ret)
  .skip))
 (.seq
 (.seq
 (.reg false [
   ⟨(some 13), (.mv (.t 0)), none⟩,
   ⟨(some 14), (.slc 0 (.t 13) (some (.c (.val (.int .i64 1)))) none none), none⟩,
   ⟨(some 15), (.s2b (.t 14)), none⟩,
   ⟨(some 16), (.len false (.t 15)), none⟩,
   ⟨(some 17), (.mv (.c (.val (.int .i64 0)))), none⟩] [])
 (.block 0
  (.loop L50_0)))
 (.seq
 (.reg false [
   ⟨(some 2), (.mv (.c (.val (.bool true)))), none⟩] [])
 .ret)))),
 [.tmp 2]⟩

/-- (cenotaph/frame.Frame).lists -/
def c51 : CF := ⟨
 (.seq
 (.reg false [
   ⟨(some 1), (.box (.t 0)), none⟩,
   ⟨(some 2), (.mv (.c (.val (.bool false)))), none⟩] [])
 (.seq
 (.reg false [
   ⟨(some 3), (.fad 3 (.t 1)), none⟩,
   ⟨(some 4), (.ld 1 false (.t 3)), none⟩,
   ⟨(some 5), (.len false (.t 4)), none⟩,
   ⟨(some 6), (.bin .leq 3 false true (.t 5) (.c (.val (.int .i64 64)))), none⟩,
   ⟨(some 7), (.mv (.t 6)), none⟩,
   ⟨(some 8), (.fad 3 (.t 1)), (some (7, true))⟩,
   ⟨(some 9), (.ld 1 false (.t 8)), (some (7, true))⟩,
   ⟨(some 10), (.call (.c (.fn 145 [])) [(.t 9)]), (some (7, true))⟩,
   ⟨(some 11), (.pick (.t 7) (.t 10) (.c (.val (.bool false)))), none⟩,
   ⟨(some 12), (.mv (.t 11)), none⟩,
   ⟨(some 13), (.fad 4 (.t 1)), (some (12, true))⟩,
   ⟨(some 14), (.ld 1 false (.t 13)), (some (12, true))⟩,
   ⟨(some 15), (.bin .geq 3 false true (.t 14) (.c (.val (.int .i64 0)))), (some (12, true))⟩,
   ⟨(some 16), (.pick (.t 12) (.t 15) (.c (.val (.bool false)))), none⟩,
   ⟨(some 17), (.mv (.t 16)), none⟩,
   ⟨(some 18), (.fad 4 (.t 1)), (some (17, true))⟩,
   ⟨(some 19), (.ld 1 false (.t 18)), (some (17, true))⟩,
   ⟨(some 20), (.bin .leq 3 false true (.t 19) (.c (.val (.int .i64 1048576)))), (some (17, true))⟩,
   ⟨(some 21), (.pick (.t 17) (.t 20) (.c (.val (.bool false)))), none⟩,
   ⟨(some 22), (.mv (.t 21)), none⟩,
   ⟨(some 23), (.fad 5 (.t 1)), (some (22, true))⟩,
   ⟨(some 24), (.ld 1 false (.t 23)), (some (22, true))⟩,
   ⟨(some 25), (.call (.c (.fn 146 [])) [(.t 24)]), (some (22, true))⟩,
   ⟨(some 26), (.pick (.t 22) (.t 25) (.c (.val (.bool false)))), none⟩,
   ⟨(some 27), (.mv (.t 26)), none⟩,
   ⟨(some 28), (.fad 6 (.t 1)), (some (27, true))⟩,
   ⟨(some 29), (.ld 1 false (.t 28)), (some (27, true))⟩,
   ⟨(some 30), (.call (.c (.fn 54 [])) [(.t 29)]), (some (27, true))⟩,
   ⟨(some 31), (.pick (.t 27) (.t 30) (.c (.val (.bool false)))), none⟩,
   ⟨(some 32), (.mv (.t 31)), none⟩,
   ⟨(some 33), (.fad 7 (.t 1)), (some (32, true))⟩,
   ⟨(some 34), (.ld 1 false (.t 33)), (some (32, true))⟩,
   ⟨(some 35), (.call (.c (.fn 147 [])) [(.t 34)]), (some (32, true))⟩,
   ⟨(some 36), (.pick (.t 32) (.t 35) (.c (.val (.bool false)))), none⟩,
   ⟨(some 37), (.mv (.t 36)), none⟩,
   ⟨(some 38), (.fad 9 (.t 1)), (some (37, true))⟩,
   ⟨(some 39), (.ld 1 false (.t 38)), (some (37, true))⟩,
   ⟨(some 40), (.fad 0 (.t 1)), (some (37, true))⟩,
   ⟨(some 41), (.ld 1 false (.t 40)), (some (37, true))⟩,
   ⟨(some 42), (.call (.c (.fn 148 [])) [(.t 39), (.t 41)]), (some (37, true))⟩,
   ⟨(some 43), (.pick (.t 37) (.t 42) (.c (.val (.bool false)))), none⟩,
   ⟨(some 44), (.mv (.t 43)), none⟩,
   ⟨(some 45), (.fad 11 (.t 1)), (some (44, true))⟩,
   ⟨(some 46), (.ld 1 false (.t 45)), (some (44, true))⟩,
   ⟨(some 47), (.len false (.t 46)), (some (44, true))⟩,
   ⟨(some 48), (.bin .eql 3 false true (.t 47) (.c (.val (.int .i64 0)))), (some (44, true))⟩,
   ⟨(some 49), (.pick (.t 44) (.t 48) (.c (.val (.bool false)))), none⟩,
   ⟨(some 2), (.mv (.t 49)), none⟩] [])
 .ret)),
 [.tmp 2]⟩

def L52_0 : CC :=
 (.seq
 (.reg false [
   ⟨(some 12), (.bin .lss 3 false false (.t 11) (.t 10)), none⟩] [])
 (.seq
 (.cond (.t 12)
  .skip
  (.exit 0))
 (.seq
 (.block 1
  (.seq
  (.reg false [
    ⟨(some 13), (.ias 3 (.t 9) (.t 11)), none⟩,
    ⟨(some 14), (.ld 3 true (.t 13)), none⟩,
    ⟨(some 5), (.alloc [(.val (.int .i64 0)), (.val (.complex .f64 0 0)), (.val (.float .f64 0))]), none⟩,
    ⟨none, (.st 3 (.t 5) (.t 14)), none⟩] [])
  (.seq
  (.seq
  (.reg false [
    ⟨(some 15), (.ld 3 true (.t 5)), none⟩,
    ⟨(some 16), (.call (.c (.fn 149 [])) [(.t 15)]), none⟩,
    ⟨(some 17), (.un .not (.t 16)), none⟩,
    ⟨(some 18), (.mv (.t 17)), none⟩,
    ⟨(some 19), (.mv (.t 3)), (some (18, false))⟩,
    ⟨(some 20), (.ld 3 true (.t 5)), (some (18, false))⟩,
    ⟨(some 21), (.call (.c (.fn 150 [])) [(.t 20)]), (some (18, false))⟩,
    ⟨(some 22), (.bin .lss 3 false false (.t 19) (.t 21)), (some (18, false))⟩,
    ⟨(some 23), (.pick (.t 18) (.c (.val (.bool true))) (.t 22)), none⟩] [])
  (.cond (.t 23)
   (.seq
   (.reg false [
     ⟨(some 2), (.mv (.c (.val (.bool false)))), none⟩] [])
   .ret)
   .skip))
  (.reg false [
    ⟨(some 24), (.mv (.t 3)), none⟩,
    ⟨(some 25), (.ld 3 true (.t 5)), none⟩,
    ⟨(some 26), (.call (.c (.fn 150 [])) [(.t 25)]), none⟩,
    ⟨(some 27), (.bin .sub 3 true false (.c (.val (.int .i64 1))) (.t 26)), none⟩,
    ⟨(some 28), (.bin .add 3 false false (.t 24) (.t 27)), none⟩,
    ⟨(some 3), (.mv (.t 28)), none⟩] []))))
 (.reg false [
   ⟨(some 29), (.bin .add 3 false true (.t 11) (.c (.val (.int .i64 1)))), none⟩,
   ⟨(some 11), (.mv (.t 29)), none⟩] []))))

/-- cenotaph/zone.Right -/
def c52 : CF := ⟨
 (.seq
 (.reg false [
   ⟨(some 2), (.mv (.c (.val (.bool false)))), none⟩] [])
 (.seq
 (.seq
 (.reg false [
   ⟨(some 6), (.mv (.t 0)), none⟩,
   ⟨(some 7), (.len false (.t 6)), none⟩,
   ⟨(some 8), (.bin .gtr 3 false true (.t 7) (.c (.val (.int .i64 32)))), none⟩] [])
 (.cond (.t 8)
  (.seq
  (.reg false [
    ⟨(some 2), (.mv (.c (.val (.bool false)))), none⟩] [])
  .ret)
  .skip))
 (.seq
 (.reg false [
   ⟨(some 3), (.mv (.c (.val (.int .i64 0)))), none⟩] [])
 (.seq
 (.seq
 (.reg false [
   ⟨(some 9), (.mv (.t 0)), none⟩,
   ⟨(some 10), (.len false (.t 9)), none⟩,
   ⟨(some 11), (.mv (.c (.val (.int .i64 0)))), none⟩] [])
 (.block 0
  (.loop L52_0)))
 (.seq
 (.reg false [
   ⟨(some 30), (.mv (.t 3)), none⟩,
   ⟨(some 31), (.bin .eql 3 false true (.t 30) (.c (.val (.int .i64 1)))), none⟩,
   ⟨(some 2), (.mv (.t 31)), none⟩] [])
 .ret))))),
 [.tmp 2]⟩

/-- (cenotaph/frame.Frame).bare -/
def c53 : CF := ⟨
 (.seq
 (.reg false [
   ⟨(some 1), (.box (.t 0)), none⟩,
   ⟨(some 2), (.mv (.c (.val (.bool false)))), none⟩] [])
 (.seq
 (.reg false [
   ⟨(some 3), (.fad 3 (.t 1)), none⟩,
   ⟨(some 4), (.ld 1 false (.t 3)), none⟩,
   ⟨(some 5), (.len false (.t 4)), none⟩,
   ⟨(some 6), (.fad 4 (.t 1)), none⟩,
   ⟨(some 7), (.ld 1 false (.t 6)), none⟩,
   ⟨(some 8), (.bin .add 3 false false (.t 5) (.t 7)), none⟩,
   ⟨(some 9), (.fad 5 (.t 1)), none⟩,
   ⟨(some 10), (.ld 1 false (.t 9)), none⟩,
   ⟨(some 11), (.len false (.t 10)), none⟩,
   ⟨(some 12), (.bin .add 3 false false (.t 8) (.t 11)), none⟩,
   ⟨(some 13), (.fad 6 (.t 1)), none⟩,
   ⟨(some 14), (.ld 1 false (.t 13)), none⟩,
   ⟨(some 15), (.len false (.t 14)), none⟩,
   ⟨(some 16), (.bin .add 3 false false (.t 12) (.t 15)), none⟩,
   ⟨(some 17), (.fad 7 (.t 1)), none⟩,
   ⟨(some 18), (.ld 1 false (.t 17)), none⟩,
   ⟨(some 19), (.len false (.t 18)), none⟩,
   ⟨(some 20), (.bin .add 3 false false (.t 16) (.t 19)), none⟩,
   ⟨(some 21), (.fad 9 (.t 1)), none⟩,
   ⟨(some 22), (.ld 1 false (.t 21)), none⟩,
   ⟨(some 23), (.len false (.t 22)), none⟩,
   ⟨(some 24), (.bin .add 3 false false (.t 20) (.t 23)), none⟩,
   ⟨(some 25), (.fad 8 (.t 1)), none⟩,
   ⟨(some 26), (.ld 1 false (.t 25)), none⟩,
   ⟨(some 27), (.len false (.t 26)), none⟩,
   ⟨(some 28), (.bin .add 3 false false (.t 24) (.t 27)), none⟩,
   ⟨(some 29), (.bin .eql 3 false true (.t 28) (.c (.val (.int .i64 0)))), none⟩,
   ⟨(some 30), (.mv (.t 29)), none⟩,
   ⟨(some 31), (.fad 4 (.t 1)), (some (30, true))⟩,
   ⟨(some 32), (.ld 1 false (.t 31)), (some (30, true))⟩,
   ⟨(some 33), (.bin .eql 3 false true (.t 32) (.c (.val (.int .i64 0)))), (some (30, true))⟩,
   ⟨(some 34), (.pick (.t 30) (.t 33) (.c (.val (.bool false)))), none⟩,
   ⟨(some 35), (.mv (.t 34)), none⟩,
   ⟨(some 36), (.fad 10 (.t 1)), (some (35, true))⟩,
   ⟨(some 37), (.ld 1 false (.t 36)), (some (35, true))⟩,
   ⟨(some 38), (.un .not (.t 37)), (some (35, true))⟩,
   ⟨(some 39), (.pick (.t 35) (.t 38) (.c (.val (.bool false)))), none⟩,
   ⟨(some 2), (.mv (.t 39)), none⟩] [])
 .ret)),
 [.tmp 2]⟩

/-- cenotaph/frame.vecRight -/
def c54 : CF := ⟨
 (.seq
 (.reg false [
   ⟨(some 2), (.mv (.c (.val (.bool false)))), none⟩] [])
 (.seq
 (.reg false [
   ⟨(some 3), (.mv (.t 0)), none⟩,
   ⟨(some 4), (.len false (.t 3)), none⟩,
   ⟨(some 5), (.bin .leq 3 false true (.t 4) (.c (.val (.int .i64 64)))), none⟩,
   ⟨(some 6), (.mv (.t 5)), none⟩,
   ⟨(some 7), (.mv (.t 0)), (some (6, true))⟩,
   ⟨(some 8), (.call (.c (.fn 151 [])) [(.t 7)]), (some (6, true))⟩,
   ⟨(some 9), (.pick (.t 6) (.t 8) (.c (.val (.bool false)))), none⟩,
   ⟨(some 2), (.mv (.t 9)), none⟩] [])
 .ret)),
 [.tmp 2]⟩

def L55_0 : CC :=
 (.seq
 (.seq
 (.reg false [
   ⟨(some 5), (.mv (.t 4)), none⟩,
   ⟨(some 6), (.mv (.t 0)), none⟩,
   ⟨(some 7), (.len false (.t 6)), none⟩,
   ⟨(some 8), (.bin .lss 3 false false (.t 5) (.t 7)), none⟩] [])
 (.cond (.t 8)
  .skip
  (.exit 0)))
 (.seq
 (.block 1
  (.reg true [
    ⟨(some 11), (.mv (.t 3)), none⟩,
    ⟨(some 12), (.mv (.t 0)), none⟩,
    ⟨(some 13), (.mv (.t 4)), none⟩,
    ⟨(some 14), (.ias 3 (.t 12) (.t 13)), none⟩,
    ⟨(some 15), (.fad 0 (.t 14)), none⟩,
    ⟨(some 16), (.ld 1 false (.t 15)), none⟩,
    ⟨(some 17), (.mv (.t 0)), none⟩,
    ⟨(some 18), (.mv (.t 4)), none⟩,
    ⟨(some 19), (.ias 3 (.t 17) (.t 18)), none⟩,
    ⟨(some 20), (.fad 1 (.t 19)), none⟩,
    ⟨(some 21), (.ld 2 true (.t 20)), none⟩,
    ⟨(some 22), (.call (.c (.fn 152 [])) [(.t 21)]), none⟩,
    ⟨(some 23), (.build [(.val (.string ⟨#[]⟩)), (.val (.int .i64 0)), (.im [] true)] [(0, 1, (.t 16)), (1, 2, (.t 22))]), none⟩,
    ⟨(some 24), (.bsl 3 1 [(.val (.string ⟨#[]⟩)), (.val (.int .i64 0)), (.im [] true)] [(0, 3, (.t 23))]), none⟩,
    ⟨(some 25), (.app 3 (.t 11) (.t 24)), none⟩,
    ⟨(some 3), (.mv (.t 25)), none⟩] [(5, 11)]))
 (.reg false [
   ⟨(some 9), (.mv (.t 4)), none⟩,
   ⟨(some 10), (.bin .add 3 false true (.t 9) (.c (.val (.int .i64 1)))), none⟩,
   ⟨(some 4), (.mv (.t 10)), none⟩] [])))

/-- cenotaph/cenotaphlaw04.To -/
def c55 : CF := ⟨
 (.seq
 (.reg false [
   ⟨(some 2), (.mv (.c (.im [] true))), none⟩] [])
 (.seq
 (.reg false [
   ⟨(some 3), (.mv (.c (.im [] true))), none⟩] [])
 (.seq
 (.seq
 (.reg false [
   ⟨(some 4), (.mv (.c (.val (.int .i64 0)))), none⟩] [])
 (.block 0
  (.loop L55_0)))
 (.seq
 (.reg false [
   ⟨(some 26), (.mv (.t 3)), none⟩,
   ⟨(some 2), (.mv (.t 26)), none⟩] [])
 .ret)))),
 [.tmp 2]⟩

def L56_0 : CC :=
 (.seq
 (.seq
 (.reg false [
   ⟨(some 5), (.mv (.t 4)), none⟩,
   ⟨(some 6), (.mv (.t 0)), none⟩,
   ⟨(some 7), (.len false (.t 6)), none⟩,
   ⟨(some 8), (.bin .lss 3 false false (.t 5) (.t 7)), none⟩] [])
 (.cond (.t 8)
  .skip
  (.exit 0)))
 (.seq
 (.block 1
  (.reg false [
    ⟨(some 11), (.mv (.t 3)), none⟩,
    ⟨(some 12), (.mv (.t 0)), none⟩,
    ⟨(some 13), (.mv (.t 4)), none⟩,
    ⟨(some 14), (.ias 1 (.t 12) (.t 13)), none⟩,
    ⟨(some 15), (.ld 1 false (.t 14)), none⟩,
    ⟨(some 16), (.bsl 1 1 [(.val (.string ⟨#[]⟩))] [(0, 1, (.t 15))]), none⟩,
    ⟨(some 17), (.app 1 (.t 11) (.t 16)), none⟩,
    ⟨(some 3), (.mv (.t 17)), none⟩] []))
 (.reg false [
   ⟨(some 9), (.mv (.t 4)), none⟩,
   ⟨(some 10), (.bin .add 3 false true (.t 9) (.c (.val (.int .i64 1)))), none⟩,
   ⟨(some 4), (.mv (.t 10)), none⟩] [])))

/-- cenotaph/cenotaphlaw01.To -/
def c56 : CF := ⟨
 (.seq
 (.reg false [
   ⟨(some 2), (.mv (.c (.im [] true))), none⟩] [])
 (.seq
 (.reg false [
   ⟨(some 3), (.mv (.c (.im [] true))), none⟩] [])
 (.seq
 (.seq
 (.reg false [
   ⟨(some 4), (.mv (.c (.val (.int .i64 0)))), none⟩] [])
 (.block 0
  (.loop L56_0)))
 (.seq
 (.reg false [
   ⟨(some 18), (.mv (.t 3)), none⟩,
   ⟨(some 2), (.mv (.t 18)), none⟩] [])
 .ret)))),
 [.tmp 2]⟩

def L57_0 : CC :=
 (.seq
 (.seq
 (.reg false [
   ⟨(some 5), (.mv (.t 4)), none⟩,
   ⟨(some 6), (.mv (.t 0)), none⟩,
   ⟨(some 7), (.len false (.t 6)), none⟩,
   ⟨(some 8), (.bin .lss 3 false false (.t 5) (.t 7)), none⟩] [])
 (.cond (.t 8)
  .skip
  (.exit 0)))
 (.seq
 (.block 1
  (.reg true [
    ⟨(some 11), (.mv (.t 3)), none⟩,
    ⟨(some 12), (.mv (.t 0)), none⟩,
    ⟨(some 13), (.mv (.t 4)), none⟩,
    ⟨(some 14), (.ias 2 (.t 12) (.t 13)), none⟩,
    ⟨(some 15), (.fad 0 (.t 14)), none⟩,
    ⟨(some 16), (.ld 1 false (.t 15)), none⟩,
    ⟨(some 17), (.mv (.t 0)), none⟩,
    ⟨(some 18), (.mv (.t 4)), none⟩,
    ⟨(some 19), (.ias 2 (.t 17) (.t 18)), none⟩,
    ⟨(some 20), (.fad 1 (.t 19)), none⟩,
    ⟨(some 21), (.ld 1 false (.t 20)), none⟩,
    ⟨(some 22), (.build [(.val (.string ⟨#[]⟩)), (.val (.int .i64 0))] [(0, 1, (.t 16)), (1, 1, (.t 21))]), none⟩,
    ⟨(some 23), (.bsl 2 1 [(.val (.string ⟨#[]⟩)), (.val (.int .i64 0))] [(0, 2, (.t 22))]), none⟩,
    ⟨(some 24), (.app 2 (.t 11) (.t 23)), none⟩,
    ⟨(some 3), (.mv (.t 24)), none⟩] []))
 (.reg false [
   ⟨(some 9), (.mv (.t 4)), none⟩,
   ⟨(some 10), (.bin .add 3 false true (.t 9) (.c (.val (.int .i64 1)))), none⟩,
   ⟨(some 4), (.mv (.t 10)), none⟩] [])))

/-- cenotaph/cenotaphlaw03.To -/
def c57 : CF := ⟨
 (.seq
 (.reg false [
   ⟨(some 2), (.mv (.c (.im [] true))), none⟩] [])
 (.seq
 (.reg false [
   ⟨(some 3), (.mv (.c (.im [] true))), none⟩] [])
 (.seq
 (.seq
 (.reg false [
   ⟨(some 4), (.mv (.c (.val (.int .i64 0)))), none⟩] [])
 (.block 0
  (.loop L57_0)))
 (.seq
 (.reg false [
   ⟨(some 25), (.mv (.t 3)), none⟩,
   ⟨(some 2), (.mv (.t 25)), none⟩] [])
 .ret)))),
 [.tmp 2]⟩

def L58_0 : CC :=
 (.seq
 (.seq
 (.reg false [
   ⟨(some 5), (.mv (.t 4)), none⟩,
   ⟨(some 6), (.mv (.t 0)), none⟩,
   ⟨(some 7), (.len false (.t 6)), none⟩,
   ⟨(some 8), (.bin .lss 3 false false (.t 5) (.t 7)), none⟩] [])
 (.cond (.t 8)
  .skip
  (.exit 0)))
 (.seq
 (.block 1
  (.reg true [
    ⟨(some 11), (.mv (.t 3)), none⟩,
    ⟨(some 12), (.mv (.t 0)), none⟩,
    ⟨(some 13), (.mv (.t 4)), none⟩,
    ⟨(some 14), (.ias 2 (.t 12) (.t 13)), none⟩,
    ⟨(some 15), (.fad 0 (.t 14)), none⟩,
    ⟨(some 16), (.ld 1 false (.t 15)), none⟩,
    ⟨(some 17), (.mv (.t 0)), none⟩,
    ⟨(some 18), (.mv (.t 4)), none⟩,
    ⟨(some 19), (.ias 2 (.t 17) (.t 18)), none⟩,
    ⟨(some 20), (.fad 1 (.t 19)), none⟩,
    ⟨(some 21), (.ld 1 false (.t 20)), none⟩,
    ⟨(some 22), (.call (.c (.fn 57 [])) [(.t 21)]), none⟩,
    ⟨(some 23), (.build [(.val (.string ⟨#[]⟩)), (.im [] true)] [(0, 1, (.t 16)), (1, 1, (.t 22))]), none⟩,
    ⟨(some 24), (.bsl 2 1 [(.val (.string ⟨#[]⟩)), (.im [] true)] [(0, 2, (.t 23))]), none⟩,
    ⟨(some 25), (.app 2 (.t 11) (.t 24)), none⟩,
    ⟨(some 3), (.mv (.t 25)), none⟩] [(5, 11)]))
 (.reg false [
   ⟨(some 9), (.mv (.t 4)), none⟩,
   ⟨(some 10), (.bin .add 3 false true (.t 9) (.c (.val (.int .i64 1)))), none⟩,
   ⟨(some 4), (.mv (.t 10)), none⟩] [])))

/-- cenotaph/cenotaphlaw10.To -/
def c58 : CF := ⟨
 (.seq
 (.reg false [
   ⟨(some 2), (.mv (.c (.im [] true))), none⟩] [])
 (.seq
 (.reg false [
   ⟨(some 3), (.mv (.c (.im [] true))), none⟩] [])
 (.seq
 (.seq
 (.reg false [
   ⟨(some 4), (.mv (.c (.val (.int .i64 0)))), none⟩] [])
 (.block 0
  (.loop L58_0)))
 (.seq
 (.reg false [
   ⟨(some 26), (.mv (.t 3)), none⟩,
   ⟨(some 2), (.mv (.t 26)), none⟩] [])
 .ret)))),
 [.tmp 2]⟩

def L59_0 : CC :=
 (.seq
 (.seq
 (.reg false [
   ⟨(some 5), (.mv (.t 4)), none⟩,
   ⟨(some 6), (.mv (.t 0)), none⟩,
   ⟨(some 7), (.len false (.t 6)), none⟩,
   ⟨(some 8), (.bin .lss 3 false false (.t 5) (.t 7)), none⟩] [])
 (.cond (.t 8)
  .skip
  (.exit 0)))
 (.seq
 (.block 1
  (.reg true [
    ⟨(some 11), (.mv (.t 3)), none⟩,
    ⟨(some 12), (.mv (.t 0)), none⟩,
    ⟨(some 13), (.mv (.t 4)), none⟩,
    ⟨(some 14), (.ias 4 (.t 12) (.t 13)), none⟩,
    ⟨(some 15), (.fad 0 (.t 14)), none⟩,
    ⟨(some 16), (.ld 1 false (.t 15)), none⟩,
    ⟨(some 17), (.mv (.t 0)), none⟩,
    ⟨(some 18), (.mv (.t 4)), none⟩,
    ⟨(some 19), (.ias 4 (.t 17) (.t 18)), none⟩,
    ⟨(some 20), (.fad 1 (.t 19)), none⟩,
    ⟨(some 21), (.ld 1 false (.t 20)), none⟩,
    ⟨(some 22), (.mv (.t 0)), none⟩,
    ⟨(some 23), (.mv (.t 4)), none⟩,
    ⟨(some 24), (.ias 4 (.t 22) (.t 23)), none⟩,
    ⟨(some 25), (.fad 2 (.t 24)), none⟩,
    ⟨(some 26), (.ld 1 false (.t 25)), none⟩,
    ⟨(some 27), (.build [(.val (.int .i64 0)), (.val (.int .i64 0))] [(0, 1, (.t 21)), (1, 1, (.t 26))]), none⟩,
    ⟨(some 28), (.call (.c (.fn 129 [])) [(.t 27)]), none⟩,
    ⟨(some 29), (.mv (.t 0)), none⟩,
    ⟨(some 30), (.mv (.t 4)), none⟩,
    ⟨(some 31), (.ias 4 (.t 29) (.t 30)), none⟩,
    ⟨(some 32), (.fad 3 (.t 31)), none⟩,
    ⟨(some 33), (.ld 1 false (.t 32)), none⟩,
    ⟨(some 34), (.cv 3 226 (.t 33)), none⟩,
    ⟨(some 35), (.build [(.val (.int .i64 0)), (.val (.complex .f64 0 0)), (.val (.float .f64 0))] [(0, 1, (.t 16)), (1, 1, (.t 28)), (2, 1, (.t 34))]), none⟩,
    ⟨(some 36), (.bsl 3 1 [(.val (.int .i64 0)), (.val (.complex .f64 0 0)), (.val (.float .f64 0))] [(0, 3, (.t 35))]), none⟩,
    ⟨(some 37), (.app 3 (.t 11) (.t 36)), none⟩,
    ⟨(some 3), (.mv (.t 37)), none⟩] [(5, 17), (17, 22)]))
 (.reg false [
   ⟨(some 9), (.mv (.t 4)), none⟩,
   ⟨(some 10), (.bin .add 3 false true (.t 9) (.c (.val (.int .i64 1)))), none⟩,
   ⟨(some 4), (.mv (.t 10)), none⟩] [])))

/-- cenotaph/cenotaphlaw05.To -/
def c59 : CF := ⟨
 (.seq
 (.reg false [
   ⟨(some 2), (.mv (.c (.im [] true))), none⟩] [])
 (.seq
 (.reg false [
   ⟨(some 3), (.mv (.c (.im [] true))), none⟩] [])
 (.seq
 (.seq
 (.reg false [
   ⟨(some 4), (.mv (.c (.val (.int .i64 0)))), none⟩] [])
 (.block 0
  (.loop L59_0)))
 (.seq
 (.reg false [
   ⟨(some 38), (.mv (.t 3)), none⟩,
   ⟨(some 2), (.mv (.t 38)), none⟩] [])
 .ret)))),
 [.tmp 2]⟩

def L60_0 : CC :=
 (.seq
 (.seq
 (.reg false [
   ⟨(some 5), (.mv (.t 4)), none⟩,
   ⟨(some 6), (.mv (.t 0)), none⟩,
   ⟨(some 7), (.len false (.t 6)), none⟩,
   ⟨(some 8), (.bin .lss 3 false false (.t 5) (.t 7)), none⟩] [])
 (.cond (.t 8)
  .skip
  (.exit 0)))
 (.seq
 (.block 1
  (.reg false [
    ⟨(some 11), (.mv (.t 3)), none⟩,
    ⟨(some 12), (.mv (.t 0)), none⟩,
    ⟨(some 13), (.mv (.t 4)), none⟩,
    ⟨(some 14), (.ias 9 (.t 12) (.t 13)), none⟩,
    ⟨(some 15), (.ld 9 true (.t 14)), none⟩,
    ⟨(some 16), (.call (.c (.fn 153 [])) [(.t 15)]), none⟩,
    ⟨(some 17), (.bsl 8 1 [(.val (.int .i64 0)), (.val (.string ⟨#[]⟩)), (.val (.int .i64 0)), (.val (.int .i64 0)), (.val (.bool false)), (.val (.complex .f64 0 0)), (.val (.string ⟨#[]⟩)), (.val (.bool false))] [(0, 8, (.t 16))]), none⟩,
    ⟨(some 18), (.app 8 (.t 11) (.t 17)), none⟩,
    ⟨(some 3), (.mv (.t 18)), none⟩] []))
 (.reg false [
   ⟨(some 9), (.mv (.t 4)), none⟩,
   ⟨(some 10), (.bin .add 3 false true (.t 9) (.c (.val (.int .i64 1)))), none⟩,
   ⟨(some 4), (.mv (.t 10)), none⟩] [])))

/-- cenotaph/cenotaphlaw08.To -/
def c60 : CF := ⟨
 (.seq
 (.reg false [
   ⟨(some 2), (.mv (.c (.im [] true))), none⟩] [])
 (.seq
 (.reg false [
   ⟨(some 3), (.mv (.c (.im [] true))), none⟩] [])
 (.seq
 (.seq
 (.reg false [
   ⟨(some 4), (.mv (.c (.val (.int .i64 0)))), none⟩] [])
 (.block 0
  (.loop L60_0)))
 (.seq
 (.reg false [
   ⟨(some 19), (.mv (.t 3)), none⟩,
   ⟨(some 2), (.mv (.t 19)), none⟩] [])
 .ret)))),
 [.tmp 2]⟩

def L61_0 : CC :=
 (.seq
 (.seq
 (.reg false [
   ⟨(some 17), (.mv (.t 3)), none⟩,
   ⟨(some 18), (.mv (.t 0)), none⟩,
   ⟨(some 19), (.len true (.t 18)), none⟩,
   ⟨(some 20), (.bin .lss 3 false false (.t 17) (.t 19)), none⟩] [])
 (.cond (.t 20)
  .skip
  (.exit 0)))
 (.seq
 (.block 1
  (.seq
  (.reg false [
    ⟨(some 23), (.mv (.t 0)), none⟩,
    ⟨(some 24), (.mv (.t 3)), none⟩,
    ⟨(some 25), (.ixs (.t 23) (.t 24)), none⟩,
    ⟨(some 26), (.bin .lss 5 false true (.t 25) (.c (.val (.int .u8 49)))), none⟩,
    ⟨(some 27), (.mv (.t 26)), none⟩,
    ⟨(some 28), (.mv (.t 0)), (some (27, false))⟩,
    ⟨(some 29), (.mv (.t 3)), (some (27, false))⟩,
    ⟨(some 30), (.ixs (.t 28) (.t 29)), (some (27, false))⟩,
    ⟨(some 31), (.bin .gtr 5 false true (.t 30) (.c (.val (.int .u8 57)))), (some (27, false))⟩,
    ⟨(some 32), (.pick (.t 27) (.c (.val (.bool true))) (.t 31)), none⟩] [])
  (.cond (.t 32)
   (.seq
   (.reg false [
     ⟨(some 2), (.mv (.c (.val (.bool false)))), none⟩] [])
   .ret)
   .skip)))
 (.reg false [
   ⟨(some 21), (.mv (.t 3)), none⟩,
   ⟨(some 22), (.bin .add 3 false true (.t 21) (.c (.val (.int .i64 1)))), none⟩,
   ⟨(some 3), (.mv (.t 22)), none⟩] [])))

/-- cenotaph/cenotaphref01.Right -/
def c61 : CF := ⟨
 (.seq
 (.reg false [
   ⟨(some 2), (.mv (.c (.val (.bool false)))), none⟩] [])
 (.seq
 (.seq
 (.reg false [
   ⟨(some 4), (.mv (.t 0)), none⟩,
   ⟨(some 5), (.len true (.t 4)), none⟩,
   ⟨(some 6), (.bin .lss 3 false true (.t 5) (.c (.val (.int .i64 1)))), none⟩,
   ⟨(some 7), (.mv (.t 6)), none⟩,
   ⟨(some 8), (.mv (.t 0)), (some (7, false))⟩,
   ⟨(some 9), (.len true (.t 8)), (some (7, false))⟩,
   ⟨(some 10), (.bin .gtr 3 false true (.t 9) (.c (.val (.int .i64 6)))), (some (7, false))⟩,
   ⟨(some 11), (.pick (.t 7) (.c (.val (.bool true))) (.t 10)), none⟩,
   ⟨(some 12), (.mv (.t 11)), none⟩,
   ⟨(some 13), (.mv (.t 0)), (some (12, false))⟩,
   ⟨(some 14), (.ixs (.t 13) (.c (.val (.int .i64 0)))), (some (12, false))⟩,
   ⟨(some 15), (.bin .neq 5 false true (.t 14) (.c (.val (.int .u8 48)))), (some (12, false))⟩,
   ⟨(some 16), (.pick (.t 12) (.c (.val (.bool true))) (.t 15)), none⟩] [])
 (.cond (.t 16)
  (.seq
  (.reg false [
    ⟨(some 2), (.mv (.c (.val (.bool false)))), none⟩] [])
  .ret)
  .skip))
 (.seq
 (.seq
 (.reg false [
   ⟨(some 3), (.mv (.c (.val (.int .i64 1)))), none⟩] [])
 (.block 0
  (.loop L61_0)))
 (.seq
 (.reg false [
   ⟨(some 2), (.mv (.c (.val (.bool true)))), none⟩] [])
 .ret)))),
 [.tmp 2]⟩

def L62_0 : CC :=
 (.seq
 (.seq
 (.reg false [
   ⟨(some 62), (.mv (.t 3)), none⟩,
   ⟨(some 63), (.fad 5 (.t 1)), none⟩,
   ⟨(some 64), (.ld 1 false (.t 63)), none⟩,
   ⟨(some 65), (.len false (.t 64)), none⟩,
   ⟨(some 66), (.bin .lss 3 false false (.t 62) (.t 65)), none⟩] [])
 (.cond (.t 66)
  .skip
  (.exit 0)))
 (.seq
 (.block 1
  (.seq
  (.reg true [
    ⟨(some 69), (.fad 5 (.t 1)), none⟩,
    ⟨(some 70), (.ld 1 false (.t 69)), none⟩,
    ⟨(some 71), (.mv (.t 3)), none⟩,
    ⟨(some 72), (.ias 1 (.t 70) (.t 71)), none⟩,
    ⟨(some 73), (.ld 1 false (.t 72)), none⟩,
    ⟨(some 74), (.call (.c (.fn 61 [])) [(.t 73)]), none⟩,
    ⟨(some 75), (.un .not (.t 74)), none⟩,
    ⟨(some 76), (.mv (.t 75)), none⟩,
    ⟨(some 77), (.mv (.t 3)), (some (76, false))⟩,
    ⟨(some 78), (.bin .gtr 3 false true (.t 77) (.c (.val (.int .i64 0)))), (some (76, false))⟩,
    ⟨(some 79), (.mv (.t 78)), (some (76, false))⟩,
    ⟨(some 80), (.fad 5 (.t 1)), (some (79, true))⟩,
    ⟨(some 81), (.ld 1 false (.t 80)), (some (79, true))⟩,
    ⟨(some 82), (.mv (.t 3)), (some (79, true))⟩,
    ⟨(some 83), (.bin .sub 3 false true (.t 82) (.c (.val (.int .i64 1)))), (some (79, true))⟩,
    ⟨(some 84), (.ias 1 (.t 81) (.t 83)), (some (79, true))⟩,
    ⟨(some 85), (.ld 1 false (.t 84)), (some (79, true))⟩,
    ⟨(some 86), (.fad 5 (.t 1)), (some (79, true))⟩,
    ⟨(some 87), (.ld 1 false (.t 86)), (some (79, true))⟩,
    ⟨(some 88), (.mv (.t 3)), (some (79, true))⟩,
    ⟨(some 89), (.ias 1 (.t 87) (.t 88)), (some (79, true))⟩,
    ⟨(some 90), (.ld 1 false (.t 89)), (some (79, true))⟩,
    ⟨(some 91), (.call (.c (.fn 156 [])) [(.t 85), (.t 90)]), (some (79, true))⟩,
    ⟨(some 92), (.bin .geq 3 false true (.t 91) (.c (.val (.int .i64 0)))), (some (79, true))⟩,
    ⟨(some 93), (.pick (.t 79) (.t 92) (.c (.val (.bool false)))), (some (76, false))⟩,
    ⟨(some 94), (.pick (.t 76) (.c (.val (.bool true))) (.t 93)), none⟩] [])
  (.cond (.t 94)
   (.seq
   (.reg false [
     ⟨(some 2), (.mv (.c (.val (.bool false)))), none⟩] [])
   .ret)
   .skip)))
 (.reg false [
   ⟨(some 67), (.mv (.t 3)), none⟩,
   ⟨(some 68), (.bin .add 3 false true (.t 67) (.c (.val (.int .i64 1)))), none⟩,
   ⟨(some 3), (.mv (.t 68)), none⟩] [])))

def L62_1 : CC :=
 (.seq
 (.seq
 (.reg false [
   ⟨(some 95), (.mv (.t 4)), none⟩,
   ⟨(some 96), (.fad 7 (.t 1)), none⟩,
   ⟨(some 97), (.ld 1 false (.t 96)), none⟩,
   ⟨(some 98), (.len false (.t 97)), none⟩,
   ⟨(some 99), (.bin .lss 3 false false (.t 95) (.t 98)), none⟩] [])
 (.cond (.t 99)
  .skip
  (.exit 2)))
 (.seq
 (.block 3
  (.seq
  (.reg false [
    ⟨(some 102), (.fad 7 (.t 1)), none⟩,
    ⟨(some 103), (.ld 1 false (.t 102)), none⟩,
    ⟨(some 104), (.mv (.t 4)), none⟩,
    ⟨(some 105), (.ias 2 (.t 103) (.t 104)), none⟩,
    ⟨(some 106), (.fad 1 (.t 105)), none⟩,
    ⟨(some 107), (.ld 1 false (.t 106)), none⟩,
    ⟨(some 108), (.len false (.t 107)), none⟩,
    ⟨(some 109), (.bin .gtr 3 false true (.t 108) (.c (.val (.int .i64 64)))), none⟩] [])
  (.cond (.t 109)
   (.seq
   (.reg false [
     ⟨(some 2), (.mv (.c (.val (.bool false)))), none⟩] [])
   .ret)
   .skip)))
 (.reg false [
   ⟨(some 100), (.mv (.t 4)), none⟩,
   ⟨(some 101), (.bin .add 3 false true (.t 100) (.c (.val (.int .i64 1)))), none⟩,
   ⟨(some 4), (.mv (.t 101)), none⟩] [])))

def L62_2 : CC :=
 (.seq
 (.seq
 (.reg false [
   ⟨(some 110), (.mv (.t 5)), none⟩,
   ⟨(some 111), (.fad 9 (.t 1)), none⟩,
   ⟨(some 112), (.ld 1 false (.t 111)), none⟩,
   ⟨(some 113), (.len false (.t 112)), none⟩,
   ⟨(some 114), (.bin .lss 3 false false (.t 110) (.t 113)), none⟩] [])
 (.cond (.t 114)
  .skip
  (.exit 4)))
 (.seq
 (.block 5
  (.seq
  (.reg false [
    ⟨(some 117), (.fad 9 (.t 1)), none⟩,
    ⟨(some 118), (.ld 1 false (.t 117)), none⟩,
    ⟨(some 119), (.mv (.t 5)), none⟩,
    ⟨(some 120), (.ias 9 (.t 118) (.t 119)), none⟩,
    ⟨(some 121), (.ld 9 true (.t 120)), none⟩,
    ⟨(some 122), (.call (.c (.fn 157 [])) [(.t 121)]), none⟩,
    ⟨(some 123), (.un .not (.t 122)), none⟩,
    ⟨(some 124), (.mv (.t 123)), none⟩,
    ⟨(some 125), (.fad 0 (.t 1)), (some (124, false))⟩,
    ⟨(some 126), (.ld 1 false (.t 125)), (some (124, false))⟩,
    ⟨(some 127), (.bin .eql 3 false true (.t 126) (.c (.val (.int .i64 1)))), (some (124, false))⟩,
    ⟨(some 128), (.mv (.t 127)), (some (124, false))⟩,
    ⟨(some 129), (.fad 9 (.t 1)), (some (128, true))⟩,
    ⟨(some 130), (.ld 1 false (.t 129)), (some (128, true))⟩,
    ⟨(some 131), (.mv (.t 5)), (some (128, true))⟩,
    ⟨(some 132), (.ias 9 (.t 130) (.t 131)), (some (128, true))⟩,
    ⟨(some 133), (.fad 4 (.t 132)), (some (128, true))⟩,
    ⟨(some 134), (.ld 1 false (.t 133)), (some (128, true))⟩,
    ⟨(some 135), (.mv (.t 134)), (some (128, true))⟩,
    ⟨(some 136), (.fad 9 (.t 1)), (some (135, false))⟩,
    ⟨(some 137), (.ld 1 false (.t 136)), (some (135, false))⟩,
    ⟨(some 138), (.mv (.t 5)), (some (135, false))⟩,
    ⟨(some 139), (.ias 9 (.t 137) (.t 138)), (some (135, false))⟩,
    ⟨(some 140), (.fad 8 (.t 139)), (some (135, false))⟩,
    ⟨(some 141), (.ld 1 false (.t 140)), (some (135, false))⟩,
    ⟨(some 142), (.pick (.t 135) (.c (.val (.bool true))) (.t 141)), (some (128, true))⟩,
    ⟨(some 143), (.pick (.t 128) (.t 142) (.c (.val (.bool false)))), (some (124, false))⟩,
    ⟨(some 144), (.pick (.t 124) (.c (.val (.bool true))) (.t 143)), none⟩] [])
  (.cond (.t 144)
   (.seq
   (.reg false [
     ⟨(some 2), (.mv (.c (.val (.bool false)))), none⟩] [])
   .ret)
   .skip)))
 (.reg false [
   ⟨(some 115), (.mv (.t 5)), none⟩,
   ⟨(some 116), (.bin .add 3 false true (.t 115) (.c (.val (.int .i64 1)))), none⟩,
   ⟨(some 5), (.mv (.t 116)), none⟩] [])))

/-- cenotaph/cenotaphref12.lists -/
def c62 : CF := ⟨
 (.seq
 (.reg false [
   ⟨(some 1), (.box (.t 0)), none⟩,
   ⟨(some 2), (.mv (.c (.val (.bool false)))), none⟩] [])
 (.seq
 (.seq
 (.reg false [
   ⟨(some 6), (.fad 3 (.t 1)), none⟩,
   ⟨(some 7), (.ld 1 false (.t 6)), none⟩,
   ⟨(some 8), (.len false (.t 7)), none⟩,
   ⟨(some 9), (.bin .gtr 3 false true (.t 8) (.c (.val (.int .i64 64)))), none⟩,
   ⟨(some 10), (.mv (.t 9)), none⟩,
   ⟨(some 11), (.fad 3 (.t 1)), (some (10, false))⟩,
   ⟨(some 12), (.ld 1 false (.t 11)), (some (10, false))⟩,
   ⟨(some 13), (.call (.c (.fn 154 [])) [(.t 12)]), (some (10, false))⟩,
   ⟨(some 14), (.un .not (.t 13)), (some (10, false))⟩,
   ⟨(some 15), (.pick (.t 10) (.c (.val (.bool true))) (.t 14)), none⟩,
   ⟨(some 16), (.mv (.t 15)), none⟩,
   ⟨(some 17), (.fad 4 (.t 1)), (some (16, false))⟩,
   ⟨(some 18), (.ld 1 false (.t 17)), (some (16, false))⟩,
   ⟨(some 19), (.bin .lss 3 false true (.t 18) (.c (.val (.int .i64 0)))), (some (16, false))⟩,
   ⟨(some 20), (.pick (.t 16) (.c (.val (.bool true))) (.t 19)), none⟩,
   ⟨(some 21), (.mv (.t 20)), none⟩,
   ⟨(some 22), (.fad 4 (.t 1)), (some (21, false))⟩,
   ⟨(some 23), (.ld 1 false (.t 22)), (some (21, false))⟩,
   ⟨(some 24), (.bin .gtr 3 false true (.t 23) (.c (.val (.int .i64 1048576)))), (some (21, false))⟩,
   ⟨(some 25), (.pick (.t 21) (.c (.val (.bool true))) (.t 24)), none⟩,
   ⟨(some 26), (.mv (.t 25)), none⟩,
   ⟨(some 27), (.fad 5 (.t 1)), (some (26, false))⟩,
   ⟨(some 28), (.ld 1 false (.t 27)), (some (26, false))⟩,
   ⟨(some 29), (.len false (.t 28)), (some (26, false))⟩,
   ⟨(some 30), (.bin .gtr 3 false true (.t 29) (.c (.val (.int .i64 64)))), (some (26, false))⟩,
   ⟨(some 31), (.pick (.t 26) (.c (.val (.bool true))) (.t 30)), none⟩,
   ⟨(some 32), (.mv (.t 31)), none⟩,
   ⟨(some 33), (.fad 6 (.t 1)), (some (32, false))⟩,
   ⟨(some 34), (.ld 1 false (.t 33)), (some (32, false))⟩,
   ⟨(some 35), (.call (.c (.fn 64 [])) [(.t 34)]), (some (32, false))⟩,
   ⟨(some 36), (.un .not (.t 35)), (some (32, false))⟩,
   ⟨(some 37), (.pick (.t 32) (.c (.val (.bool true))) (.t 36)), none⟩,
   ⟨(some 38), (.mv (.t 37)), none⟩,
   ⟨(some 39), (.fad 7 (.t 1)), (some (38, false))⟩,
   ⟨(some 40), (.ld 1 false (.t 39)), (some (38, false))⟩,
   ⟨(some 41), (.len false (.t 40)), (some (38, false))⟩,
   ⟨(some 42), (.bin .gtr 3 false true (.t 41) (.c (.val (.int .i64 64)))), (some (38, false))⟩,
   ⟨(some 43), (.pick (.t 38) (.c (.val (.bool true))) (.t 42)), none⟩,
   ⟨(some 44), (.mv (.t 43)), none⟩,
   ⟨(some 45), (.fad 7 (.t 1)), (some (44, false))⟩,
   ⟨(some 46), (.ld 1 false (.t 45)), (some (44, false))⟩,
   ⟨(some 47), (.call (.c (.fn 155 [])) [(.t 46)]), (some (44, false))⟩,
   ⟨(some 48), (.un .not (.t 47)), (some (44, false))⟩,
   ⟨(some 49), (.pick (.t 44) (.c (.val (.bool true))) (.t 48)), none⟩,
   ⟨(some 50), (.mv (.t 49)), none⟩,
   ⟨(some 51), (.fad 9 (.t 1)), (some (50, false))⟩,
   ⟨(some 52), (.ld 1 false (.t 51)), (some (50, false))⟩,
   ⟨(some 53), (.len false (.t 52)), (some (50, false))⟩,
   ⟨(some 54), (.bin .gtr 3 false true (.t 53) (.c (.val (.int .i64 32)))), (some (50, false))⟩,
   ⟨(some 55), (.pick (.t 50) (.c (.val (.bool true))) (.t 54)), none⟩,
   ⟨(some 56), (.mv (.t 55)), none⟩,
   ⟨(some 57), (.fad 11 (.t 1)), (some (56, false))⟩,
   ⟨(some 58), (.ld 1 false (.t 57)), (some (56, false))⟩,
   ⟨(some 59), (.len false (.t 58)), (some (56, false))⟩,
   ⟨(some 60), (.bin .gtr 3 false true (.t 59) (.c (.val (.int .i64 0)))), (some (56, false))⟩,
   ⟨(some 61), (.pick (.t 56) (.c (.val (.bool true))) (.t 60)), none⟩] [])
 (.cond (.t 61)
  (.seq
  (.reg false [
    ⟨(some 2), (.mv (.c (.val (.bool false)))), none⟩] [])
  .ret)
  .skip))
 (.seq
 (.seq
 (.reg false [
   ⟨(some 3), (.mv (.c (.val (.int .i64 0)))), none⟩] [])
 (.block 0
  (.loop L62_0)))
 (.seq
 (.seq
 (.reg false [
   ⟨(some 4), (.mv (.c (.val (.int .i64 0)))), none⟩] [])
 (.block 2
  (.loop L62_1)))
 (.seq
 (.seq
 (.reg false [
   ⟨(some 5), (.mv (.c (.val (.int .i64 0)))), none⟩] [])
 (.block 4
  (.loop L62_2)))
 (.seq
 (.reg false [
   ⟨(some 2), (.mv (.c (.val (.bool true)))), none⟩] [])
 .ret)))))),
 [.tmp 2]⟩

def L63_0 : CC :=
 (.seq
 (.seq
 (.reg false [
   ⟨(some 14), (.mv (.t 4)), none⟩,
   ⟨(some 15), (.mv (.t 0)), none⟩,
   ⟨(some 16), (.len false (.t 15)), none⟩,
   ⟨(some 17), (.bin .lss 3 false false (.t 14) (.t 16)), none⟩] [])
 (.cond (.t 17)
  .skip
  (.exit 0)))
 (.seq
 (.block 1
  (.seq
  (.reg false [
    ⟨(some 20), (.mv (.t 0)), none⟩,
    ⟨(some 21), (.mv (.t 4)), none⟩,
    ⟨(some 22), (.ias 4 (.t 20) (.t 21)), none⟩,
    ⟨(some 23), (.ld 4 true (.t 22)), none⟩,
    ⟨(some 5), (.alloc [(.val (.int .i64 0)), (.val (.int .i64 0)), (.val (.int .i64 0)), (.val (.int .i64 0))]), none⟩,
    ⟨none, (.st 4 (.t 5) (.t 23)), none⟩] [])
  (.seq
  (.reg false [
    ⟨(some 24), (.fad 0 (.t 5)), none⟩,
    ⟨(some 25), (.ld 1 false (.t 24)), none⟩] [])
  (.block 2
   (.seq
   (.reg false [
     ⟨(some 27), (.bin .eql 3 false true (.t 25) (.c (.val (.int .i64 2)))), none⟩,
     ⟨(some 26), (.mv (.t 27)), none⟩] [])
   (.cond (.t 26)
    (.seq
    (.seq
    (.reg false [
      ⟨(some 28), (.fad 1 (.t 5)), none⟩,
      ⟨(some 29), (.ld 1 false (.t 28)), none⟩,
      ⟨(some 30), (.fad 2 (.t 5)), none⟩,
      ⟨(some 31), (.ld 1 false (.t 30)), none⟩,
      ⟨(some 32), (.build [(.val (.int .i64 0)), (.val (.int .i64 0))] [(0, 1, (.t 29)), (1, 1, (.t 31))]), none⟩,
      ⟨(some 33), (.call (.c (.fn 136 [])) [(.t 32)]), none⟩,
      ⟨(some 34), (.un .not (.t 33)), none⟩,
      ⟨(some 35), (.mv (.t 34)), none⟩,
      ⟨(some 36), (.fad 3 (.t 5)), (some (35, false))⟩,
      ⟨(some 37), (.ld 1 false (.t 36)), (some (35, false))⟩,
      ⟨(some 38), (.bin .lss 3 false true (.t 37) (.c (.val (.int .i64 0)))), (some (35, false))⟩,
      ⟨(some 39), (.pick (.t 35) (.c (.val (.bool true))) (.t 38)), none⟩,
      ⟨(some 40), (.mv (.t 39)), none⟩,
      ⟨(some 41), (.fad 3 (.t 5)), (some (40, false))⟩,
      ⟨(some 42), (.ld 1 false (.t 41)), (some (40, false))⟩,
      ⟨(some 43), (.bin .gtr 3 false true (.t 42) (.c (.val (.int .i64 2000)))), (some (40, false))⟩,
      ⟨(some 44), (.pick (.t 40) (.c (.val (.bool true))) (.t 43)), none⟩] [])
    (.cond (.t 44)
     (.seq
     (.reg false [
       ⟨(some 2), (.mv (.c (.val (.bool false)))), none⟩] [])
     .ret)
     .skip))
    (.reg false [
      ⟨(some 45), (.mv (.t 3)), none⟩,
      ⟨(some 46), (.bin .add 3 false true (.t 45) (.c (.val (.int .i64 1)))), none⟩,
      ⟨(some 3), (.mv (.t 46)), none⟩] []))
    (.seq
    (.reg false [
      ⟨(some 48), (.bin .eql 3 false true (.t 25) (.c (.val (.int .i64 3)))), none⟩,
      ⟨(some 47), (.mv (.t 48)), none⟩] [])
    (.cond (.t 47)
     (.seq
     (.seq
     (.reg false [
       ⟨(some 49), (.fad 1 (.t 5)), none⟩,
       ⟨(some 50), (.ld 1 false (.t 49)), none⟩,
       ⟨(some 51), (.fad 2 (.t 5)), none⟩,
       ⟨(some 52), (.ld 1 false (.t 51)), none⟩,
       ⟨(some 53), (.build [(.val (.int .i64 0)), (.val (.int .i64 0))] [(0, 1, (.t 50)), (1, 1, (.t 52))]), none⟩,
       ⟨(some 54), (.call (.c (.fn 136 [])) [(.t 53)]), none⟩,
       ⟨(some 55), (.un .not (.t 54)), none⟩,
       ⟨(some 56), (.mv (.t 55)), none⟩,
       ⟨(some 57), (.fad 3 (.t 5)), (some (56, false))⟩,
       ⟨(some 58), (.ld 1 false (.t 57)), (some (56, false))⟩,
       ⟨(some 59), (.call (.c (.fn 158 [])) [(.t 58), (.c (.val (.int .i64 2000000)))]), (some (56, false))⟩,
       ⟨(some 60), (.un .not (.t 59)), (some (56, false))⟩,
       ⟨(some 61), (.pick (.t 56) (.c (.val (.bool true))) (.t 60)), none⟩] [])
     (.cond (.t 61)
      (.seq
      (.reg false [
        ⟨(some 2), (.mv (.c (.val (.bool false)))), none⟩] [])
      .ret)
      .skip))
     (.reg false [
       ⟨(some 62), (.mv (.t 3)), none⟩,
       ⟨(some 63), (.bin .add 3 false true (.t 62) (.c (.val (.int .i64 1)))), none⟩,
       ⟨(some 3), (.mv (.t 63)), none⟩] []))
     (.seq
     (.seq
     (.reg false [
       ⟨(some 65), (.bin .eql 3 false true (.t 25) (.c (.val (.int .i64 1)))), none⟩,
       ⟨(some 64), (.mv (.t 65)), none⟩] [])
     (.cond (.t 64)
      .skip
      (.seq
      (.reg false [
        ⟨(some 66), (.bin .eql 3 false true (.t 25) (.c (.val (.int .i64 4)))), none⟩,
        ⟨(some 64), (.mv (.t 66)), none⟩] [])
      (.cond (.t 64)
       .skip
       (.seq
       (.reg false [
         ⟨(some 67), (.bin .eql 3 false true (.t 25) (.c (.val (.int .i64 5)))), none⟩,
         ⟨(some 64), (.mv (.t 67)), none⟩] [])
       (.cond (.t 64)
        .skip
        (.reg false [
          ⟨(some 68), (.bin .eql 3 false true (.t 25) (.c (.val (.int .i64 6)))), none⟩,
          ⟨(some 64), (.mv (.t 68)), none⟩] [])))))))
     (.cond (.t 64)
      (.seq
      (.seq
      (.reg false [
        ⟨(some 69), (.fad 1 (.t 5)), none⟩,
        ⟨(some 70), (.ld 1 false (.t 69)), none⟩,
        ⟨(some 71), (.bin .neq 3 false true (.t 70) (.c (.val (.int .i64 0)))), none⟩,
        ⟨(some 72), (.mv (.t 71)), none⟩,
        ⟨(some 73), (.fad 2 (.t 5)), (some (72, false))⟩,
        ⟨(some 74), (.ld 1 false (.t 73)), (some (72, false))⟩,
        ⟨(some 75), (.bin .neq 3 false true (.t 74) (.c (.val (.int .i64 0)))), (some (72, false))⟩,
        ⟨(some 76), (.pick (.t 72) (.c (.val (.bool true))) (.t 75)), none⟩,
        ⟨(some 77), (.mv (.t 76)), none⟩,
        ⟨(some 78), (.fad 3 (.t 5)), (some (77, false))⟩,
        ⟨(some 79), (.ld 1 false (.t 78)), (some (77, false))⟩,
        ⟨(some 80), (.bin .neq 3 false true (.t 79) (.c (.val (.int .i64 0)))), (some (77, false))⟩,
        ⟨(some 81), (.pick (.t 77) (.c (.val (.bool true))) (.t 80)), none⟩] [])
      (.cond (.t 81)
       (.seq
       (.reg false [
         ⟨(some 2), (.mv (.c (.val (.bool false)))), none⟩] [])
       .ret)
       .skip))
      (.seq
      (.seq
      (.reg false [
        ⟨(some 82), (.fad 0 (.t 5)), none⟩,
        ⟨(some 83), (.ld 1 false (.t 82)), none⟩,
        ⟨(some 84), (.bin .eql 3 false true (.t 83) (.c (.val (.int .i64 1)))), none⟩] [])
      (.cond (.t 84)
       (.reg false [
         ⟨(some 85), (.mv (.t 3)), none⟩,
         ⟨(some 86), (.bin .add 3 false true (.t 85) (.c (.val (.int .i64 1)))), none⟩,
         ⟨(some 3), (.mv (.t 86)), none⟩] [])
       .skip))
      (.seq
      (.seq
      (.reg false [
        ⟨(some 87), (.fad 0 (.t 5)), none⟩,
        ⟨(some 88), (.ld 1 false (.t 87)), none⟩,
        ⟨(some 89), (.bin .eql 3 false true (.t 88) (.c (.val (.int .i64 4)))), none⟩,
        ⟨(some 90), (.mv (.t 89)), none⟩,
        ⟨(some 91), (.mv (.t 3)), (some (90, true))⟩,
        ⟨(some 92), (.bin .lss 3 false true (.t 91) (.c (.val (.int .i64 1)))), (some (90, true))⟩,
        ⟨(some 93), (.pick (.t 90) (.t 92) (.c (.val (.bool false)))), none⟩,
        ⟨(some 94), (.mv (.t 93)), none⟩,
        ⟨(some 95), (.fad 0 (.t 5)), (some (94, false))⟩,
        ⟨(some 96), (.ld 1 false (.t 95)), (some (94, false))⟩,
        ⟨(some 97), (.bin .gtr 3 false true (.t 96) (.c (.val (.int .i64 4)))), (some (94, false))⟩,
        ⟨(some 98), (.mv (.t 97)), (some (94, false))⟩,
        ⟨(some 99), (.mv (.t 3)), (some (98, true))⟩,
        ⟨(some 100), (.bin .lss 3 false true (.t 99) (.c (.val (.int .i64 2)))), (some (98, true))⟩,
        ⟨(some 101), (.pick (.t 98) (.t 100) (.c (.val (.bool false)))), (some (94, false))⟩,
        ⟨(some 102), (.pick (.t 94) (.c (.val (.bool true))) (.t 101)), none⟩] [])
      (.cond (.t 102)
       (.seq
       (.reg false [
         ⟨(some 2), (.mv (.c (.val (.bool false)))), none⟩] [])
       .ret)
       .skip))
      (.seq
      (.reg false [
        ⟨(some 103), (.fad 0 (.t 5)), none⟩,
        ⟨(some 104), (.ld 1 false (.t 103)), none⟩,
        ⟨(some 105), (.bin .gtr 3 false true (.t 104) (.c (.val (.int .i64 4)))), none⟩] [])
      (.cond (.t 105)
       (.reg false [
         ⟨(some 106), (.mv (.t 3)), none⟩,
         ⟨(some 107), (.bin .sub 3 false true (.t 106) (.c (.val (.int .i64 1)))), none⟩,
         ⟨(some 3), (.mv (.t 107)), none⟩] [])
       .skip)))))
      (.seq
      (.reg false [
        ⟨(some 2), (.mv (.c (.val (.bool false)))), none⟩] [])
      .ret)))))))))))
 (.reg false [
   ⟨(some 18), (.mv (.t 4)), none⟩,
   ⟨(some 19), (.bin .add 3 false true (.t 18) (.c (.val (.int .i64 1)))), none⟩,
   ⟨(some 4), (.mv (.t 19)), none⟩] [])))

/-- cenotaph/cenotaphref05.Right -/
def c63 : CF := ⟨
 (.seq
 (.reg false [
   ⟨(some 2), (.mv (.c (.val (.bool false)))), none⟩] [])
 (.seq
 (.seq
 (.reg false [
   ⟨(some 6), (.mv (.t 0)), none⟩,
   ⟨(some 7), (.len false (.t 6)), none⟩,
   ⟨(some 8), (.bin .lss 3 false true (.t 7) (.c (.val (.int .i64 1)))), none⟩,
   ⟨(some 9), (.mv (.t 8)), none⟩,
   ⟨(some 10), (.mv (.t 0)), (some (9, false))⟩,
   ⟨(some 11), (.len false (.t 10)), (some (9, false))⟩,
   ⟨(some 12), (.bin .gtr 3 false true (.t 11) (.c (.val (.int .i64 32)))), (some (9, false))⟩,
   ⟨(some 13), (.pick (.t 9) (.c (.val (.bool true))) (.t 12)), none⟩] [])
 (.cond (.t 13)
  (.seq
  (.reg false [
    ⟨(some 2), (.mv (.c (.val (.bool false)))), none⟩] [])
  .ret)
  .skip))
 (.seq
 (.reg false [
   ⟨(some 3), (.mv (.c (.val (.int .i64 0)))), none⟩] [])
 (.seq
 (.seq
 (.reg false [
   ⟨(some 4), (.mv (.c (.val (.int .i64 0)))), none⟩] [])
 (.block 0
  (.loop L63_0)))
 (.seq
 (.reg false [
   ⟨(some 108), (.mv (.t 3)), none⟩,
   ⟨(some 109), (.bin .eql 3 false true (.t 108) (.c (.val (.int .i64 1)))), none⟩,
   ⟨(some 2), (.mv (.t 109)), none⟩] [])
 .ret))))),
 [.tmp 2]⟩

/-- cenotaph/cenotaphref12.vecRight -/
def c64 : CF := ⟨
 (.seq
 (.reg false [
   ⟨(some 2), (.mv (.c (.val (.bool false)))), none⟩] [])
 (.seq
 (.reg false [
   ⟨(some 3), (.mv (.t 0)), none⟩,
   ⟨(some 4), (.len false (.t 3)), none⟩,
   ⟨(some 5), (.bin .leq 3 false true (.t 4) (.c (.val (.int .i64 64)))), none⟩,
   ⟨(some 6), (.mv (.t 5)), none⟩,
   ⟨(some 7), (.mv (.t 0)), (some (6, true))⟩,
   ⟨(some 8), (.call (.c (.fn 159 [])) [(.t 7)]), (some (6, true))⟩,
   ⟨(some 9), (.pick (.t 6) (.t 8) (.c (.val (.bool false)))), none⟩,
   ⟨(some 2), (.mv (.t 9)), none⟩] [])
 .ret)),
 [.tmp 2]⟩

/-- cenotaph/frame.putId -/
def c65 : CF := ⟨
 (.seq
 (.reg false [
   ⟨(some 4), (.mv (.c (.im [] true))), none⟩] [])
 (.seq
 (.reg false [
   ⟨(some 5), (.mv (.t 0)), none⟩,
   ⟨(some 6), (.mv (.t 1)), none⟩,
   ⟨(some 7), (.call (.c (.fn 70 [])) [(.t 5), (.t 6)]), none⟩,
   ⟨(some 4), (.mv (.t 7)), none⟩] [])
 .ret)),
 [.tmp 4]⟩

def L66_0 : CC :=
 (.seq
 (.seq
 (.reg false [
   ⟨(some 10), (.mv (.t 1)), none⟩,
   ⟨(some 11), (.bin .geq 3 false true (.t 10) (.c (.val (.int .i64 128)))), none⟩] [])
 (.cond (.t 11)
  .skip
  (.exit 0)))
 (.seq
 (.block 1
  (.reg false [
    ⟨(some 14), (.mv (.t 5)), none⟩,
    ⟨(some 15), (.mv (.t 1)), none⟩,
    ⟨(some 16), (.cv 3 5 (.t 15)), none⟩,
    ⟨(some 17), (.bin .or 5 false true (.t 16) (.c (.val (.int .u8 128)))), none⟩,
    ⟨(some 18), (.bsl 1 1 [(.val (.int .u8 0))] [(0, 1, (.t 17))]), none⟩,
    ⟨(some 19), (.app 1 (.t 14) (.t 18)), none⟩,
    ⟨(some 5), (.mv (.t 19)), none⟩] []))
 (.reg false [
   ⟨(some 12), (.mv (.t 1)), none⟩,
   ⟨(some 13), (.bin .shr 3 false true (.t 12) (.c (.val (.int .u64 7)))), none⟩,
   ⟨(some 1), (.mv (.t 13)), none⟩] [])))

/-- cenotaph/wire.Put -/
def c66 : CF := ⟨
 (.seq
 (.reg false [
   ⟨(some 4), (.mv (.c (.im [] true))), none⟩] [])
 (.seq
 (.reg false [
   ⟨(some 6), (.mv (.t 0)), none⟩,
   ⟨(some 7), (.call (.c (.fn 119 [])) [(.t 6)]), none⟩,
   ⟨(some 5), (.mv (.t 7)), none⟩] [])
 (.seq
 (.seq
 (.reg false [
   ⟨(some 8), (.mv (.t 1)), none⟩,
   ⟨(some 9), (.fun_ .max #[3, 3] 3 [(.t 8), (.c (.val (.int .i64 0)))]), none⟩,
   ⟨(some 1), (.mv (.t 9)), none⟩] [])
 (.block 0
  (.loop L66_0)))
 (.seq
 (.reg false [
   ⟨(some 20), (.mv (.t 5)), none⟩,
   ⟨(some 21), (.mv (.t 1)), none⟩,
   ⟨(some 22), (.cv 3 5 (.t 21)), none⟩,
   ⟨(some 23), (.bsl 1 1 [(.val (.int .u8 0))] [(0, 1, (.t 22))]), none⟩,
   ⟨(some 24), (.app 1 (.t 20) (.t 23)), none⟩,
   ⟨(some 4), (.mv (.t 24)), none⟩] [])
 .ret)))),
 [.tmp 4]⟩

def L67_0 : CC :=
 (.seq
 (.reg false [
   ⟨(some 14), (.bin .lss 3 false false (.t 13) (.t 12)), none⟩] [])
 (.seq
 (.cond (.t 14)
  .skip
  (.exit 0))
 (.seq
 (.block 1
  (.seq
  (.reg false [
    ⟨(some 15), (.ias 2 (.t 11) (.t 13)), none⟩,
    ⟨(some 16), (.ld 2 true (.t 15)), none⟩,
    ⟨(some 6), (.alloc [(.val (.string ⟨#[]⟩)), (.val (.int .i64 0))]), none⟩,
    ⟨none, (.st 2 (.t 6) (.t 16)), none⟩] [])
  (.reg true [
    ⟨(some 17), (.mv (.t 0)), none⟩,
    ⟨(some 18), (.fad 0 (.t 6)), none⟩,
    ⟨(some 19), (.ld 1 false (.t 18)), none⟩,
    ⟨(some 20), (.call (.c (.fn 65 [])) [(.t 17), (.t 19)]), none⟩,
    ⟨(some 21), (.fad 1 (.t 6)), none⟩,
    ⟨(some 22), (.ld 1 false (.t 21)), none⟩,
    ⟨(some 23), (.call (.c (.fn 66 [])) [(.t 20), (.t 22)]), none⟩,
    ⟨(some 0), (.mv (.t 23)), none⟩] [(3, 5)])))
 (.reg false [
   ⟨(some 24), (.bin .add 3 false true (.t 13) (.c (.val (.int .i64 1)))), none⟩,
   ⟨(some 13), (.mv (.t 24)), none⟩] []))))

/-- cenotaph/frame.putVec -/
def c67 : CF := ⟨
 (.seq
 (.reg false [
   ⟨(some 4), (.mv (.c (.im [] true))), none⟩] [])
 (.seq
 (.reg false [
   ⟨(some 7), (.mv (.t 0)), none⟩,
   ⟨(some 8), (.mv (.t 1)), none⟩,
   ⟨(some 9), (.len false (.t 8)), none⟩,
   ⟨(some 10), (.call (.c (.fn 66 [])) [(.t 7), (.t 9)]), none⟩,
   ⟨(some 0), (.mv (.t 10)), none⟩] [])
 (.seq
 (.seq
 (.reg false [
   ⟨(some 11), (.mv (.t 1)), none⟩,
   ⟨(some 12), (.len false (.t 11)), none⟩,
   ⟨(some 13), (.mv (.c (.val (.int .i64 0)))), none⟩] [])
 (.block 0
  (.loop L67_0)))
 (.seq
 (.reg false [
   ⟨(some 25), (.mv (.t 0)), none⟩,
   ⟨(some 4), (.mv (.t 25)), none⟩] [])
 .ret)))),
 [.tmp 4]⟩

def L68_0 : CC :=
 (.seq
 (.reg false [
   ⟨(some 18), (.bin .lss 3 false false (.t 17) (.t 16)), none⟩] [])
 (.seq
 (.cond (.t 18)
  .skip
  (.exit 0))
 (.seq
 (.block 1
  (.seq
  (.reg false [
    ⟨(some 19), (.ias 1 (.t 15) (.t 17)), none⟩,
    ⟨(some 20), (.ld 1 false (.t 19)), none⟩,
    ⟨(some 6), (.mv (.t 20)), none⟩] [])
  (.reg false [
    ⟨(some 21), (.mv (.t 0)), none⟩,
    ⟨(some 22), (.mv (.t 6)), none⟩,
    ⟨(some 23), (.call (.c (.fn 65 [])) [(.t 21), (.t 22)]), none⟩,
    ⟨(some 0), (.mv (.t 23)), none⟩] [])))
 (.reg false [
   ⟨(some 24), (.bin .add 3 false true (.t 17) (.c (.val (.int .i64 1)))), none⟩,
   ⟨(some 17), (.mv (.t 24)), none⟩] []))))

def L68_1 : CC :=
 (.seq
 (.reg false [
   ⟨(some 37), (.bin .lss 3 false false (.t 36) (.t 35)), none⟩] [])
 (.seq
 (.cond (.t 37)
  .skip
  (.exit 2))
 (.seq
 (.block 3
  (.seq
  (.reg false [
    ⟨(some 38), (.ias 2 (.t 34) (.t 36)), none⟩,
    ⟨(some 39), (.ld 2 true (.t 38)), none⟩,
    ⟨(some 8), (.alloc [(.val (.string ⟨#[]⟩)), (.im [] true)]), none⟩,
    ⟨none, (.st 2 (.t 8) (.t 39)), none⟩] [])
  (.reg true [
    ⟨(some 40), (.mv (.t 0)), none⟩,
    ⟨(some 41), (.fad 0 (.t 8)), none⟩,
    ⟨(some 42), (.ld 1 false (.t 41)), none⟩,
    ⟨(some 43), (.call (.c (.fn 65 [])) [(.t 40), (.t 42)]), none⟩,
    ⟨(some 44), (.fad 1 (.t 8)), none⟩,
    ⟨(some 45), (.ld 1 false (.t 44)), none⟩,
    ⟨(some 46), (.call (.c (.fn 67 [])) [(.t 43), (.t 45)]), none⟩,
    ⟨(some 0), (.mv (.t 46)), none⟩] [(3, 5)])))
 (.reg false [
   ⟨(some 47), (.bin .add 3 false true (.t 36) (.c (.val (.int .i64 1)))), none⟩,
   ⟨(some 36), (.mv (.t 47)), none⟩] []))))

/-- cenotaph/frame.putRows -/
def c68 : CF := ⟨
 (.seq
 (.reg false [
   ⟨(some 3), (.box (.t 1)), none⟩,
   ⟨(some 4), (.mv (.c (.im [] true))), none⟩] [])
 (.seq
 (.reg false [
   ⟨(some 9), (.mv (.t 0)), none⟩,
   ⟨(some 10), (.fad 5 (.t 3)), none⟩,
   ⟨(some 11), (.ld 1 false (.t 10)), none⟩,
   ⟨(some 12), (.len false (.t 11)), none⟩,
   ⟨(some 13), (.call (.c (.fn 66 [])) [(.t 9), (.t 12)]), none⟩,
   ⟨(some 0), (.mv (.t 13)), none⟩] [])
 (.seq
 (.seq
 (.reg false [
   ⟨(some 14), (.fad 5 (.t 3)), none⟩,
   ⟨(some 15), (.ld 1 false (.t 14)), none⟩,
   ⟨(some 16), (.len false (.t 15)), none⟩,
   ⟨(some 17), (.mv (.c (.val (.int .i64 0)))), none⟩] [])
 (.block 0
  (.loop L68_0)))
 (.seq
 (.reg true [
   ⟨(some 25), (.mv (.t 0)), none⟩,
   ⟨(some 26), (.fad 6 (.t 3)), none⟩,
   ⟨(some 27), (.ld 1 false (.t 26)), none⟩,
   ⟨(some 28), (.call (.c (.fn 67 [])) [(.t 25), (.t 27)]), none⟩,
   ⟨(some 29), (.fad 7 (.t 3)), none⟩,
   ⟨(some 30), (.ld 1 false (.t 29)), none⟩,
   ⟨(some 31), (.len false (.t 30)), none⟩,
   ⟨(some 32), (.call (.c (.fn 66 [])) [(.t 28), (.t 31)]), none⟩,
   ⟨(some 0), (.mv (.t 32)), none⟩] [(3, 5)])
 (.seq
 (.seq
 (.reg false [
   ⟨(some 33), (.fad 7 (.t 3)), none⟩,
   ⟨(some 34), (.ld 1 false (.t 33)), none⟩,
   ⟨(some 35), (.len false (.t 34)), none⟩,
   ⟨(some 36), (.mv (.c (.val (.int .i64 0)))), none⟩] [])
 (.block 2
  (.loop L68_1)))
 (.seq
 (.reg false [
   ⟨(some 48), (.mv (.t 0)), none⟩,
   ⟨(some 4), (.mv (.t 48)), none⟩] [])
 .ret)))))),
 [.tmp 4]⟩

def L69_0 : CC :=
 (.seq
 (.reg false [
   ⟨(some 38), (.bin .lss 3 false false (.t 37) (.t 36)), none⟩] [])
 (.seq
 (.cond (.t 38)
  .skip
  (.exit 2))
 (.seq
 (.block 3
  (.seq
  (.reg false [
    ⟨(some 39), (.ias 1 (.t 35) (.t 37)), none⟩,
    ⟨(some 40), (.ld 1 false (.t 39)), none⟩,
    ⟨(some 8), (.mv (.t 40)), none⟩] [])
  (.reg false [
    ⟨(some 41), (.mv (.t 0)), none⟩,
    ⟨(some 42), (.mv (.t 8)), none⟩,
    ⟨(some 43), (.call (.c (.fn 66 [])) [(.t 41), (.t 42)]), none⟩,
    ⟨(some 0), (.mv (.t 43)), none⟩] [])))
 (.reg false [
   ⟨(some 44), (.bin .add 3 false true (.t 37) (.c (.val (.int .i64 1)))), none⟩,
   ⟨(some 37), (.mv (.t 44)), none⟩] []))))

def L69_1 : CC :=
 (.seq
 (.reg false [
   ⟨(some 16), (.bin .lss 3 false false (.t 15) (.t 14)), none⟩] [])
 (.seq
 (.cond (.t 16)
  .skip
  (.exit 0))
 (.seq
 (.block 1
  (.seq
  (.reg false [
    ⟨(some 17), (.ias 3 (.t 13) (.t 15)), none⟩,
    ⟨(some 18), (.ld 3 true (.t 17)), none⟩,
    ⟨(some 6), (.alloc [(.val (.string ⟨#[]⟩)), (.val (.int .i64 0)), (.im [] true)]), none⟩,
    ⟨none, (.st 3 (.t 6) (.t 18)), none⟩] [])
  (.seq
  (.reg true [
    ⟨(some 19), (.mv (.t 0)), none⟩,
    ⟨(some 20), (.fad 0 (.t 6)), none⟩,
    ⟨(some 21), (.ld 1 false (.t 20)), none⟩,
    ⟨(some 22), (.call (.c (.fn 65 [])) [(.t 19), (.t 21)]), none⟩,
    ⟨(some 23), (.fad 1 (.t 6)), none⟩,
    ⟨(some 24), (.fad 0 (.t 23)), none⟩,
    ⟨(some 25), (.ld 1 false (.t 24)), none⟩,
    ⟨(some 26), (.call (.c (.fn 66 [])) [(.t 22), (.t 25)]), none⟩,
    ⟨(some 0), (.mv (.t 26)), none⟩] [(3, 6)])
  (.seq
  (.reg false [
    ⟨(some 27), (.mv (.t 0)), none⟩,
    ⟨(some 28), (.fad 1 (.t 6)), none⟩,
    ⟨(some 29), (.fad 1 (.t 28)), none⟩,
    ⟨(some 30), (.ld 1 false (.t 29)), none⟩,
    ⟨(some 31), (.len false (.t 30)), none⟩,
    ⟨(some 32), (.call (.c (.fn 66 [])) [(.t 27), (.t 31)]), none⟩,
    ⟨(some 0), (.mv (.t 32)), none⟩] [])
  (.seq
  (.reg false [
    ⟨(some 33), (.fad 1 (.t 6)), none⟩,
    ⟨(some 34), (.fad 1 (.t 33)), none⟩,
    ⟨(some 35), (.ld 1 false (.t 34)), none⟩,
    ⟨(some 36), (.len false (.t 35)), none⟩,
    ⟨(some 37), (.mv (.c (.val (.int .i64 0)))), none⟩] [])
  (.block 2
   (.loop L69_0)))))))
 (.reg false [
   ⟨(some 45), (.bin .add 3 false true (.t 15) (.c (.val (.int .i64 1)))), none⟩,
   ⟨(some 15), (.mv (.t 45)), none⟩] []))))

/-- cenotaph/frame.putKnow -/
def c69 : CF := ⟨
 (.seq
 (.reg false [
   ⟨(some 4), (.mv (.c (.im [] true))), none⟩] [])
 (.seq
 (.reg false [
   ⟨(some 9), (.mv (.t 0)), none⟩,
   ⟨(some 10), (.mv (.t 1)), none⟩,
   ⟨(some 11), (.len false (.t 10)), none⟩,
   ⟨(some 12), (.call (.c (.fn 66 [])) [(.t 9), (.t 11)]), none⟩,
   ⟨(some 0), (.mv (.t 12)), none⟩] [])
 (.seq
 (.seq
 (.reg false [
   ⟨(some 13), (.mv (.t 1)), none⟩,
   ⟨(some 14), (.len false (.t 13)), none⟩,
   ⟨(some 15), (.mv (.c (.val (.int .i64 0)))), none⟩] [])
 (.block 0
  (.loop L69_1)))
 (.seq
 (.reg false [
   ⟨(some 46), (.mv (.t 0)), none⟩,
   ⟨(some 4), (.mv (.t 46)), none⟩] [])
 .ret)))),
 [.tmp 4]⟩

/-- cenotaph/wire.PutText -/
def c70 : CF := ⟨
 (.seq
 (.reg false [
   ⟨(some 4), (.mv (.c (.im [] true))), none⟩] [])
 (.seq
 (.reg false [
   ⟨(some 5), (.mv (.t 0)), none⟩,
   ⟨(some 6), (.mv (.t 1)), none⟩,
   ⟨(some 7), (.len true (.t 6)), none⟩,
   ⟨(some 8), (.call (.c (.fn 66 [])) [(.t 5), (.t 7)]), none⟩,
   ⟨(some 9), (.mv (.t 1)), none⟩,
   ⟨(some 10), (.app 1 (.t 8) (.t 9)), none⟩,
   ⟨(some 4), (.mv (.t 10)), none⟩] [])
 .ret)),
 [.tmp 4]⟩

def L71_0 : CC :=
 (.seq
 (.reg false [
   ⟨(some 13), (.bin .lss 3 false false (.t 12) (.t 11)), none⟩] [])
 (.seq
 (.cond (.t 13)
  .skip
  (.exit 0))
 (.seq
 (.block 1
  (.seq
  (.reg false [
    ⟨(some 14), (.ias 3 (.t 10) (.t 12)), none⟩,
    ⟨(some 15), (.ld 3 true (.t 14)), none⟩,
    ⟨(some 5), (.alloc [(.val (.int .i64 0)), (.val (.complex .f64 0 0)), (.val (.float .f64 0))]), none⟩,
    ⟨none, (.st 3 (.t 5) (.t 15)), none⟩] [])
  (.seq
  (.reg true [
    ⟨(some 16), (.call (.c (.fn 160 [])) []), none⟩,
    ⟨(some 17), (.fad 0 (.t 5)), none⟩,
    ⟨(some 18), (.ld 1 false (.t 17)), none⟩,
    ⟨(some 19), (.ias 1 (.t 16) (.t 18)), none⟩,
    ⟨(some 20), (.ld 1 false (.t 19)), none⟩,
    ⟨(some 6), (.mv (.t 20)), none⟩] [(0, 2)])
  (.seq
  (.seq
  (.reg false [
    ⟨(some 21), (.fad 0 (.t 5)), none⟩,
    ⟨(some 22), (.ld 1 false (.t 21)), none⟩,
    ⟨(some 23), (.bin .eql 3 false true (.t 22) (.c (.val (.int .i64 2)))), none⟩,
    ⟨(some 24), (.mv (.t 23)), none⟩,
    ⟨(some 25), (.fad 0 (.t 5)), (some (24, false))⟩,
    ⟨(some 26), (.ld 1 false (.t 25)), (some (24, false))⟩,
    ⟨(some 27), (.bin .eql 3 false true (.t 26) (.c (.val (.int .i64 3)))), (some (24, false))⟩,
    ⟨(some 28), (.pick (.t 24) (.c (.val (.bool true))) (.t 27)), none⟩] [])
  (.cond (.t 28)
   (.reg true [
     ⟨(some 29), (.mv (.t 6)), none⟩,
     ⟨(some 30), (.fad 1 (.t 5)), none⟩,
     ⟨(some 31), (.ld 1 false (.t 30)), none⟩,
     ⟨(some 32), (.fun_ .real #[95] 226 [(.t 31)]), none⟩,
     ⟨(some 33), (.call (.c (.fn 161 [])) [(.t 32)]), none⟩,
     ⟨(some 34), (.fad 1 (.t 5)), none⟩,
     ⟨(some 35), (.ld 1 false (.t 34)), none⟩,
     ⟨(some 36), (.fun_ .imag #[95] 226 [(.t 35)]), none⟩,
     ⟨(some 37), (.call (.c (.fn 161 [])) [(.t 36)]), none⟩,
     ⟨(some 38), (.fad 2 (.t 5)), none⟩,
     ⟨(some 39), (.ld 1 false (.t 38)), none⟩,
     ⟨(some 40), (.call (.c (.fn 161 [])) [(.t 39)]), none⟩,
     ⟨(some 41), (.bsl 1 4 [(.val (.string ⟨#[]⟩)), (.val (.string ⟨#[]⟩)), (.val (.string ⟨#[]⟩)), (.val (.string ⟨#[]⟩))] [(0, 1, (.t 29)), (1, 1, (.t 33)), (2, 1, (.t 37)), (3, 1, (.t 40))]), none⟩,
     ⟨(some 42), (.call (.c (.fn 128 [])) [(.t 41), (.c (.val (.string ⟨#[32]⟩)))]), none⟩,
     ⟨(some 6), (.mv (.t 42)), none⟩] [(4, 6), (4, 10), (8, 10)])
   .skip))
  (.reg false [
    ⟨(some 43), (.mv (.t 3)), none⟩,
    ⟨(some 44), (.mv (.t 6)), none⟩,
    ⟨(some 45), (.bsl 1 1 [(.val (.string ⟨#[]⟩))] [(0, 1, (.t 44))]), none⟩,
    ⟨(some 46), (.app 1 (.t 43) (.t 45)), none⟩,
    ⟨(some 3), (.mv (.t 46)), none⟩] [])))))
 (.reg false [
   ⟨(some 47), (.bin .add 3 false true (.t 12) (.c (.val (.int .i64 1)))), none⟩,
   ⟨(some 12), (.mv (.t 47)), none⟩] []))))

/-- cenotaph/zone.Text -/
def c71 : CF := ⟨
 (.seq
 (.reg false [
   ⟨(some 2), (.mv (.c (.val (.string ⟨#[]⟩)))), none⟩] [])
 (.seq
 (.seq
 (.reg false [
   ⟨(some 7), (.mv (.t 0)), none⟩,
   ⟨(some 8), (.call (.c (.fn 52 [])) [(.t 7)]), none⟩,
   ⟨(some 9), (.un .not (.t 8)), none⟩] [])
 (.cond (.t 9)
  (.seq
  (.reg false [
    ⟨(some 2), (.mv (.c (.val (.string ⟨#[]⟩)))), none⟩] [])
  .ret)
  .skip))
 (.seq
 (.reg false [
   ⟨(some 3), (.mv (.c (.im [] true))), none⟩] [])
 (.seq
 (.seq
 (.reg false [
   ⟨(some 10), (.mv (.t 0)), none⟩,
   ⟨(some 11), (.len false (.t 10)), none⟩,
   ⟨(some 12), (.mv (.c (.val (.int .i64 0)))), none⟩] [])
 (.block 0
  (.loop L71_0)))
 (.seq
 (.reg false [
   ⟨(some 48), (.mv (.t 3)), none⟩,
   ⟨(some 49), (.call (.c (.fn 128 [])) [(.t 48), (.c (.val (.string ⟨#[44]⟩)))]), none⟩,
   ⟨(some 2), (.mv (.t 49)), none⟩] [])
 .ret))))),
 [.tmp 2]⟩

def L72_0 : CC :=
 (.seq
 (.reg false [
   ⟨(some 31), (.bin .lss 3 false true (.t 30) (.c (.val (.int .i64 3)))), none⟩] [])
 (.seq
 (.cond (.t 31)
  .skip
  (.exit 0))
 (.seq
 (.block 1
  (.seq
  (.reg false [
    ⟨(some 32), (.ixa 3 1 false (.t 29) (.t 30)), none⟩,
    ⟨(some 6), (.mv (.t 32)), none⟩] [])
  (.reg false [
    ⟨(some 33), (.mv (.t 0)), none⟩,
    ⟨(some 34), (.mv (.t 6)), none⟩,
    ⟨(some 35), (.call (.c (.fn 66 [])) [(.t 33), (.t 34)]), none⟩,
    ⟨(some 0), (.mv (.t 35)), none⟩] [])))
 (.reg false [
   ⟨(some 36), (.bin .add 3 false true (.t 30) (.c (.val (.int .i64 1)))), none⟩,
   ⟨(some 30), (.mv (.t 36)), none⟩] []))))

/-- cenotaph/item.Put -/
def c72 : CF := ⟨
 (.seq
 (.reg false [
   ⟨(some 3), (.box (.t 1)), none⟩,
   ⟨(some 4), (.mv (.c (.im [] true))), none⟩] [])
 (.seq
 (.seq
 (.reg false [
   ⟨(some 7), (.ld 8 true (.t 3)), none⟩,
   ⟨(some 8), (.call (.c (.fn 162 [])) [(.t 7)]), none⟩,
   ⟨(some 9), (.un .not (.t 8)), none⟩] [])
 (.cond (.t 9)
  (.seq
  (.reg false [
    ⟨(some 10), (.mv (.t 0)), none⟩,
    ⟨(some 11), (.app 1 (.c (.im [] true)) (.t 10)), none⟩,
    ⟨(some 4), (.mv (.t 11)), none⟩] [])
  .ret)
  .skip))
 (.seq
 (.reg false [
   ⟨(some 12), (.mv (.t 0)), none⟩,
   ⟨(some 13), (.fad 0 (.t 3)), none⟩,
   ⟨(some 14), (.ld 1 false (.t 13)), none⟩,
   ⟨(some 15), (.call (.c (.fn 66 [])) [(.t 12), (.t 14)]), none⟩,
   ⟨(some 0), (.mv (.t 15)), none⟩] [])
 (.seq
 (.reg false [
   ⟨(some 16), (.mv (.t 0)), none⟩,
   ⟨(some 17), (.fad 1 (.t 3)), none⟩,
   ⟨(some 18), (.fad 0 (.t 17)), none⟩,
   ⟨(some 19), (.ld 1 false (.t 18)), none⟩,
   ⟨(some 20), (.call (.c (.fn 70 [])) [(.t 16), (.t 19)]), none⟩,
   ⟨(some 0), (.mv (.t 20)), none⟩] [])
 (.seq
 (.seq
 (.reg true [
   ⟨(some 21), (.fad 1 (.t 3)), none⟩,
   ⟨(some 22), (.fad 1 (.t 21)), none⟩,
   ⟨(some 23), (.ld 1 false (.t 22)), none⟩,
   ⟨(some 24), (.fad 1 (.t 3)), none⟩,
   ⟨(some 25), (.fad 2 (.t 24)), none⟩,
   ⟨(some 26), (.ld 1 false (.t 25)), none⟩,
   ⟨(some 27), (.ld 8 true (.t 3)), none⟩,
   ⟨(some 28), (.call (.c (.fn 163 [])) [(.t 27)]), none⟩,
   ⟨(some 29), (.build [(.val (.int .i64 0)), (.val (.int .i64 0)), (.val (.int .i64 0))] [(0, 1, (.t 23)), (1, 1, (.t 26)), (2, 1, (.t 28))]), none⟩,
   ⟨(some 30), (.mv (.c (.val (.int .i64 0)))), none⟩] [(2, 7), (5, 7)])
 (.block 0
  (.loop L72_0)))
 (.seq
 (.seq
 (.reg false [
   ⟨(some 37), (.fad 4 (.t 3)), none⟩,
   ⟨(some 38), (.ld 1 false (.t 37)), none⟩] [])
 (.cond (.t 38)
  (.seq
  (.reg false [
    ⟨(some 39), (.mv (.t 0)), none⟩,
    ⟨(some 4), (.mv (.t 39)), none⟩] [])
  .ret)
  .skip))
 (.seq
 (.reg false [
   ⟨(some 40), (.mv (.t 0)), none⟩,
   ⟨(some 41), (.fad 5 (.t 3)), none⟩,
   ⟨(some 42), (.ld 1 false (.t 41)), none⟩,
   ⟨(some 43), (.fun_ .real #[95] 226 [(.t 42)]), none⟩,
   ⟨(some 44), (.cv 226 3 (.t 43)), none⟩,
   ⟨(some 45), (.bin .add 3 false true (.t 44) (.c (.val (.int .i64 1000)))), none⟩,
   ⟨(some 46), (.call (.c (.fn 66 [])) [(.t 40), (.t 45)]), none⟩,
   ⟨(some 0), (.mv (.t 46)), none⟩] [])
 (.seq
 (.reg false [
   ⟨(some 47), (.mv (.t 0)), none⟩,
   ⟨(some 48), (.fad 5 (.t 3)), none⟩,
   ⟨(some 49), (.ld 1 false (.t 48)), none⟩,
   ⟨(some 50), (.fun_ .imag #[95] 226 [(.t 49)]), none⟩,
   ⟨(some 51), (.cv 226 3 (.t 50)), none⟩,
   ⟨(some 52), (.bin .add 3 false true (.t 51) (.c (.val (.int .i64 1000)))), none⟩,
   ⟨(some 53), (.call (.c (.fn 66 [])) [(.t 47), (.t 52)]), none⟩,
   ⟨(some 0), (.mv (.t 53)), none⟩] [])
 (.seq
 (.seq
 (.reg false [
   ⟨(some 54), (.fad 7 (.t 3)), none⟩,
   ⟨(some 55), (.ld 1 false (.t 54)), none⟩] [])
 (.cond (.t 55)
  (.reg false [
    ⟨(some 56), (.mv (.t 0)), none⟩,
    ⟨(some 57), (.fad 6 (.t 3)), none⟩,
    ⟨(some 58), (.ld 1 false (.t 57)), none⟩,
    ⟨(some 59), (.call (.c (.fn 70 [])) [(.t 56), (.t 58)]), none⟩,
    ⟨(some 0), (.mv (.t 59)), none⟩] [])
  .skip))
 (.seq
 (.reg false [
   ⟨(some 60), (.mv (.t 0)), none⟩,
   ⟨(some 4), (.mv (.t 60)), none⟩] [])
 .ret)))))))))),
 [.tmp 4]⟩

/-- cenotaph/cenotaphref06.PutText -/
def c73 : CF := ⟨
 (.seq
 (.reg false [
   ⟨(some 4), (.mv (.c (.im [] true))), none⟩] [])
 (.seq
 (.reg false [
   ⟨(some 5), (.mv (.t 0)), none⟩,
   ⟨(some 6), (.mv (.t 1)), none⟩,
   ⟨(some 7), (.len true (.t 6)), none⟩,
   ⟨(some 8), (.call (.c (.fn 74 [])) [(.t 5), (.t 7)]), none⟩,
   ⟨(some 9), (.mv (.t 1)), none⟩,
   ⟨(some 10), (.app 1 (.t 8) (.t 9)), none⟩,
   ⟨(some 4), (.mv (.t 10)), none⟩] [])
 .ret)),
 [.tmp 4]⟩

def L74_0 : CC :=
 (.seq
 (.seq
 (.reg false [
   ⟨(some 11), (.mv (.t 1)), none⟩,
   ⟨(some 12), (.bin .geq 3 false true (.t 11) (.c (.val (.int .i64 128)))), none⟩] [])
 (.cond (.t 12)
  .skip
  (.exit 0)))
 (.block 1
  (.seq
  (.reg false [
    ⟨(some 13), (.mv (.t 5)), none⟩,
    ⟨(some 14), (.mv (.t 1)), none⟩,
    ⟨(some 15), (.bin .rem 3 false true (.t 14) (.c (.val (.int .i64 128)))), none⟩,
    ⟨(some 16), (.bin .add 3 false true (.t 15) (.c (.val (.int .i64 128)))), none⟩,
    ⟨(some 17), (.cv 3 5 (.t 16)), none⟩,
    ⟨(some 18), (.bsl 1 1 [(.val (.int .u8 0))] [(0, 1, (.t 17))]), none⟩,
    ⟨(some 19), (.app 1 (.t 13) (.t 18)), none⟩,
    ⟨(some 5), (.mv (.t 19)), none⟩] [])
  (.reg false [
    ⟨(some 20), (.mv (.t 1)), none⟩,
    ⟨(some 21), (.bin .quo 3 false true (.t 20) (.c (.val (.int .i64 128)))), none⟩,
    ⟨(some 1), (.mv (.t 21)), none⟩] []))))

/-- cenotaph/cenotaphref06.Put -/
def c74 : CF := ⟨
 (.seq
 (.reg false [
   ⟨(some 4), (.mv (.c (.im [] true))), none⟩] [])
 (.seq
 (.seq
 (.reg false [
   ⟨(some 6), (.mv (.t 1)), none⟩,
   ⟨(some 7), (.bin .lss 3 false true (.t 6) (.c (.val (.int .i64 0)))), none⟩] [])
 (.cond (.t 7)
  (.reg false [
    ⟨(some 1), (.mv (.c (.val (.int .i64 0)))), none⟩] [])
  .skip))
 (.seq
 (.reg false [
   ⟨(some 8), (.bsl 1 0 [] []), none⟩,
   ⟨(some 9), (.mv (.t 0)), none⟩,
   ⟨(some 10), (.app 1 (.t 8) (.t 9)), none⟩,
   ⟨(some 5), (.mv (.t 10)), none⟩] [])
 (.seq
 (.block 0
  (.loop L74_0))
 (.seq
 (.reg false [
   ⟨(some 22), (.mv (.t 5)), none⟩,
   ⟨(some 23), (.mv (.t 1)), none⟩,
   ⟨(some 24), (.cv 3 5 (.t 23)), none⟩,
   ⟨(some 25), (.bsl 1 1 [(.val (.int .u8 0))] [(0, 1, (.t 24))]), none⟩,
   ⟨(some 26), (.app 1 (.t 22) (.t 25)), none⟩,
   ⟨(some 4), (.mv (.t 26)), none⟩] [])
 .ret))))),
 [.tmp 4]⟩

def L75_0 : CC :=
 (.seq
 (.seq
 (.reg false [
   ⟨(some 10), (.mv (.t 5)), none⟩,
   ⟨(some 11), (.mv (.t 1)), none⟩,
   ⟨(some 12), (.len false (.t 11)), none⟩,
   ⟨(some 13), (.bin .lss 3 false false (.t 10) (.t 12)), none⟩] [])
 (.cond (.t 13)
  .skip
  (.exit 0)))
 (.seq
 (.block 1
  (.reg true [
    ⟨(some 16), (.mv (.t 0)), none⟩,
    ⟨(some 17), (.mv (.t 1)), none⟩,
    ⟨(some 18), (.mv (.t 5)), none⟩,
    ⟨(some 19), (.ias 2 (.t 17) (.t 18)), none⟩,
    ⟨(some 20), (.fad 0 (.t 19)), none⟩,
    ⟨(some 21), (.ld 1 false (.t 20)), none⟩,
    ⟨(some 22), (.call (.c (.fn 73 [])) [(.t 16), (.t 21)]), none⟩,
    ⟨(some 23), (.mv (.t 1)), none⟩,
    ⟨(some 24), (.mv (.t 5)), none⟩,
    ⟨(some 25), (.ias 2 (.t 23) (.t 24)), none⟩,
    ⟨(some 26), (.fad 1 (.t 25)), none⟩,
    ⟨(some 27), (.ld 1 false (.t 26)), none⟩,
    ⟨(some 28), (.call (.c (.fn 74 [])) [(.t 22), (.t 27)]), none⟩,
    ⟨(some 0), (.mv (.t 28)), none⟩] [(6, 11)]))
 (.reg false [
   ⟨(some 14), (.mv (.t 5)), none⟩,
   ⟨(some 15), (.bin .add 3 false true (.t 14) (.c (.val (.int .i64 1)))), none⟩,
   ⟨(some 5), (.mv (.t 15)), none⟩] [])))

/-- cenotaph/cenotaphref12.putVec -/
def c75 : CF := ⟨
 (.seq
 (.reg false [
   ⟨(some 4), (.mv (.c (.im [] true))), none⟩] [])
 (.seq
 (.reg false [
   ⟨(some 6), (.mv (.t 0)), none⟩,
   ⟨(some 7), (.mv (.t 1)), none⟩,
   ⟨(some 8), (.len false (.t 7)), none⟩,
   ⟨(some 9), (.call (.c (.fn 74 [])) [(.t 6), (.t 8)]), none⟩,
   ⟨(some 0), (.mv (.t 9)), none⟩] [])
 (.seq
 (.seq
 (.reg false [
   ⟨(some 5), (.mv (.c (.val (.int .i64 0)))), none⟩] [])
 (.block 0
  (.loop L75_0)))
 (.seq
 (.reg false [
   ⟨(some 29), (.mv (.t 0)), none⟩,
   ⟨(some 4), (.mv (.t 29)), none⟩] [])
 .ret)))),
 [.tmp 4]⟩

def L76_0 : CC :=
 (.seq
 (.seq
 (.reg false [
   ⟨(some 10), (.mv (.t 5)), none⟩,
   ⟨(some 11), (.mv (.t 0)), none⟩,
   ⟨(some 12), (.len false (.t 11)), none⟩,
   ⟨(some 13), (.bin .lss 3 false false (.t 10) (.t 12)), none⟩] [])
 (.cond (.t 13)
  .skip
  (.exit 0)))
 (.seq
 (.block 1
  (.seq
  (.seq
  (.reg false [
    ⟨(some 16), (.mv (.t 5)), none⟩,
    ⟨(some 17), (.bin .gtr 3 false true (.t 16) (.c (.val (.int .i64 0)))), none⟩] [])
  (.cond (.t 17)
   (.reg false [
     ⟨(some 18), (.mv (.t 4)), none⟩,
     ⟨(some 19), (.bin .add 9 false true (.t 18) (.c (.val (.string ⟨#[44]⟩)))), none⟩,
     ⟨(some 4), (.mv (.t 19)), none⟩] [])
   .skip))
  (.seq
  (.reg false [
    ⟨(some 20), (.mv (.t 4)), none⟩,
    ⟨(some 21), (.mv (.t 3)), none⟩,
    ⟨(some 22), (.mv (.t 0)), none⟩,
    ⟨(some 23), (.mv (.t 5)), none⟩,
    ⟨(some 24), (.ias 4 (.t 22) (.t 23)), none⟩,
    ⟨(some 25), (.fad 0 (.t 24)), none⟩,
    ⟨(some 26), (.ld 1 false (.t 25)), none⟩,
    ⟨(some 27), (.ias 1 (.t 21) (.t 26)), none⟩,
    ⟨(some 28), (.ld 1 false (.t 27)), none⟩,
    ⟨(some 29), (.bin .add 9 false false (.t 20) (.t 28)), none⟩,
    ⟨(some 4), (.mv (.t 29)), none⟩] [])
  (.seq
  (.reg false [
    ⟨(some 30), (.mv (.t 0)), none⟩,
    ⟨(some 31), (.mv (.t 5)), none⟩,
    ⟨(some 32), (.ias 4 (.t 30) (.t 31)), none⟩,
    ⟨(some 33), (.fad 0 (.t 32)), none⟩,
    ⟨(some 34), (.ld 1 false (.t 33)), none⟩,
    ⟨(some 35), (.bin .eql 3 false true (.t 34) (.c (.val (.int .i64 2)))), none⟩,
    ⟨(some 36), (.mv (.t 35)), none⟩,
    ⟨(some 37), (.mv (.t 0)), (some (36, false))⟩,
    ⟨(some 38), (.mv (.t 5)), (some (36, false))⟩,
    ⟨(some 39), (.ias 4 (.t 37) (.t 38)), (some (36, false))⟩,
    ⟨(some 40), (.fad 0 (.t 39)), (some (36, false))⟩,
    ⟨(some 41), (.ld 1 false (.t 40)), (some (36, false))⟩,
    ⟨(some 42), (.bin .eql 3 false true (.t 41) (.c (.val (.int .i64 3)))), (some (36, false))⟩,
    ⟨(some 43), (.pick (.t 36) (.c (.val (.bool true))) (.t 42)), none⟩] [])
  (.cond (.t 43)
   (.reg true [
     ⟨(some 44), (.mv (.t 4)), none⟩,
     ⟨(some 45), (.bin .add 9 false true (.t 44) (.c (.val (.string ⟨#[32]⟩)))), none⟩,
     ⟨(some 46), (.mv (.t 0)), none⟩,
     ⟨(some 47), (.mv (.t 5)), none⟩,
     ⟨(some 48), (.ias 4 (.t 46) (.t 47)), none⟩,
     ⟨(some 49), (.fad 1 (.t 48)), none⟩,
     ⟨(some 50), (.ld 1 false (.t 49)), none⟩,
     ⟨(some 51), (.call (.c (.fn 135 [])) [(.t 50)]), none⟩,
     ⟨(some 52), (.bin .add 9 false false (.t 45) (.t 51)), none⟩,
     ⟨(some 53), (.bin .add 9 false true (.t 52) (.c (.val (.string ⟨#[32]⟩)))), none⟩,
     ⟨(some 54), (.mv (.t 0)), none⟩,
     ⟨(some 55), (.mv (.t 5)), none⟩,
     ⟨(some 56), (.ias 4 (.t 54) (.t 55)), none⟩,
     ⟨(some 57), (.fad 2 (.t 56)), none⟩,
     ⟨(some 58), (.ld 1 false (.t 57)), none⟩,
     ⟨(some 59), (.call (.c (.fn 135 [])) [(.t 58)]), none⟩,
     ⟨(some 60), (.bin .add 9 false false (.t 53) (.t 59)), none⟩,
     ⟨(some 61), (.bin .add 9 false true (.t 60) (.c (.val (.string ⟨#[32]⟩)))), none⟩,
     ⟨(some 62), (.mv (.t 0)), none⟩,
     ⟨(some 63), (.mv (.t 5)), none⟩,
     ⟨(some 64), (.ias 4 (.t 62) (.t 63)), none⟩,
     ⟨(some 65), (.fad 3 (.t 64)), none⟩,
     ⟨(some 66), (.ld 1 false (.t 65)), none⟩,
     ⟨(some 67), (.call (.c (.fn 135 [])) [(.t 66)]), none⟩,
     ⟨(some 68), (.bin .add 9 false false (.t 61) (.t 67)), none⟩,
     ⟨(some 4), (.mv (.t 68)), none⟩] [(7, 14), (7, 22), (15, 22)])
   .skip)))))
 (.reg false [
   ⟨(some 14), (.mv (.t 5)), none⟩,
   ⟨(some 15), (.bin .add 3 false true (.t 14) (.c (.val (.int .i64 1)))), none⟩,
   ⟨(some 5), (.mv (.t 15)), none⟩] [])))

/-- cenotaph/cenotaphref05.Text -/
def c76 : CF := ⟨
 (.seq
 (.reg false [
   ⟨(some 2), (.mv (.c (.val (.string ⟨#[]⟩)))), none⟩] [])
 (.seq
 (.seq
 (.reg false [
   ⟨(some 6), (.mv (.t 0)), none⟩,
   ⟨(some 7), (.call (.c (.fn 63 [])) [(.t 6)]), none⟩,
   ⟨(some 8), (.un .not (.t 7)), none⟩] [])
 (.cond (.t 8)
  (.seq
  (.reg false [
    ⟨(some 2), (.mv (.c (.val (.string ⟨#[]⟩)))), none⟩] [])
  .ret)
  .skip))
 (.seq
 (.reg false [
   ⟨(some 9), (.bsl 1 7 [(.val (.string ⟨#[]⟩)), (.val (.string ⟨#[]⟩)), (.val (.string ⟨#[]⟩)), (.val (.string ⟨#[]⟩)), (.val (.string ⟨#[]⟩)), (.val (.string ⟨#[]⟩)), (.val (.string ⟨#[]⟩))] [(0, 1, (.c (.val (.string ⟨#[]⟩)))), (1, 1, (.c (.val (.string ⟨#[97, 108, 108]⟩)))), (2, 1, (.c (.val (.string ⟨#[100, 105, 115, 99]⟩)))), (3, 1, (.c (.val (.string ⟨#[104, 97, 108, 102]⟩)))), (4, 1, (.c (.val (.string ⟨#[110, 111, 116]⟩)))), (5, 1, (.c (.val (.string ⟨#[97, 110, 100]⟩)))), (6, 1, (.c (.val (.string ⟨#[111, 114]⟩))))]), none⟩,
   ⟨(some 3), (.mv (.t 9)), none⟩] [])
 (.seq
 (.reg false [
   ⟨(some 4), (.mv (.c (.val (.string ⟨#[]⟩)))), none⟩] [])
 (.seq
 (.seq
 (.reg false [
   ⟨(some 5), (.mv (.c (.val (.int .i64 0)))), none⟩] [])
 (.block 0
  (.loop L76_0)))
 (.seq
 (.reg false [
   ⟨(some 69), (.mv (.t 4)), none⟩,
   ⟨(some 2), (.mv (.t 69)), none⟩] [])
 .ret)))))),
 [.tmp 2]⟩

/-- cenotaph/cenotaphref07.Put -/
def c77 : CF := ⟨
 (.seq
 (.reg false [
   ⟨(some 3), (.box (.t 1)), none⟩,
   ⟨(some 4), (.mv (.c (.im [] true))), none⟩] [])
 (.seq
 (.seq
 (.reg false [
   ⟨(some 6), (.ld 9 true (.t 3)), none⟩,
   ⟨(some 7), (.call (.c (.fn 157 [])) [(.t 6)]), none⟩,
   ⟨(some 8), (.un .not (.t 7)), none⟩] [])
 (.cond (.t 8)
  (.seq
  (.reg false [
    ⟨(some 9), (.bsl 1 0 [] []), none⟩,
    ⟨(some 10), (.mv (.t 0)), none⟩,
    ⟨(some 11), (.app 1 (.t 9) (.t 10)), none⟩,
    ⟨(some 4), (.mv (.t 11)), none⟩] [])
  .ret)
  .skip))
 (.seq
 (.reg false [
   ⟨(some 12), (.mv (.t 0)), none⟩,
   ⟨(some 13), (.fad 0 (.t 3)), none⟩,
   ⟨(some 14), (.ld 1 false (.t 13)), none⟩,
   ⟨(some 15), (.call (.c (.fn 74 [])) [(.t 12), (.t 14)]), none⟩,
   ⟨(some 0), (.mv (.t 15)), none⟩] [])
 (.seq
 (.reg false [
   ⟨(some 16), (.mv (.t 0)), none⟩,
   ⟨(some 17), (.fad 1 (.t 3)), none⟩,
   ⟨(some 18), (.fad 0 (.t 17)), none⟩,
   ⟨(some 19), (.ld 1 false (.t 18)), none⟩,
   ⟨(some 20), (.call (.c (.fn 73 [])) [(.t 16), (.t 19)]), none⟩,
   ⟨(some 0), (.mv (.t 20)), none⟩] [])
 (.seq
 (.reg true [
   ⟨(some 21), (.mv (.t 0)), none⟩,
   ⟨(some 22), (.fad 1 (.t 3)), none⟩,
   ⟨(some 23), (.fad 1 (.t 22)), none⟩,
   ⟨(some 24), (.ld 1 false (.t 23)), none⟩,
   ⟨(some 25), (.call (.c (.fn 74 [])) [(.t 21), (.t 24)]), none⟩,
   ⟨(some 26), (.fad 1 (.t 3)), none⟩,
   ⟨(some 27), (.fad 2 (.t 26)), none⟩,
   ⟨(some 28), (.ld 1 false (.t 27)), none⟩,
   ⟨(some 29), (.call (.c (.fn 74 [])) [(.t 25), (.t 28)]), none⟩,
   ⟨(some 0), (.mv (.t 29)), none⟩] [(4, 7)])
 (.seq
 (.seq
 (.reg false [
   ⟨(some 30), (.fad 4 (.t 3)), none⟩,
   ⟨(some 31), (.ld 1 false (.t 30)), none⟩] [])
 (.cond (.t 31)
  (.seq
  (.reg false [
    ⟨(some 32), (.mv (.t 0)), none⟩,
    ⟨(some 33), (.call (.c (.fn 74 [])) [(.t 32), (.c (.val (.int .i64 0)))]), none⟩,
    ⟨(some 4), (.mv (.t 33)), none⟩] [])
  .ret)
  .skip))
 (.seq
 (.reg false [
   ⟨(some 5), (.mv (.c (.val (.int .i64 1)))), none⟩] [])
 (.seq
 (.seq
 (.reg false [
   ⟨(some 34), (.fad 8 (.t 3)), none⟩,
   ⟨(some 35), (.ld 1 false (.t 34)), none⟩] [])
 (.cond (.t 35)
  (.reg false [
    ⟨(some 5), (.mv (.c (.val (.int .i64 2)))), none⟩] [])
  .skip))
 (.seq
 (.reg true [
   ⟨(some 36), (.mv (.t 0)), none⟩,
   ⟨(some 37), (.mv (.t 5)), none⟩,
   ⟨(some 38), (.call (.c (.fn 74 [])) [(.t 36), (.t 37)]), none⟩,
   ⟨(some 39), (.fad 5 (.t 3)), none⟩,
   ⟨(some 40), (.fad 0 (.t 39)), none⟩,
   ⟨(some 41), (.ld 1 false (.t 40)), none⟩,
   ⟨(some 42), (.bin .add 3 false true (.t 41) (.c (.val (.int .i64 1000)))), none⟩,
   ⟨(some 43), (.call (.c (.fn 74 [])) [(.t 38), (.t 42)]), none⟩,
   ⟨(some 44), (.fad 5 (.t 3)), none⟩,
   ⟨(some 45), (.fad 1 (.t 44)), none⟩,
   ⟨(some 46), (.ld 1 false (.t 45)), none⟩,
   ⟨(some 47), (.bin .add 3 false true (.t 46) (.c (.val (.int .i64 1000)))), none⟩,
   ⟨(some 48), (.call (.c (.fn 74 [])) [(.t 43), (.t 47)]), none⟩,
   ⟨(some 0), (.mv (.t 48)), none⟩] [(2, 5), (2, 10), (7, 10)])
 (.seq
 (.seq
 (.reg false [
   ⟨(some 49), (.fad 8 (.t 3)), none⟩,
   ⟨(some 50), (.ld 1 false (.t 49)), none⟩] [])
 (.cond (.t 50)
  (.reg false [
    ⟨(some 51), (.mv (.t 0)), none⟩,
    ⟨(some 52), (.fad 7 (.t 3)), none⟩,
    ⟨(some 53), (.ld 1 false (.t 52)), none⟩,
    ⟨(some 54), (.call (.c (.fn 73 [])) [(.t 51), (.t 53)]), none⟩,
    ⟨(some 0), (.mv (.t 54)), none⟩] [])
  .skip))
 (.seq
 (.reg false [
   ⟨(some 55), (.mv (.t 0)), none⟩,
   ⟨(some 4), (.mv (.t 55)), none⟩] [])
 .ret))))))))))),
 [.tmp 4]⟩

/-- cenotaph/wire.Read -/
def c86 : CF := ⟨
 (.seq
 (.reg false [
   ⟨(some 2), (.mv (.c (.val (.pointer none)))), none⟩] [])
 (.seq
 (.reg false [
   ⟨(some 3), (.mv (.t 0)), none⟩,
   ⟨(some 4), (.call (.c (.fn 119 [])) [(.t 3)]), none⟩,
   ⟨(some 5), (.build [(.im [] true), (.val (.int .i64 0)), (.val (.int .i64 0))] [(0, 1, (.t 4))]), none⟩,
   ⟨(some 6), (.box (.t 5)), none⟩,
   ⟨(some 2), (.mv (.t 6)), none⟩] [])
 .ret)),
 [.tmp 2]⟩

/-- (*cenotaph/wire.Reader).Num -/
def c87 : CF := ⟨
 (.seq
 (.reg false [
   ⟨(some 4), (.mv (.c (.val (.int .i64 0)))), none⟩] [])
 (.seq
 (.seq
 (.reg false [
   ⟨(some 8), (.mv (.t 0)), none⟩,
   ⟨(some 9), (.call (.c (.fn 88 [])) [(.t 8)]), none⟩,
   ⟨(some 10), (.bin .neq 52 false true (.t 9) (.c (.val (.int .i64 0)))), none⟩] [])
 (.cond (.t 10)
  (.seq
  (.reg false [
    ⟨(some 4), (.mv (.c (.val (.int .i64 0)))), none⟩] [])
  .ret)
  .skip))
 (.seq
 (.reg false [
   ⟨(some 12), (.mv (.t 0)), none⟩,
   ⟨(some 13), (.call (.c (.fn 170 [])) [(.t 12)]), none⟩,
   ⟨(some 11), (.mv (.t 13)), none⟩,
   ⟨(some 14), (.ext (.t 11) 0), none⟩,
   ⟨(some 15), (.ext (.t 11) 1), none⟩,
   ⟨(some 16), (.ext (.t 11) 2), none⟩,
   ⟨(some 5), (.mv (.t 14)), none⟩,
   ⟨(some 6), (.mv (.t 15)), none⟩,
   ⟨(some 7), (.mv (.t 16)), none⟩] [])
 (.seq
 (.seq
 (.reg false [
   ⟨(some 17), (.mv (.t 7)), none⟩,
   ⟨(some 18), (.bin .eql 52 false true (.t 17) (.c (.val (.int .i64 0)))), none⟩,
   ⟨(some 19), (.mv (.t 18)), none⟩,
   ⟨(some 20), (.mv (.t 5)), (some (19, true))⟩,
   ⟨(some 21), (.mv (.t 1)), (some (19, true))⟩,
   ⟨(some 22), (.bin .gtr 3 false false (.t 20) (.t 21)), (some (19, true))⟩,
   ⟨(some 23), (.pick (.t 19) (.t 22) (.c (.val (.bool false)))), none⟩] [])
 (.cond (.t 23)
  (.reg false [
    ⟨(some 7), (.mv (.c (.val (.int .i64 3)))), none⟩] [])
  .skip))
 (.seq
 (.seq
 (.reg false [
   ⟨(some 24), (.mv (.t 7)), none⟩,
   ⟨(some 25), (.bin .neq 52 false true (.t 24) (.c (.val (.int .i64 0)))), none⟩] [])
 (.cond (.t 25)
  (.seq
  (.reg false [
    ⟨(some 26), (.mv (.t 0)), none⟩,
    ⟨(some 27), (.mv (.t 7)), none⟩,
    ⟨(some 28), (.nck (.t 26)), none⟩,
    ⟨(some 29), (.fad 2 (.t 28)), none⟩,
    ⟨none, (.st 1 (.t 29) (.t 27)), none⟩] [])
  (.seq
  (.reg false [
    ⟨(some 4), (.mv (.c (.val (.int .i64 0)))), none⟩] [])
  .ret))
  .skip))
 (.seq
 (.reg false [
   ⟨(some 30), (.mv (.t 0)), none⟩,
   ⟨(some 31), (.nck (.t 30)), none⟩,
   ⟨(some 32), (.fad 1 (.t 31)), none⟩,
   ⟨(some 33), (.ld 1 false (.t 32)), none⟩,
   ⟨(some 34), (.mv (.t 6)), none⟩,
   ⟨(some 35), (.bin .add 3 false false (.t 33) (.t 34)), none⟩,
   ⟨(some 36), (.nck (.t 30)), none⟩,
   ⟨(some 37), (.fad 1 (.t 36)), none⟩,
   ⟨none, (.st 1 (.t 37) (.t 35)), none⟩] [])
 (.seq
 (.reg false [
   ⟨(some 38), (.mv (.t 5)), none⟩,
   ⟨(some 4), (.mv (.t 38)), none⟩] [])
 .ret))))))),
 [.tmp 4]⟩

/-- (*cenotaph/wire.Reader).Err -/
def c88 : CF := ⟨
 (.seq
 (.reg false [
   ⟨(some 2), (.mv (.c (.val (.int .i64 0)))), none⟩] [])
 (.seq
 (.seq
 (.reg false [
   ⟨(some 3), (.mv (.t 0)), none⟩,
   ⟨(some 4), (.bin .eql 155 false true (.t 3) (.c (.val (.pointer none)))), none⟩] [])
 (.cond (.t 4)
  (.seq
  (.reg false [
    ⟨(some 2), (.mv (.c (.val (.int .i64 1)))), none⟩] [])
  .ret)
  .skip))
 (.seq
 (.reg false [
   ⟨(some 5), (.mv (.t 0)), none⟩,
   ⟨(some 6), (.nck (.t 5)), none⟩,
   ⟨(some 7), (.fad 2 (.t 6)), none⟩,
   ⟨(some 8), (.ld 1 false (.t 7)), none⟩,
   ⟨(some 2), (.mv (.t 8)), none⟩] [])
 .ret))),
 [.tmp 2]⟩

/-- (*cenotaph/frame.taker).id -/
def c89 : CF := ⟨
 (.seq
 (.reg false [
   ⟨(some 2), (.mv (.c (.val (.string ⟨#[]⟩)))), none⟩] [])
 (.seq
 (.reg false [
   ⟨(some 3), (.mv (.t 0)), none⟩,
   ⟨(some 4), (.nck (.t 3)), none⟩,
   ⟨(some 5), (.fad 0 (.t 4)), none⟩,
   ⟨(some 6), (.ld 1 false (.t 5)), none⟩,
   ⟨(some 7), (.call (.c (.fn 171 [])) [(.t 6), (.c (.val (.int .i64 6)))]), none⟩,
   ⟨(some 2), (.mv (.t 7)), none⟩] [])
 .ret)),
 [.tmp 2]⟩

/-- (*cenotaph/frame.taker).vec -/
def c90 : CF := ⟨
 (.seq
 (.reg false [
   ⟨(some 1), (.box (.t 0)), none⟩,
   ⟨(some 2), (.mv (.c (.im [] true))), none⟩] [])
 (.seq
 (.reg false [
   ⟨(some 3), (.alloc [(.im [] true)]), none⟩] [])
 (.seq
 (.reg false [
   ⟨(some 4), (.ld 1 false (.t 1)), none⟩,
   ⟨(some 5), (.mkf 173 [(.t 1), (.t 3)]), none⟩,
   ⟨(some 6), (.call (.c (.fn 172 [])) [(.t 4), (.c (.val (.int .i64 64))), (.t 5)]), none⟩] [])
 (.seq
 (.reg false [
   ⟨(some 7), (.ld 1 false (.t 3)), none⟩,
   ⟨(some 2), (.mv (.t 7)), none⟩] [])
 .ret)))),
 [.tmp 2]⟩

/-- (*cenotaph/frame.taker).lists -/
def c91 : CF := ⟨
 (.seq
 (.reg false [
   ⟨(some 2), (.box (.t 0)), none⟩,
   ⟨(some 3), (.box (.t 1)), none⟩] [])
 (.seq
 (.reg false [
   ⟨(some 6), (.ld 1 false (.t 2)), none⟩,
   ⟨(some 7), (.mkf 175 [(.t 2), (.t 3)]), none⟩,
   ⟨(some 8), (.call (.c (.fn 172 [])) [(.t 6), (.c (.val (.int .i64 64))), (.t 7)]), none⟩] [])
 (.seq
 (.reg true [
   ⟨(some 9), (.ld 1 false (.t 3)), none⟩,
   ⟨(some 10), (.ld 1 false (.t 2)), none⟩,
   ⟨(some 11), (.call (.c (.fn 174 [])) [(.t 10)]), none⟩,
   ⟨(some 12), (.nck (.t 9)), none⟩,
   ⟨(some 13), (.fad 4 (.t 12)), none⟩,
   ⟨none, (.st 1 (.t 13) (.t 11)), none⟩] [(0, 2)])
 (.seq
 (.reg false [
   ⟨(some 14), (.ld 1 false (.t 2)), none⟩,
   ⟨(some 15), (.mkf 177 [(.t 3), (.t 2)]), none⟩,
   ⟨(some 16), (.call (.c (.fn 172 [])) [(.t 14), (.c (.val (.int .i64 64))), (.t 15)]), none⟩] [])
 (.seq
 (.reg true [
   ⟨(some 17), (.ld 1 false (.t 3)), none⟩,
   ⟨(some 18), (.ld 1 false (.t 2)), none⟩,
   ⟨(some 19), (.call (.c (.fn 90 [])) [(.t 18)]), none⟩,
   ⟨(some 20), (.nck (.t 17)), none⟩,
   ⟨(some 21), (.fad 6 (.t 20)), none⟩,
   ⟨none, (.st 1 (.t 21) (.t 19)), none⟩] [(0, 2)])
 (.seq
 (.reg false [
   ⟨(some 22), (.ld 1 false (.t 2)), none⟩,
   ⟨(some 23), (.mkf 178 [(.t 2), (.t 3)]), none⟩,
   ⟨(some 24), (.call (.c (.fn 172 [])) [(.t 22), (.c (.val (.int .i64 64))), (.t 23)]), none⟩] [])
 (.seq
 (.seq
 (.reg false [
   ⟨(some 25), (.ld 1 false (.t 3)), none⟩,
   ⟨(some 26), (.nck (.t 25)), none⟩,
   ⟨(some 27), (.fad 0 (.t 26)), none⟩,
   ⟨(some 28), (.ld 1 false (.t 27)), none⟩,
   ⟨(some 29), (.bin .eql 3 false true (.t 28) (.c (.val (.int .i64 1)))), none⟩] [])
 (.cond (.t 29)
  (.seq
  (.reg false [
    ⟨(some 31), (.ld 1 false (.t 2)), none⟩,
    ⟨(some 32), (.nck (.t 31)), none⟩,
    ⟨(some 33), (.fad 0 (.t 32)), none⟩,
    ⟨(some 34), (.ld 1 false (.t 33)), none⟩,
    ⟨(some 35), (.call (.c (.fn 171 [])) [(.t 34), (.c (.val (.int .i64 2000)))]), none⟩,
    ⟨(some 36), (.call (.c (.fn 179 [])) [(.t 35)]), none⟩,
    ⟨(some 30), (.mv (.t 36)), none⟩,
    ⟨(some 37), (.ext (.t 30) 0), none⟩,
    ⟨(some 38), (.ext (.t 30) 1), none⟩,
    ⟨(some 4), (.mv (.t 37)), none⟩,
    ⟨(some 5), (.mv (.t 38)), none⟩] [])
  (.seq
  (.reg false [
    ⟨(some 39), (.ld 1 false (.t 3)), none⟩,
    ⟨(some 40), (.mv (.t 4)), none⟩,
    ⟨(some 41), (.nck (.t 39)), none⟩,
    ⟨(some 42), (.fad 8 (.t 41)), none⟩,
    ⟨none, (.st 1 (.t 42) (.t 40)), none⟩] [])
  (.reg true [
    ⟨(some 43), (.ld 1 false (.t 2)), none⟩,
    ⟨(some 44), (.ld 1 false (.t 2)), none⟩,
    ⟨(some 45), (.nck (.t 44)), none⟩,
    ⟨(some 46), (.fad 1 (.t 45)), none⟩,
    ⟨(some 47), (.ld 1 false (.t 46)), none⟩,
    ⟨(some 48), (.mv (.t 47)), none⟩,
    ⟨(some 49), (.mv (.t 5)), (some (48, false))⟩,
    ⟨(some 50), (.un .not (.t 49)), (some (48, false))⟩,
    ⟨(some 51), (.mv (.t 50)), (some (48, false))⟩,
    ⟨(some 52), (.ld 1 false (.t 2)), (some (51, true))⟩,
    ⟨(some 53), (.nck (.t 52)), (some (51, true))⟩,
    ⟨(some 54), (.fad 0 (.t 53)), (some (51, true))⟩,
    ⟨(some 55), (.ld 1 false (.t 54)), (some (51, true))⟩,
    ⟨(some 56), (.call (.c (.fn 88 [])) [(.t 55)]), (some (51, true))⟩,
    ⟨(some 57), (.bin .eql 52 false true (.t 56) (.c (.val (.int .i64 0)))), (some (51, true))⟩,
    ⟨(some 58), (.pick (.t 51) (.t 57) (.c (.val (.bool false)))), (some (48, false))⟩,
    ⟨(some 59), (.pick (.t 48) (.c (.val (.bool true))) (.t 58)), none⟩,
    ⟨(some 60), (.nck (.t 43)), none⟩,
    ⟨(some 61), (.fad 1 (.t 60)), none⟩,
    ⟨none, (.st 1 (.t 61) (.t 59)), none⟩] [(0, 13)])))
  .skip))
 (.seq
 (.seq
 (.reg false [
   ⟨(some 62), (.ld 1 false (.t 2)), none⟩,
   ⟨(some 63), (.call (.c (.fn 180 [])) [(.t 62)]), none⟩] [])
 (.cond (.t 63)
  .ret
  .skip))
 (.seq
 (.reg false [
   ⟨(some 64), (.ld 1 false (.t 2)), none⟩,
   ⟨(some 65), (.mkf 181 [(.t 2), (.t 3)]), none⟩,
   ⟨(some 66), (.call (.c (.fn 172 [])) [(.t 64), (.c (.val (.int .i64 32))), (.t 65)]), none⟩] [])
 (.seq
 (.reg false [
   ⟨(some 67), (.ld 1 false (.t 3)), none⟩,
   ⟨(some 68), (.nck (.t 67)), none⟩,
   ⟨(some 69), (.fad 0 (.t 68)), none⟩,
   ⟨(some 70), (.ld 1 false (.t 69)), none⟩,
   ⟨(some 71), (.bin .eql 3 false true (.t 70) (.c (.val (.int .i64 2)))), none⟩,
   ⟨(some 72), (.mv (.t 71)), none⟩,
   ⟨(some 73), (.ld 1 false (.t 2)), (some (72, true))⟩,
   ⟨(some 74), (.call (.c (.fn 180 [])) [(.t 73)]), (some (72, true))⟩,
   ⟨(some 75), (.un .not (.t 74)), (some (72, true))⟩,
   ⟨(some 76), (.pick (.t 72) (.t 75) (.c (.val (.bool false)))), none⟩] [])
 (.cond (.t 76)
  (.reg true [
    ⟨(some 77), (.ld 1 false (.t 3)), none⟩,
    ⟨(some 78), (.ld 1 false (.t 2)), none⟩,
    ⟨(some 79), (.nck (.t 78)), none⟩,
    ⟨(some 80), (.fad 0 (.t 79)), none⟩,
    ⟨(some 81), (.ld 1 false (.t 80)), none⟩,
    ⟨(some 82), (.call (.c (.fn 87 [])) [(.t 81), (.c (.val (.int .i64 1)))]), none⟩,
    ⟨(some 83), (.bin .eql 3 false true (.t 82) (.c (.val (.int .i64 1)))), none⟩,
    ⟨(some 84), (.nck (.t 77)), none⟩,
    ⟨(some 85), (.fad 10 (.t 84)), none⟩,
    ⟨none, (.st 1 (.t 85) (.t 83)), none⟩] [(0, 5)])
  .skip))))))))))),
 []⟩

/-- (*cenotaph/wire.Reader).End -/
def c92 : CF := ⟨
 (.seq
 (.reg false [
   ⟨(some 2), (.mv (.c (.val (.int .i64 0)))), none⟩] [])
 (.seq
 (.seq
 (.reg true [
   ⟨(some 3), (.mv (.t 0)), none⟩,
   ⟨(some 4), (.call (.c (.fn 88 [])) [(.t 3)]), none⟩,
   ⟨(some 5), (.bin .eql 52 false true (.t 4) (.c (.val (.int .i64 0)))), none⟩,
   ⟨(some 6), (.mv (.t 5)), none⟩,
   ⟨(some 7), (.mv (.t 0)), (some (6, true))⟩,
   ⟨(some 8), (.nck (.t 7)), (some (6, true))⟩,
   ⟨(some 9), (.fad 1 (.t 8)), (some (6, true))⟩,
   ⟨(some 10), (.ld 1 false (.t 9)), (some (6, true))⟩,
   ⟨(some 11), (.mv (.t 0)), (some (6, true))⟩,
   ⟨(some 12), (.nck (.t 11)), (some (6, true))⟩,
   ⟨(some 13), (.fad 0 (.t 12)), (some (6, true))⟩,
   ⟨(some 14), (.ld 1 false (.t 13)), (some (6, true))⟩,
   ⟨(some 15), (.len false (.t 14)), (some (6, true))⟩,
   ⟨(some 16), (.bin .lss 3 false false (.t 10) (.t 15)), (some (6, true))⟩,
   ⟨(some 17), (.pick (.t 6) (.t 16) (.c (.val (.bool false)))), none⟩] [])
 (.cond (.t 17)
  (.seq
  (.reg false [
    ⟨(some 2), (.mv (.c (.val (.int .i64 3)))), none⟩] [])
  .ret)
  .skip))
 (.seq
 (.reg false [
   ⟨(some 18), (.mv (.t 0)), none⟩,
   ⟨(some 19), (.call (.c (.fn 88 [])) [(.t 18)]), none⟩,
   ⟨(some 2), (.mv (.t 19)), none⟩] [])
 .ret))),
 [.tmp 2]⟩

/-- cenotaph/know.Same -/
def c93 : CF := ⟨
 (.seq
 (.reg false [
   ⟨(some 4), (.mv (.c (.val (.bool false)))), none⟩] [])
 (.seq
 (.reg false [
   ⟨(some 5), (.mv (.t 0)), none⟩,
   ⟨(some 6), (.mv (.t 1)), none⟩,
   ⟨(some 7), (.call (.c (.fn 183 [])) [(.t 5), (.t 6), (.c (.fn 184 []))]), none⟩,
   ⟨(some 4), (.mv (.t 7)), none⟩] [])
 .ret)),
 [.tmp 4]⟩

def L94_0 : CC :=
 (.seq
 (.reg false [
   ⟨(some 14), (.bin .lss 3 false false (.t 13) (.t 12)), none⟩] [])
 (.seq
 (.cond (.t 14)
  .skip
  (.exit 0))
 (.seq
 (.block 1
  (.seq
  (.reg false [
    ⟨(some 15), (.mv (.t 13)), none⟩,
    ⟨(some 5), (.mv (.t 15)), none⟩] [])
  (.seq
  (.reg true [
    ⟨(some 16), (.mv (.t 0)), none⟩,
    ⟨(some 17), (.mv (.t 5)), none⟩,
    ⟨(some 18), (.ias 1 (.t 16) (.t 17)), none⟩,
    ⟨(some 19), (.ld 1 false (.t 18)), none⟩,
    ⟨(some 20), (.mv (.t 1)), none⟩,
    ⟨(some 21), (.mv (.t 5)), none⟩,
    ⟨(some 22), (.ias 1 (.t 20) (.t 21)), none⟩,
    ⟨(some 23), (.ld 1 false (.t 22)), none⟩,
    ⟨(some 24), (.bin .neq 33 false false (.t 19) (.t 23)), none⟩] [])
  (.cond (.t 24)
   (.seq
   (.reg false [
     ⟨(some 4), (.mv (.c (.val (.bool false)))), none⟩] [])
   .ret)
   .skip))))
 (.reg false [
   ⟨(some 25), (.bin .add 3 false true (.t 13) (.c (.val (.int .i64 1)))), none⟩,
   ⟨(some 13), (.mv (.t 25)), none⟩] []))))

/-- slices.Equal[[]cenotaph/id.Id,cenotaph/id.Id] -/
def c94 : CF := ⟨
 (.seq
 (.reg false [
   ⟨(some 4), (.mv (.c (.val (.bool false)))), none⟩] [])
 (.seq
 (.seq
 (.reg false [
   ⟨(some 6), (.mv (.t 0)), none⟩,
   ⟨(some 7), (.len false (.t 6)), none⟩,
   ⟨(some 8), (.mv (.t 1)), none⟩,
   ⟨(some 9), (.len false (.t 8)), none⟩,
   ⟨(some 10), (.bin .neq 3 false false (.t 7) (.t 9)), none⟩] [])
 (.cond (.t 10)
  (.seq
  (.reg false [
    ⟨(some 4), (.mv (.c (.val (.bool false)))), none⟩] [])
  .ret)
  .skip))
 (.seq
 (.seq
 (.reg false [
   ⟨(some 11), (.mv (.t 0)), none⟩,
   ⟨(some 12), (.len false (.t 11)), none⟩,
   ⟨(some 13), (.mv (.c (.val (.int .i64 0)))), none⟩] [])
 (.block 0
  (.loop L94_0)))
 (.seq
 (.reg false [
   ⟨(some 4), (.mv (.c (.val (.bool true)))), none⟩] [])
 .ret)))),
 [.tmp 4]⟩

/-- cenotaph/vec.Same -/
def c95 : CF := ⟨
 (.seq
 (.reg false [
   ⟨(some 4), (.mv (.c (.val (.bool false)))), none⟩] [])
 (.seq
 (.reg false [
   ⟨(some 5), (.mv (.t 0)), none⟩,
   ⟨(some 6), (.mv (.t 1)), none⟩,
   ⟨(some 7), (.call (.c (.fn 186 [])) [(.t 5), (.t 6)]), none⟩,
   ⟨(some 4), (.mv (.t 7)), none⟩] [])
 .ret)),
 [.tmp 4]⟩

/-- cenotaph/matrix.Same -/
def c96 : CF := ⟨
 (.seq
 (.reg false [
   ⟨(some 4), (.mv (.c (.val (.bool false)))), none⟩] [])
 (.seq
 (.reg false [
   ⟨(some 5), (.mv (.t 0)), none⟩,
   ⟨(some 6), (.mv (.t 1)), none⟩,
   ⟨(some 7), (.call (.c (.fn 187 [])) [(.t 5), (.t 6), (.c (.fn 188 []))]), none⟩,
   ⟨(some 4), (.mv (.t 7)), none⟩] [])
 .ret)),
 [.tmp 4]⟩

/-- cenotaph/zone.Same -/
def c97 : CF := ⟨
 (.seq
 (.reg false [
   ⟨(some 4), (.mv (.c (.val (.bool false)))), none⟩] [])
 (.seq
 (.reg false [
   ⟨(some 5), (.mv (.t 0)), none⟩,
   ⟨(some 6), (.mv (.t 1)), none⟩,
   ⟨(some 7), (.call (.c (.fn 189 [])) [(.t 5), (.t 6)]), none⟩,
   ⟨(some 4), (.mv (.t 7)), none⟩] [])
 .ret)),
 [.tmp 4]⟩

def L98_0 : CC :=
 (.seq
 (.reg false [
   ⟨(some 14), (.bin .lss 3 false false (.t 13) (.t 12)), none⟩] [])
 (.seq
 (.cond (.t 14)
  .skip
  (.exit 0))
 (.seq
 (.block 1
  (.seq
  (.reg false [
    ⟨(some 15), (.mv (.t 13)), none⟩,
    ⟨(some 5), (.mv (.t 15)), none⟩] [])
  (.seq
  (.reg true [
    ⟨(some 16), (.mv (.t 0)), none⟩,
    ⟨(some 17), (.mv (.t 5)), none⟩,
    ⟨(some 18), (.ias 8 (.t 16) (.t 17)), none⟩,
    ⟨(some 19), (.ld 8 true (.t 18)), none⟩,
    ⟨(some 20), (.mv (.t 1)), none⟩,
    ⟨(some 21), (.mv (.t 5)), none⟩,
    ⟨(some 22), (.ias 8 (.t 20) (.t 21)), none⟩,
    ⟨(some 23), (.ld 8 true (.t 22)), none⟩,
    ⟨(some 24), (.bin .neq 142 false false (.t 19) (.t 23)), none⟩] [])
  (.cond (.t 24)
   (.seq
   (.reg false [
     ⟨(some 4), (.mv (.c (.val (.bool false)))), none⟩] [])
   .ret)
   .skip))))
 (.reg false [
   ⟨(some 25), (.bin .add 3 false true (.t 13) (.c (.val (.int .i64 1)))), none⟩,
   ⟨(some 13), (.mv (.t 25)), none⟩] []))))

/-- slices.Equal[[]cenotaph/item.Item,cenotaph/item.Item] -/
def c98 : CF := ⟨
 (.seq
 (.reg false [
   ⟨(some 4), (.mv (.c (.val (.bool false)))), none⟩] [])
 (.seq
 (.seq
 (.reg false [
   ⟨(some 6), (.mv (.t 0)), none⟩,
   ⟨(some 7), (.len false (.t 6)), none⟩,
   ⟨(some 8), (.mv (.t 1)), none⟩,
   ⟨(some 9), (.len false (.t 8)), none⟩,
   ⟨(some 10), (.bin .neq 3 false false (.t 7) (.t 9)), none⟩] [])
 (.cond (.t 10)
  (.seq
  (.reg false [
    ⟨(some 4), (.mv (.c (.val (.bool false)))), none⟩] [])
  .ret)
  .skip))
 (.seq
 (.seq
 (.reg false [
   ⟨(some 11), (.mv (.t 0)), none⟩,
   ⟨(some 12), (.len false (.t 11)), none⟩,
   ⟨(some 13), (.mv (.c (.val (.int .i64 0)))), none⟩] [])
 (.block 0
  (.loop L98_0)))
 (.seq
 (.reg false [
   ⟨(some 4), (.mv (.c (.val (.bool true)))), none⟩] [])
 .ret)))),
 [.tmp 4]⟩

/-- cenotaph/cenotaphlaw05.Spot -/
def c129 : CF := ⟨
 (.seq
 (.reg false [
   ⟨(some 1), (.box (.t 0)), none⟩,
   ⟨(some 2), (.mv (.c (.val (.complex .f64 0 0)))), none⟩] [])
 (.seq
 (.reg false [
   ⟨(some 3), (.fad 0 (.t 1)), none⟩,
   ⟨(some 4), (.ld 1 false (.t 3)), none⟩,
   ⟨(some 5), (.cv 3 226 (.t 4)), none⟩,
   ⟨(some 6), (.fad 1 (.t 1)), none⟩,
   ⟨(some 7), (.ld 1 false (.t 6)), none⟩,
   ⟨(some 8), (.cv 3 226 (.t 7)), none⟩,
   ⟨(some 9), (.fun_ .complex #[226, 226] 95 [(.t 5), (.t 8)]), none⟩,
   ⟨(some 2), (.mv (.t 9)), none⟩] [])
 .ret)),
 [.tmp 2]⟩

def L131_0 : CC :=
 (.seq
 (.reg false [
   ⟨(some 9), (.bin .lss 3 false false (.t 8) (.t 7)), none⟩] [])
 (.seq
 (.cond (.t 9)
  .skip
  (.exit 0))
 (.seq
 (.block 1
  (.seq
  (.reg false [
    ⟨(some 10), (.mv (.t 8)), none⟩,
    ⟨(some 5), (.mv (.t 10)), none⟩] [])
  (.seq
  (.reg false [
    ⟨(some 11), (.mv (.t 1)), none⟩,
    ⟨(some 12), (.mv (.t 0)), none⟩,
    ⟨(some 13), (.mv (.t 5)), none⟩,
    ⟨(some 14), (.ias 1 (.t 12) (.t 13)), none⟩,
    ⟨(some 15), (.ld 1 false (.t 14)), none⟩,
    ⟨(some 16), (.bin .eql 9 false false (.t 11) (.t 15)), none⟩] [])
  (.cond (.t 16)
   (.seq
   (.reg false [
     ⟨(some 17), (.mv (.t 5)), none⟩,
     ⟨(some 4), (.mv (.t 17)), none⟩] [])
   .ret)
   .skip))))
 (.reg false [
   ⟨(some 18), (.bin .add 3 false true (.t 8) (.c (.val (.int .i64 1)))), none⟩,
   ⟨(some 8), (.mv (.t 18)), none⟩] []))))

/-- slices.Index[[]string,string] -/
def c131 : CF := ⟨
 (.seq
 (.reg false [
   ⟨(some 4), (.mv (.c (.val (.int .i64 0)))), none⟩] [])
 (.seq
 (.seq
 (.reg false [
   ⟨(some 6), (.mv (.t 0)), none⟩,
   ⟨(some 7), (.len false (.t 6)), none⟩,
   ⟨(some 8), (.mv (.c (.val (.int .i64 0)))), none⟩] [])
 (.block 0
  (.loop L131_0)))
 (.seq
 (.reg false [
   ⟨(some 4), (.mv (.c (.val (.int .i64 (-1))))), none⟩] [])
 .ret))),
 [.tmp 4]⟩

/-- cenotaph/cenotaphref05.Num -/
def c135 : CF := ⟨
 (.seq
 (.reg false [
   ⟨(some 2), (.mv (.c (.val (.string ⟨#[]⟩)))), none⟩] [])
 (.seq
 (.seq
 (.reg false [
   ⟨(some 3), (.mv (.t 0)), none⟩,
   ⟨(some 4), (.bin .lss 3 false true (.t 3) (.c (.val (.int .i64 0)))), none⟩,
   ⟨(some 5), (.mv (.t 4)), none⟩,
   ⟨(some 6), (.mv (.t 0)), (some (5, true))⟩,
   ⟨(some 7), (.bin .gtr 3 false true (.t 6) (.c (.val (.int .i64 (-1000000000))))), (some (5, true))⟩,
   ⟨(some 8), (.pick (.t 5) (.t 7) (.c (.val (.bool false)))), none⟩] [])
 (.cond (.t 8)
  (.seq
  (.reg false [
    ⟨(some 9), (.mv (.t 0)), none⟩,
    ⟨(some 10), (.un .neg (.t 9)), none⟩,
    ⟨(some 11), (.call (.c (.fn 135 [])) [(.t 10)]), none⟩,
    ⟨(some 12), (.bin .add 9 true false (.c (.val (.string ⟨#[45]⟩))) (.t 11)), none⟩,
    ⟨(some 2), (.mv (.t 12)), none⟩] [])
  .ret)
  .skip))
 (.seq
 (.seq
 (.reg false [
   ⟨(some 13), (.mv (.t 0)), none⟩,
   ⟨(some 14), (.bin .lss 3 false true (.t 13) (.c (.val (.int .i64 10)))), none⟩] [])
 (.cond (.t 14)
  (.seq
  (.reg false [
    ⟨(some 15), (.mv (.t 0)), none⟩,
    ⟨(some 16), (.fun_ .max #[3, 3] 3 [(.t 15), (.c (.val (.int .i64 0)))]), none⟩,
    ⟨(some 17), (.mv (.t 0)), none⟩,
    ⟨(some 18), (.fun_ .max #[3, 3] 3 [(.t 17), (.c (.val (.int .i64 0)))]), none⟩,
    ⟨(some 19), (.bin .add 3 false true (.t 18) (.c (.val (.int .i64 1)))), none⟩,
    ⟨(some 20), (.slc 0 (.c (.val (.string ⟨#[48, 49, 50, 51, 52, 53, 54, 55, 56, 57]⟩))) (some (.t 16)) (some (.t 19)) none), none⟩,
    ⟨(some 2), (.mv (.t 20)), none⟩] [])
  .ret)
  .skip))
 (.seq
 (.reg true [
   ⟨(some 21), (.mv (.t 0)), none⟩,
   ⟨(some 22), (.bin .quo 3 false true (.t 21) (.c (.val (.int .i64 10)))), none⟩,
   ⟨(some 23), (.call (.c (.fn 135 [])) [(.t 22)]), none⟩,
   ⟨(some 24), (.mv (.t 0)), none⟩,
   ⟨(some 25), (.bin .rem 3 false true (.t 24) (.c (.val (.int .i64 10)))), none⟩,
   ⟨(some 26), (.mv (.t 0)), none⟩,
   ⟨(some 27), (.bin .rem 3 false true (.t 26) (.c (.val (.int .i64 10)))), none⟩,
   ⟨(some 28), (.bin .add 3 false true (.t 27) (.c (.val (.int .i64 1)))), none⟩,
   ⟨(some 29), (.slc 0 (.c (.val (.string ⟨#[48, 49, 50, 51, 52, 53, 54, 55, 56, 57]⟩))) (some (.t 25)) (some (.t 28)) none), none⟩,
   ⟨(some 30), (.bin .add 9 false false (.t 23) (.t 29)), none⟩,
   ⟨(some 2), (.mv (.t 30)), none⟩] [(2, 8)])
 .ret)))),
 [.tmp 2]⟩

/-- cenotaph/cenotaphref05.Whole -/
def c136 : CF := ⟨
 (.seq
 (.reg false [
   ⟨(some 1), (.box (.t 0)), none⟩,
   ⟨(some 2), (.mv (.c (.val (.bool false)))), none⟩] [])
 (.seq
 (.reg false [
   ⟨(some 3), (.fad 0 (.t 1)), none⟩,
   ⟨(some 4), (.ld 1 false (.t 3)), none⟩,
   ⟨(some 5), (.call (.c (.fn 158 [])) [(.t 4), (.c (.val (.int .i64 1000)))]), none⟩,
   ⟨(some 6), (.mv (.t 5)), none⟩,
   ⟨(some 7), (.fad 1 (.t 1)), (some (6, true))⟩,
   ⟨(some 8), (.ld 1 false (.t 7)), (some (6, true))⟩,
   ⟨(some 9), (.call (.c (.fn 158 [])) [(.t 8), (.c (.val (.int .i64 1000)))]), (some (6, true))⟩,
   ⟨(some 10), (.pick (.t 6) (.t 9) (.c (.val (.bool false)))), none⟩,
   ⟨(some 2), (.mv (.t 10)), none⟩] [])
 .ret)),
 [.tmp 2]⟩

/-- strings.HasPrefix -/
def c144 : CF := ⟨
 (.seq
 (.reg false [
   ⟨(some 4), (.mv (.c (.val (.bool false)))), none⟩] [])
 (.seq
 (.reg false [
   ⟨(some 5), (.mv (.t 0)), none⟩,
   ⟨(some 6), (.mv (.t 1)), none⟩,
   ⟨(some 7), (.call (.c (.fn 212 [])) [(.t 5), (.t 6)]), none⟩,
   ⟨(some 4), (.mv (.t 7)), none⟩] [])
 .ret)),
 [.tmp 4]⟩

def L145_0 : CC :=
 (.seq
 (.reg false [
   ⟨(some 8), (.bin .lss 3 false false (.t 7) (.t 6)), none⟩] [])
 (.seq
 (.cond (.t 8)
  .skip
  (.exit 0))
 (.seq
 (.block 1
  (.seq
  (.reg false [
    ⟨(some 9), (.mv (.t 7)), none⟩,
    ⟨(some 10), (.ias 3 (.t 5) (.t 7)), none⟩,
    ⟨(some 11), (.ld 3 true (.t 10)), none⟩,
    ⟨(some 4), (.alloc [(.val (.string ⟨#[]⟩)), (.val (.int .i64 0)), (.im [] true)]), none⟩,
    ⟨(some 3), (.mv (.t 9)), none⟩,
    ⟨none, (.st 3 (.t 4) (.t 11)), none⟩] [])
  (.seq
  (.reg true [
    ⟨(some 12), (.fad 0 (.t 4)), none⟩,
    ⟨(some 13), (.ld 1 false (.t 12)), none⟩,
    ⟨(some 14), (.call (.c (.fn 50 [])) [(.t 13)]), none⟩,
    ⟨(some 15), (.un .not (.t 14)), none⟩,
    ⟨(some 16), (.mv (.t 15)), none⟩,
    ⟨(some 17), (.fad 1 (.t 4)), (some (16, false))⟩,
    ⟨(some 18), (.ld 2 true (.t 17)), (some (16, false))⟩,
    ⟨(some 19), (.call (.c (.fn 213 [])) [(.t 18)]), (some (16, false))⟩,
    ⟨(some 20), (.un .not (.t 19)), (some (16, false))⟩,
    ⟨(some 21), (.pick (.t 16) (.c (.val (.bool true))) (.t 20)), none⟩,
    ⟨(some 22), (.mv (.t 21)), none⟩,
    ⟨(some 23), (.fad 1 (.t 4)), (some (22, false))⟩,
    ⟨(some 24), (.ld 2 true (.t 23)), (some (22, false))⟩,
    ⟨(some 25), (.call (.c (.fn 214 [])) [(.t 24)]), (some (22, false))⟩,
    ⟨(some 26), (.bin .eql 3 false true (.t 25) (.c (.val (.int .i64 0)))), (some (22, false))⟩,
    ⟨(some 27), (.pick (.t 22) (.c (.val (.bool true))) (.t 26)), none⟩,
    ⟨(some 28), (.mv (.t 27)), none⟩,
    ⟨(some 29), (.mv (.t 3)), (some (28, false))⟩,
    ⟨(some 30), (.bin .gtr 3 false true (.t 29) (.c (.val (.int .i64 0)))), (some (28, false))⟩,
    ⟨(some 31), (.mv (.t 30)), (some (28, false))⟩,
    ⟨(some 32), (.mv (.t 0)), (some (31, true))⟩,
    ⟨(some 33), (.mv (.t 3)), (some (31, true))⟩,
    ⟨(some 34), (.bin .sub 3 false true (.t 33) (.c (.val (.int .i64 1)))), (some (31, true))⟩,
    ⟨(some 35), (.ias 3 (.t 32) (.t 34)), (some (31, true))⟩,
    ⟨(some 36), (.ld 3 true (.t 35)), (some (31, true))⟩,
    ⟨(some 37), (.ld 3 true (.t 4)), (some (31, true))⟩,
    ⟨(some 38), (.call (.c (.fn 215 [])) [(.t 36), (.t 37)]), (some (31, true))⟩,
    ⟨(some 39), (.bin .geq 3 false true (.t 38) (.c (.val (.int .i64 0)))), (some (31, true))⟩,
    ⟨(some 40), (.pick (.t 31) (.t 39) (.c (.val (.bool false)))), (some (28, false))⟩,
    ⟨(some 41), (.pick (.t 28) (.c (.val (.bool true))) (.t 40)), none⟩] [])
  (.cond (.t 41)
   (.seq
   (.reg false [
     ⟨(some 2), (.mv (.c (.val (.bool false)))), none⟩] [])
   .ret)
   .skip))))
 (.reg false [
   ⟨(some 42), (.bin .add 3 false true (.t 7) (.c (.val (.int .i64 1)))), none⟩,
   ⟨(some 7), (.mv (.t 42)), none⟩] []))))

/-- cenotaph/know.Right -/
def c145 : CF := ⟨
 (.seq
 (.reg false [
   ⟨(some 2), (.mv (.c (.val (.bool false)))), none⟩] [])
 (.seq
 (.seq
 (.reg false [
   ⟨(some 5), (.mv (.t 0)), none⟩,
   ⟨(some 6), (.len false (.t 5)), none⟩,
   ⟨(some 7), (.mv (.c (.val (.int .i64 0)))), none⟩] [])
 (.block 0
  (.loop L145_0)))
 (.seq
 (.reg false [
   ⟨(some 2), (.mv (.c (.val (.bool true)))), none⟩] [])
 .ret))),
 [.tmp 2]⟩

def L146_0 : CC :=
 (.seq
 (.reg false [
   ⟨(some 8), (.bin .lss 3 false false (.t 7) (.t 6)), none⟩] [])
 (.seq
 (.cond (.t 8)
  .skip
  (.exit 0))
 (.seq
 (.block 1
  (.seq
  (.reg false [
    ⟨(some 9), (.mv (.t 7)), none⟩,
    ⟨(some 10), (.ias 1 (.t 5) (.t 7)), none⟩,
    ⟨(some 11), (.ld 1 false (.t 10)), none⟩,
    ⟨(some 3), (.mv (.t 9)), none⟩,
    ⟨(some 4), (.mv (.t 11)), none⟩] [])
  (.seq
  (.reg false [
    ⟨(some 12), (.mv (.t 4)), none⟩,
    ⟨(some 13), (.call (.c (.fn 50 [])) [(.t 12)]), none⟩,
    ⟨(some 14), (.un .not (.t 13)), none⟩,
    ⟨(some 15), (.mv (.t 14)), none⟩,
    ⟨(some 16), (.mv (.t 3)), (some (15, false))⟩,
    ⟨(some 17), (.bin .gtr 3 false true (.t 16) (.c (.val (.int .i64 0)))), (some (15, false))⟩,
    ⟨(some 18), (.mv (.t 17)), (some (15, false))⟩,
    ⟨(some 19), (.mv (.t 0)), (some (18, true))⟩,
    ⟨(some 20), (.mv (.t 3)), (some (18, true))⟩,
    ⟨(some 21), (.bin .sub 3 false true (.t 20) (.c (.val (.int .i64 1)))), (some (18, true))⟩,
    ⟨(some 22), (.ias 1 (.t 19) (.t 21)), (some (18, true))⟩,
    ⟨(some 23), (.ld 1 false (.t 22)), (some (18, true))⟩,
    ⟨(some 24), (.mv (.t 4)), (some (18, true))⟩,
    ⟨(some 25), (.call (.c (.fn 216 [])) [(.t 23), (.t 24)]), (some (18, true))⟩,
    ⟨(some 26), (.bin .geq 3 false true (.t 25) (.c (.val (.int .i64 0)))), (some (18, true))⟩,
    ⟨(some 27), (.pick (.t 18) (.t 26) (.c (.val (.bool false)))), (some (15, false))⟩,
    ⟨(some 28), (.pick (.t 15) (.c (.val (.bool true))) (.t 27)), none⟩] [])
  (.cond (.t 28)
   (.seq
   (.reg false [
     ⟨(some 2), (.mv (.c (.val (.bool false)))), none⟩] [])
   .ret)
   .skip))))
 (.reg false [
   ⟨(some 29), (.bin .add 3 false true (.t 7) (.c (.val (.int .i64 1)))), none⟩,
   ⟨(some 7), (.mv (.t 29)), none⟩] []))))

/-- cenotaph/frame.membersRight -/
def c146 : CF := ⟨
 (.seq
 (.reg false [
   ⟨(some 2), (.mv (.c (.val (.bool false)))), none⟩] [])
 (.seq
 (.seq
 (.reg false [
   ⟨(some 5), (.mv (.t 0)), none⟩,
   ⟨(some 6), (.len false (.t 5)), none⟩,
   ⟨(some 7), (.mv (.c (.val (.int .i64 0)))), none⟩] [])
 (.block 0
  (.loop L146_0)))
 (.seq
 (.reg false [
   ⟨(some 30), (.mv (.t 0)), none⟩,
   ⟨(some 31), (.len false (.t 30)), none⟩,
   ⟨(some 32), (.bin .leq 3 false true (.t 31) (.c (.val (.int .i64 64)))), none⟩,
   ⟨(some 2), (.mv (.t 32)), none⟩] [])
 .ret))),
 [.tmp 2]⟩

/-- cenotaph/frame.rowsRight -/
def c147 : CF := ⟨
 (.seq
 (.reg false [
   ⟨(some 2), (.mv (.c (.val (.bool false)))), none⟩] [])
 (.seq
 (.reg false [
   ⟨(some 3), (.mv (.t 0)), none⟩,
   ⟨(some 4), (.len false (.t 3)), none⟩,
   ⟨(some 5), (.bin .leq 3 false true (.t 4) (.c (.val (.int .i64 64)))), none⟩,
   ⟨(some 6), (.mv (.t 5)), none⟩,
   ⟨(some 7), (.mv (.t 0)), (some (6, true))⟩,
   ⟨(some 8), (.call (.c (.fn 217 [])) [(.t 7)]), (some (6, true))⟩,
   ⟨(some 9), (.pick (.t 6) (.t 8) (.c (.val (.bool false)))), none⟩,
   ⟨(some 10), (.mv (.t 9)), none⟩,
   ⟨(some 11), (.mv (.t 0)), (some (10, true))⟩,
   ⟨(some 12), (.call (.c (.fn 218 [])) [(.t 11), (.c (.fn 219 []))]), (some (10, true))⟩,
   ⟨(some 13), (.un .not (.t 12)), (some (10, true))⟩,
   ⟨(some 14), (.pick (.t 10) (.t 13) (.c (.val (.bool false)))), none⟩,
   ⟨(some 2), (.mv (.t 14)), none⟩] [])
 .ret)),
 [.tmp 2]⟩

/-- cenotaph/frame.itemsRight -/
def c148 : CF := ⟨
 (.seq
 (.reg false [
   ⟨(some 3), (.box (.t 1)), none⟩,
   ⟨(some 4), (.mv (.c (.val (.bool false)))), none⟩] [])
 (.seq
 (.reg false [
   ⟨(some 5), (.mv (.t 0)), none⟩,
   ⟨(some 6), (.len false (.t 5)), none⟩,
   ⟨(some 7), (.bin .leq 3 false true (.t 6) (.c (.val (.int .i64 32)))), none⟩,
   ⟨(some 8), (.mv (.t 7)), none⟩,
   ⟨(some 9), (.mv (.t 0)), (some (8, true))⟩,
   ⟨(some 10), (.mkf 221 [(.t 3)]), (some (8, true))⟩,
   ⟨(some 11), (.call (.c (.fn 220 [])) [(.t 9), (.t 10)]), (some (8, true))⟩,
   ⟨(some 12), (.un .not (.t 11)), (some (8, true))⟩,
   ⟨(some 13), (.pick (.t 8) (.t 12) (.c (.val (.bool false)))), none⟩,
   ⟨(some 4), (.mv (.t 13)), none⟩] [])
 .ret)),
 [.tmp 4]⟩

/-- (cenotaph/zone.Step).right -/
def c149 : CF := ⟨
 (.seq
 (.reg false [
   ⟨(some 1), (.box (.t 0)), none⟩,
   ⟨(some 2), (.mv (.c (.val (.bool false)))), none⟩] [])
 (.seq
 (.seq
 (.reg false [
   ⟨(some 3), (.fad 0 (.t 1)), none⟩,
   ⟨(some 4), (.ld 1 false (.t 3)), none⟩] [])
 (.block 0
  (.seq
  (.reg false [
    ⟨(some 6), (.bin .eql 3 false true (.t 4) (.c (.val (.int .i64 2)))), none⟩,
    ⟨(some 5), (.mv (.t 6)), none⟩] [])
  (.cond (.t 5)
   (.seq
   (.reg false [
     ⟨(some 7), (.fad 1 (.t 1)), none⟩,
     ⟨(some 8), (.ld 1 false (.t 7)), none⟩,
     ⟨(some 9), (.call (.c (.fn 202 [])) [(.t 8)]), none⟩,
     ⟨(some 10), (.mv (.t 9)), none⟩,
     ⟨(some 11), (.fad 2 (.t 1)), (some (10, true))⟩,
     ⟨(some 12), (.ld 1 false (.t 11)), (some (10, true))⟩,
     ⟨(some 13), (.call (.c (.fn 222 [])) [(.t 12), (.c (.val (.float .f64 0))), (.c (.val (.float .f64 4656510908468559872)))]), (some (10, true))⟩,
     ⟨(some 14), (.pick (.t 10) (.t 13) (.c (.val (.bool false)))), none⟩,
     ⟨(some 2), (.mv (.t 14)), none⟩] [])
   .ret)
   (.seq
   (.reg false [
     ⟨(some 16), (.bin .eql 3 false true (.t 4) (.c (.val (.int .i64 3)))), none⟩,
     ⟨(some 15), (.mv (.t 16)), none⟩] [])
   (.cond (.t 15)
    (.seq
    (.reg false [
      ⟨(some 17), (.fad 1 (.t 1)), none⟩,
      ⟨(some 18), (.ld 1 false (.t 17)), none⟩,
      ⟨(some 19), (.call (.c (.fn 202 [])) [(.t 18)]), none⟩,
      ⟨(some 20), (.mv (.t 19)), none⟩,
      ⟨(some 21), (.fad 2 (.t 1)), (some (20, true))⟩,
      ⟨(some 22), (.ld 1 false (.t 21)), (some (20, true))⟩,
      ⟨(some 23), (.call (.c (.fn 222 [])) [(.t 22), (.c (.val (.float .f64 13924712783166832640))), (.c (.val (.float .f64 4701340746312056832)))]), (some (20, true))⟩,
      ⟨(some 24), (.pick (.t 20) (.t 23) (.c (.val (.bool false)))), none⟩,
      ⟨(some 2), (.mv (.t 24)), none⟩] [])
    .ret)
    (.seq
    (.seq
    (.reg false [
      ⟨(some 26), (.bin .eql 3 false true (.t 4) (.c (.val (.int .i64 1)))), none⟩,
      ⟨(some 25), (.mv (.t 26)), none⟩] [])
    (.cond (.t 25)
     .skip
     (.seq
     (.reg false [
       ⟨(some 27), (.bin .eql 3 false true (.t 4) (.c (.val (.int .i64 4)))), none⟩,
       ⟨(some 25), (.mv (.t 27)), none⟩] [])
     (.cond (.t 25)
      .skip
      (.seq
      (.reg false [
        ⟨(some 28), (.bin .eql 3 false true (.t 4) (.c (.val (.int .i64 5)))), none⟩,
        ⟨(some 25), (.mv (.t 28)), none⟩] [])
      (.cond (.t 25)
       .skip
       (.reg false [
         ⟨(some 29), (.bin .eql 3 false true (.t 4) (.c (.val (.int .i64 6)))), none⟩,
         ⟨(some 25), (.mv (.t 29)), none⟩] [])))))))
    (.cond (.t 25)
     (.seq
     (.reg false [
       ⟨(some 30), (.fad 1 (.t 1)), none⟩,
       ⟨(some 31), (.ld 1 false (.t 30)), none⟩,
       ⟨(some 32), (.bin .eql 95 false true (.t 31) (.c (.val (.complex .f64 0 0)))), none⟩,
       ⟨(some 33), (.mv (.t 32)), none⟩,
       ⟨(some 34), (.fad 2 (.t 1)), (some (33, true))⟩,
       ⟨(some 35), (.ld 1 false (.t 34)), (some (33, true))⟩,
       ⟨(some 36), (.bin .eql 226 false true (.t 35) (.c (.val (.float .f64 0)))), (some (33, true))⟩,
       ⟨(some 37), (.pick (.t 33) (.t 36) (.c (.val (.bool false)))), none⟩,
       ⟨(some 2), (.mv (.t 37)), none⟩] [])
     .ret)
     .skip))))))))
 (.seq
 (.reg false [
   ⟨(some 2), (.mv (.c (.val (.bool false)))), none⟩] [])
 .ret))),
 [.tmp 2]⟩

/-- (cenotaph/zone.Step).needs -/
def c150 : CF := ⟨
 (.seq
 (.reg false [
   ⟨(some 1), (.box (.t 0)), none⟩,
   ⟨(some 2), (.mv (.c (.val (.int .i64 0)))), none⟩] [])
 (.seq
 (.seq
 (.reg false [
   ⟨(some 3), (.fad 0 (.t 1)), none⟩,
   ⟨(some 4), (.ld 1 false (.t 3)), none⟩] [])
 (.block 0
  (.seq
  (.reg false [
    ⟨(some 6), (.bin .eql 3 false true (.t 4) (.c (.val (.int .i64 4)))), none⟩,
    ⟨(some 5), (.mv (.t 6)), none⟩] [])
  (.cond (.t 5)
   (.seq
   (.reg false [
     ⟨(some 2), (.mv (.c (.val (.int .i64 1)))), none⟩] [])
   .ret)
   (.seq
   (.seq
   (.reg false [
     ⟨(some 8), (.bin .eql 3 false true (.t 4) (.c (.val (.int .i64 5)))), none⟩,
     ⟨(some 7), (.mv (.t 8)), none⟩] [])
   (.cond (.t 7)
    .skip
    (.reg false [
      ⟨(some 9), (.bin .eql 3 false true (.t 4) (.c (.val (.int .i64 6)))), none⟩,
      ⟨(some 7), (.mv (.t 9)), none⟩] [])))
   (.cond (.t 7)
    (.seq
    (.reg false [
      ⟨(some 2), (.mv (.c (.val (.int .i64 2)))), none⟩] [])
    .ret)
    .skip))))))
 (.seq
 (.reg false [
   ⟨(some 2), (.mv (.c (.val (.int .i64 0)))), none⟩] [])
 .ret))),
 [.tmp 2]⟩

def L151_0 : CC :=
 (.seq
 (.reg false [
   ⟨(some 8), (.bin .lss 3 false false (.t 7) (.t 6)), none⟩] [])
 (.seq
 (.cond (.t 8)
  .skip
  (.exit 0))
 (.seq
 (.block 1
  (.seq
  (.reg false [
    ⟨(some 9), (.mv (.t 7)), none⟩,
    ⟨(some 10), (.ias 2 (.t 5) (.t 7)), none⟩,
    ⟨(some 11), (.ld 2 true (.t 10)), none⟩,
    ⟨(some 4), (.alloc [(.val (.string ⟨#[]⟩)), (.val (.int .i64 0))]), none⟩,
    ⟨(some 3), (.mv (.t 9)), none⟩,
    ⟨none, (.st 2 (.t 4) (.t 11)), none⟩] [])
  (.seq
  (.reg true [
    ⟨(some 12), (.fad 0 (.t 4)), none⟩,
    ⟨(some 13), (.ld 1 false (.t 12)), none⟩,
    ⟨(some 14), (.call (.c (.fn 50 [])) [(.t 13)]), none⟩,
    ⟨(some 15), (.un .not (.t 14)), none⟩,
    ⟨(some 16), (.mv (.t 15)), none⟩,
    ⟨(some 17), (.fad 1 (.t 4)), (some (16, false))⟩,
    ⟨(some 18), (.ld 1 false (.t 17)), (some (16, false))⟩,
    ⟨(some 19), (.bin .lss 3 false true (.t 18) (.c (.val (.int .i64 1)))), (some (16, false))⟩,
    ⟨(some 20), (.pick (.t 16) (.c (.val (.bool true))) (.t 19)), none⟩,
    ⟨(some 21), (.mv (.t 20)), none⟩,
    ⟨(some 22), (.fad 1 (.t 4)), (some (21, false))⟩,
    ⟨(some 23), (.ld 1 false (.t 22)), (some (21, false))⟩,
    ⟨(some 24), (.bin .gtr 3 false true (.t 23) (.c (.val (.int .i64 1048576)))), (some (21, false))⟩,
    ⟨(some 25), (.pick (.t 21) (.c (.val (.bool true))) (.t 24)), none⟩,
    ⟨(some 26), (.mv (.t 25)), none⟩,
    ⟨(some 27), (.mv (.t 3)), (some (26, false))⟩,
    ⟨(some 28), (.bin .gtr 3 false true (.t 27) (.c (.val (.int .i64 0)))), (some (26, false))⟩,
    ⟨(some 29), (.mv (.t 28)), (some (26, false))⟩,
    ⟨(some 30), (.mv (.t 0)), (some (29, true))⟩,
    ⟨(some 31), (.mv (.t 3)), (some (29, true))⟩,
    ⟨(some 32), (.bin .sub 3 false true (.t 31) (.c (.val (.int .i64 1)))), (some (29, true))⟩,
    ⟨(some 33), (.ias 2 (.t 30) (.t 32)), (some (29, true))⟩,
    ⟨(some 34), (.ld 2 true (.t 33)), (some (29, true))⟩,
    ⟨(some 35), (.ld 2 true (.t 4)), (some (29, true))⟩,
    ⟨(some 36), (.call (.c (.fn 223 [])) [(.t 34), (.t 35)]), (some (29, true))⟩,
    ⟨(some 37), (.bin .geq 3 false true (.t 36) (.c (.val (.int .i64 0)))), (some (29, true))⟩,
    ⟨(some 38), (.pick (.t 29) (.t 37) (.c (.val (.bool false)))), (some (26, false))⟩,
    ⟨(some 39), (.pick (.t 26) (.c (.val (.bool true))) (.t 38)), none⟩] [])
  (.cond (.t 39)
   (.seq
   (.reg false [
     ⟨(some 2), (.mv (.c (.val (.bool false)))), none⟩] [])
   .ret)
   .skip))))
 (.reg false [
   ⟨(some 40), (.bin .add 3 false true (.t 7) (.c (.val (.int .i64 1)))), none⟩,
   ⟨(some 7), (.mv (.t 40)), none⟩] []))))

/-- cenotaph/vec.Right -/
def c151 : CF := ⟨
 (.seq
 (.reg false [
   ⟨(some 2), (.mv (.c (.val (.bool false)))), none⟩] [])
 (.seq
 (.seq
 (.reg false [
   ⟨(some 5), (.mv (.t 0)), none⟩,
   ⟨(some 6), (.len false (.t 5)), none⟩,
   ⟨(some 7), (.mv (.c (.val (.int .i64 0)))), none⟩] [])
 (.block 0
  (.loop L151_0)))
 (.seq
 (.reg false [
   ⟨(some 2), (.mv (.c (.val (.bool true)))), none⟩] [])
 .ret))),
 [.tmp 2]⟩

/-- cenotaph/cenotaphlaw02.To -/
def c152 : CF := ⟨
 (.seq
 (.reg false [
   ⟨(some 1), (.box (.t 0)), none⟩,
   ⟨(some 2), (.alloc [(.val (.int .i64 0)), (.im [] true)]), none⟩] [])
 (.seq
 (.reg true [
   ⟨(some 3), (.fad 0 (.t 1)), none⟩,
   ⟨(some 4), (.ld 1 false (.t 3)), none⟩,
   ⟨(some 5), (.bsl 1 0 [] []), none⟩,
   ⟨(some 6), (.fad 1 (.t 1)), none⟩,
   ⟨(some 7), (.ld 1 false (.t 6)), none⟩,
   ⟨(some 8), (.app 1 (.t 5) (.t 7)), none⟩,
   ⟨(some 9), (.build [(.val (.int .i64 0)), (.im [] true)] [(0, 1, (.t 4)), (1, 1, (.t 8))]), none⟩,
   ⟨none, (.st 2 (.t 2) (.t 9)), none⟩] [(1, 2), (2, 4), (1, 5)])
 .ret)),
 [.cell 2 2 true]⟩

/-- cenotaph/cenotaphlaw07.To -/
def c153 : CF := ⟨
 (.seq
 (.reg false [
   ⟨(some 1), (.box (.t 0)), none⟩,
   ⟨(some 2), (.alloc [(.val (.int .i64 0)), (.val (.string ⟨#[]⟩)), (.val (.int .i64 0)), (.val (.int .i64 0)), (.val (.bool false)), (.val (.complex .f64 0 0)), (.val (.string ⟨#[]⟩)), (.val (.bool false))]), none⟩] [])
 (.seq
 (.reg true [
   ⟨(some 3), (.fad 0 (.t 1)), none⟩,
   ⟨(some 4), (.ld 1 false (.t 3)), none⟩,
   ⟨(some 5), (.fad 1 (.t 1)), none⟩,
   ⟨(some 6), (.ld 3 true (.t 5)), none⟩,
   ⟨(some 7), (.call (.c (.fn 224 [])) [(.t 6)]), none⟩,
   ⟨(some 8), (.fad 4 (.t 1)), none⟩,
   ⟨(some 9), (.ld 1 false (.t 8)), none⟩,
   ⟨(some 10), (.fad 5 (.t 1)), none⟩,
   ⟨(some 11), (.ld 2 true (.t 10)), none⟩,
   ⟨(some 12), (.call (.c (.fn 129 [])) [(.t 11)]), none⟩,
   ⟨(some 13), (.fad 7 (.t 1)), none⟩,
   ⟨(some 14), (.ld 1 false (.t 13)), none⟩,
   ⟨(some 15), (.fad 8 (.t 1)), none⟩,
   ⟨(some 16), (.ld 1 false (.t 15)), none⟩,
   ⟨(some 17), (.build [(.val (.int .i64 0)), (.val (.string ⟨#[]⟩)), (.val (.int .i64 0)), (.val (.int .i64 0)), (.val (.bool false)), (.val (.complex .f64 0 0)), (.val (.string ⟨#[]⟩)), (.val (.bool false))] [(0, 1, (.t 4)), (1, 3, (.t 7)), (4, 1, (.t 9)), (5, 1, (.t 12)), (6, 1, (.t 14)), (7, 1, (.t 16))]), none⟩,
   ⟨none, (.st 8 (.t 2) (.t 17)), none⟩] [(1, 4), (4, 6), (4, 8), (1, 9), (6, 9), (4, 11), (9, 11), (4, 13), (9, 13)])
 .ret)),
 [.cell 2 8 true]⟩

def L154_0 : CC :=
 (.seq
 (.seq
 (.reg false [
   ⟨(some 4), (.mv (.t 3)), none⟩,
   ⟨(some 5), (.mv (.t 0)), none⟩,
   ⟨(some 6), (.len false (.t 5)), none⟩,
   ⟨(some 7), (.bin .lss 3 false false (.t 4) (.t 6)), none⟩] [])
 (.cond (.t 7)
  .skip
  (.exit 0)))
 (.seq
 (.block 1
  (.seq
  (.reg true [
    ⟨(some 10), (.mv (.t 0)), none⟩,
    ⟨(some 11), (.mv (.t 3)), none⟩,
    ⟨(some 12), (.ias 3 (.t 10) (.t 11)), none⟩,
    ⟨(some 13), (.fad 0 (.t 12)), none⟩,
    ⟨(some 14), (.ld 1 false (.t 13)), none⟩,
    ⟨(some 15), (.call (.c (.fn 61 [])) [(.t 14)]), none⟩,
    ⟨(some 16), (.un .not (.t 15)), none⟩,
    ⟨(some 17), (.mv (.t 16)), none⟩,
    ⟨(some 18), (.mv (.t 0)), (some (17, false))⟩,
    ⟨(some 19), (.mv (.t 3)), (some (17, false))⟩,
    ⟨(some 20), (.ias 3 (.t 18) (.t 19)), (some (17, false))⟩,
    ⟨(some 21), (.fad 1 (.t 20)), (some (17, false))⟩,
    ⟨(some 22), (.ld 2 true (.t 21)), (some (17, false))⟩,
    ⟨(some 23), (.call (.c (.fn 225 [])) [(.t 22)]), (some (17, false))⟩,
    ⟨(some 24), (.un .not (.t 23)), (some (17, false))⟩,
    ⟨(some 25), (.pick (.t 17) (.c (.val (.bool true))) (.t 24)), none⟩,
    ⟨(some 26), (.mv (.t 25)), none⟩,
    ⟨(some 27), (.mv (.t 0)), (some (26, false))⟩,
    ⟨(some 28), (.mv (.t 3)), (some (26, false))⟩,
    ⟨(some 29), (.ias 3 (.t 27) (.t 28)), (some (26, false))⟩,
    ⟨(some 30), (.fad 1 (.t 29)), (some (26, false))⟩,
    ⟨(some 31), (.ld 2 true (.t 30)), (some (26, false))⟩,
    ⟨(some 32), (.call (.c (.fn 226 [])) [(.t 31)]), (some (26, false))⟩,
    ⟨(some 33), (.bin .lss 3 false true (.t 32) (.c (.val (.int .i64 1)))), (some (26, false))⟩,
    ⟨(some 34), (.pick (.t 26) (.c (.val (.bool true))) (.t 33)), none⟩,
    ⟨(some 35), (.mv (.t 34)), none⟩,
    ⟨(some 36), (.mv (.t 3)), (some (35, false))⟩,
    ⟨(some 37), (.bin .gtr 3 false true (.t 36) (.c (.val (.int .i64 0)))), (some (35, false))⟩,
    ⟨(some 38), (.mv (.t 37)), (some (35, false))⟩,
    ⟨(some 39), (.mv (.t 0)), (some (38, true))⟩,
    ⟨(some 40), (.mv (.t 3)), (some (38, true))⟩,
    ⟨(some 41), (.bin .sub 3 false true (.t 40) (.c (.val (.int .i64 1)))), (some (38, true))⟩,
    ⟨(some 42), (.ias 3 (.t 39) (.t 41)), (some (38, true))⟩,
    ⟨(some 43), (.fad 0 (.t 42)), (some (38, true))⟩,
    ⟨(some 44), (.ld 1 false (.t 43)), (some (38, true))⟩,
    ⟨(some 45), (.mv (.t 0)), (some (38, true))⟩,
    ⟨(some 46), (.mv (.t 3)), (some (38, true))⟩,
    ⟨(some 47), (.ias 3 (.t 45) (.t 46)), (some (38, true))⟩,
    ⟨(some 48), (.fad 0 (.t 47)), (some (38, true))⟩,
    ⟨(some 49), (.ld 1 false (.t 48)), (some (38, true))⟩,
    ⟨(some 50), (.call (.c (.fn 156 [])) [(.t 44), (.t 49)]), (some (38, true))⟩,
    ⟨(some 51), (.bin .geq 3 false true (.t 50) (.c (.val (.int .i64 0)))), (some (38, true))⟩,
    ⟨(some 52), (.pick (.t 38) (.t 51) (.c (.val (.bool false)))), (some (35, false))⟩,
    ⟨(some 53), (.pick (.t 35) (.c (.val (.bool true))) (.t 52)), none⟩] [])
  (.cond (.t 53)
   (.seq
   (.reg false [
     ⟨(some 2), (.mv (.c (.val (.bool false)))), none⟩] [])
   .ret)
   .skip)))
 (.reg false [
   ⟨(some 8), (.mv (.t 3)), none⟩,
   ⟨(some 9), (.bin .add 3 false true (.t 8) (.c (.val (.int .i64 1)))), none⟩,
   ⟨(some 3), (.mv (.t 9)), none⟩] [])))

/-- cenotaph/cenotaphref04.Right -/
def c154 : CF := ⟨
 (.seq
 (.reg false [
   ⟨(some 2), (.mv (.c (.val (.bool false)))), none⟩] [])
 (.seq
 (.seq
 (.reg false [
   ⟨(some 3), (.mv (.c (.val (.int .i64 0)))), none⟩] [])
 (.block 0
  (.loop L154_0)))
 (.seq
 (.reg false [
   ⟨(some 2), (.mv (.c (.val (.bool true)))), none⟩] [])
 .ret))),
 [.tmp 2]⟩

def L155_0 : CC :=
 (.seq
 (.seq
 (.reg false [
   ⟨(some 4), (.mv (.t 3)), none⟩,
   ⟨(some 5), (.mv (.t 0)), none⟩,
   ⟨(some 6), (.len false (.t 5)), none⟩,
   ⟨(some 7), (.bin .lss 3 false false (.t 4) (.t 6)), none⟩] [])
 (.cond (.t 7)
  .skip
  (.exit 0)))
 (.seq
 (.block 1
  (.seq
  (.reg true [
    ⟨(some 10), (.mv (.t 0)), none⟩,
    ⟨(some 11), (.mv (.t 3)), none⟩,
    ⟨(some 12), (.ias 2 (.t 10) (.t 11)), none⟩,
    ⟨(some 13), (.fad 0 (.t 12)), none⟩,
    ⟨(some 14), (.ld 1 false (.t 13)), none⟩,
    ⟨(some 15), (.call (.c (.fn 61 [])) [(.t 14)]), none⟩,
    ⟨(some 16), (.un .not (.t 15)), none⟩,
    ⟨(some 17), (.mv (.t 16)), none⟩,
    ⟨(some 18), (.mv (.t 0)), (some (17, false))⟩,
    ⟨(some 19), (.mv (.t 3)), (some (17, false))⟩,
    ⟨(some 20), (.ias 2 (.t 18) (.t 19)), (some (17, false))⟩,
    ⟨(some 21), (.fad 1 (.t 20)), (some (17, false))⟩,
    ⟨(some 22), (.ld 1 false (.t 21)), (some (17, false))⟩,
    ⟨(some 23), (.call (.c (.fn 159 [])) [(.t 22)]), (some (17, false))⟩,
    ⟨(some 24), (.un .not (.t 23)), (some (17, false))⟩,
    ⟨(some 25), (.pick (.t 17) (.c (.val (.bool true))) (.t 24)), none⟩,
    ⟨(some 26), (.mv (.t 25)), none⟩,
    ⟨(some 27), (.mv (.t 0)), (some (26, false))⟩,
    ⟨(some 28), (.mv (.t 3)), (some (26, false))⟩,
    ⟨(some 29), (.ias 2 (.t 27) (.t 28)), (some (26, false))⟩,
    ⟨(some 30), (.fad 1 (.t 29)), (some (26, false))⟩,
    ⟨(some 31), (.ld 1 false (.t 30)), (some (26, false))⟩,
    ⟨(some 32), (.len false (.t 31)), (some (26, false))⟩,
    ⟨(some 33), (.bin .lss 3 false true (.t 32) (.c (.val (.int .i64 1)))), (some (26, false))⟩,
    ⟨(some 34), (.pick (.t 26) (.c (.val (.bool true))) (.t 33)), none⟩,
    ⟨(some 35), (.mv (.t 34)), none⟩,
    ⟨(some 36), (.mv (.t 3)), (some (35, false))⟩,
    ⟨(some 37), (.bin .gtr 3 false true (.t 36) (.c (.val (.int .i64 0)))), (some (35, false))⟩,
    ⟨(some 38), (.mv (.t 37)), (some (35, false))⟩,
    ⟨(some 39), (.mv (.t 0)), (some (38, true))⟩,
    ⟨(some 40), (.mv (.t 3)), (some (38, true))⟩,
    ⟨(some 41), (.bin .sub 3 false true (.t 40) (.c (.val (.int .i64 1)))), (some (38, true))⟩,
    ⟨(some 42), (.ias 2 (.t 39) (.t 41)), (some (38, true))⟩,
    ⟨(some 43), (.fad 0 (.t 42)), (some (38, true))⟩,
    ⟨(some 44), (.ld 1 false (.t 43)), (some (38, true))⟩,
    ⟨(some 45), (.mv (.t 0)), (some (38, true))⟩,
    ⟨(some 46), (.mv (.t 3)), (some (38, true))⟩,
    ⟨(some 47), (.ias 2 (.t 45) (.t 46)), (some (38, true))⟩,
    ⟨(some 48), (.fad 0 (.t 47)), (some (38, true))⟩,
    ⟨(some 49), (.ld 1 false (.t 48)), (some (38, true))⟩,
    ⟨(some 50), (.call (.c (.fn 156 [])) [(.t 44), (.t 49)]), (some (38, true))⟩,
    ⟨(some 51), (.bin .geq 3 false true (.t 50) (.c (.val (.int .i64 0)))), (some (38, true))⟩,
    ⟨(some 52), (.pick (.t 38) (.t 51) (.c (.val (.bool false)))), (some (35, false))⟩,
    ⟨(some 53), (.pick (.t 35) (.c (.val (.bool true))) (.t 52)), none⟩] [])
  (.cond (.t 53)
   (.seq
   (.reg false [
     ⟨(some 2), (.mv (.c (.val (.bool false)))), none⟩] [])
   .ret)
   .skip)))
 (.reg false [
   ⟨(some 8), (.mv (.t 3)), none⟩,
   ⟨(some 9), (.bin .add 3 false true (.t 8) (.c (.val (.int .i64 1)))), none⟩,
   ⟨(some 3), (.mv (.t 9)), none⟩] [])))

/-- cenotaph/cenotaphref10.Right -/
def c155 : CF := ⟨
 (.seq
 (.reg false [
   ⟨(some 2), (.mv (.c (.val (.bool false)))), none⟩] [])
 (.seq
 (.seq
 (.reg false [
   ⟨(some 3), (.mv (.c (.val (.int .i64 0)))), none⟩] [])
 (.block 0
  (.loop L155_0)))
 (.seq
 (.reg false [
   ⟨(some 2), (.mv (.c (.val (.bool true)))), none⟩] [])
 .ret))),
 [.tmp 2]⟩

def L156_0 : CC :=
 (.seq
 (.seq
 (.reg false [
   ⟨(some 6), (.mv (.t 5)), none⟩,
   ⟨(some 7), (.mv (.t 0)), none⟩,
   ⟨(some 8), (.len true (.t 7)), none⟩,
   ⟨(some 9), (.bin .lss 3 false false (.t 6) (.t 8)), none⟩,
   ⟨(some 10), (.mv (.t 9)), none⟩,
   ⟨(some 11), (.mv (.t 5)), (some (10, true))⟩,
   ⟨(some 12), (.mv (.t 1)), (some (10, true))⟩,
   ⟨(some 13), (.len true (.t 12)), (some (10, true))⟩,
   ⟨(some 14), (.bin .lss 3 false false (.t 11) (.t 13)), (some (10, true))⟩,
   ⟨(some 15), (.pick (.t 10) (.t 14) (.c (.val (.bool false)))), none⟩] [])
 (.cond (.t 15)
  .skip
  (.exit 0)))
 (.seq
 (.block 1
  (.seq
  (.seq
  (.reg true [
    ⟨(some 18), (.mv (.t 0)), none⟩,
    ⟨(some 19), (.mv (.t 5)), none⟩,
    ⟨(some 20), (.ixs (.t 18) (.t 19)), none⟩,
    ⟨(some 21), (.mv (.t 1)), none⟩,
    ⟨(some 22), (.mv (.t 5)), none⟩,
    ⟨(some 23), (.ixs (.t 21) (.t 22)), none⟩,
    ⟨(some 24), (.bin .lss 5 false false (.t 20) (.t 23)), none⟩] [])
  (.cond (.t 24)
   (.seq
   (.reg false [
     ⟨(some 4), (.mv (.c (.val (.int .i64 (-1))))), none⟩] [])
   .ret)
   .skip))
  (.seq
  (.reg true [
    ⟨(some 25), (.mv (.t 0)), none⟩,
    ⟨(some 26), (.mv (.t 5)), none⟩,
    ⟨(some 27), (.ixs (.t 25) (.t 26)), none⟩,
    ⟨(some 28), (.mv (.t 1)), none⟩,
    ⟨(some 29), (.mv (.t 5)), none⟩,
    ⟨(some 30), (.ixs (.t 28) (.t 29)), none⟩,
    ⟨(some 31), (.bin .gtr 5 false false (.t 27) (.t 30)), none⟩] [])
  (.cond (.t 31)
   (.seq
   (.reg false [
     ⟨(some 4), (.mv (.c (.val (.int .i64 1)))), none⟩] [])
   .ret)
   .skip))))
 (.reg false [
   ⟨(some 16), (.mv (.t 5)), none⟩,
   ⟨(some 17), (.bin .add 3 false true (.t 16) (.c (.val (.int .i64 1)))), none⟩,
   ⟨(some 5), (.mv (.t 17)), none⟩] [])))

/-- cenotaph/cenotaphref01.Compare -/
def c156 : CF := ⟨
 (.seq
 (.reg false [
   ⟨(some 4), (.mv (.c (.val (.int .i64 0)))), none⟩] [])
 (.seq
 (.seq
 (.reg false [
   ⟨(some 5), (.mv (.c (.val (.int .i64 0)))), none⟩] [])
 (.block 0
  (.loop L156_0)))
 (.seq
 (.seq
 (.reg false [
   ⟨(some 32), (.mv (.t 0)), none⟩,
   ⟨(some 33), (.len true (.t 32)), none⟩,
   ⟨(some 34), (.mv (.t 1)), none⟩,
   ⟨(some 35), (.len true (.t 34)), none⟩,
   ⟨(some 36), (.bin .lss 3 false false (.t 33) (.t 35)), none⟩] [])
 (.cond (.t 36)
  (.seq
  (.reg false [
    ⟨(some 4), (.mv (.c (.val (.int .i64 (-1))))), none⟩] [])
  .ret)
  .skip))
 (.seq
 (.seq
 (.reg false [
   ⟨(some 37), (.mv (.t 0)), none⟩,
   ⟨(some 38), (.len true (.t 37)), none⟩,
   ⟨(some 39), (.mv (.t 1)), none⟩,
   ⟨(some 40), (.len true (.t 39)), none⟩,
   ⟨(some 41), (.bin .gtr 3 false false (.t 38) (.t 40)), none⟩] [])
 (.cond (.t 41)
  (.seq
  (.reg false [
    ⟨(some 4), (.mv (.c (.val (.int .i64 1)))), none⟩] [])
  .ret)
  .skip))
 (.seq
 (.reg false [
   ⟨(some 4), (.mv (.c (.val (.int .i64 0)))), none⟩] [])
 .ret))))),
 [.tmp 4]⟩

/-- cenotaph/cenotaphref07.Right -/
def c157 : CF := ⟨
 (.seq
 (.reg false [
   ⟨(some 1), (.box (.t 0)), none⟩,
   ⟨(some 2), (.mv (.c (.val (.bool false)))), none⟩] [])
 (.seq
 (.seq
 (.reg false [
   ⟨(some 3), (.fad 0 (.t 1)), none⟩,
   ⟨(some 4), (.ld 1 false (.t 3)), none⟩,
   ⟨(some 5), (.bin .lss 3 false true (.t 4) (.c (.val (.int .i64 0)))), none⟩,
   ⟨(some 6), (.mv (.t 5)), none⟩,
   ⟨(some 7), (.fad 0 (.t 1)), (some (6, false))⟩,
   ⟨(some 8), (.ld 1 false (.t 7)), (some (6, false))⟩,
   ⟨(some 9), (.bin .gtr 3 false true (.t 8) (.c (.val (.int .i64 31)))), (some (6, false))⟩,
   ⟨(some 10), (.pick (.t 6) (.c (.val (.bool true))) (.t 9)), none⟩,
   ⟨(some 11), (.mv (.t 10)), none⟩,
   ⟨(some 12), (.fad 1 (.t 1)), (some (11, false))⟩,
   ⟨(some 13), (.fad 0 (.t 12)), (some (11, false))⟩,
   ⟨(some 14), (.ld 1 false (.t 13)), (some (11, false))⟩,
   ⟨(some 15), (.call (.c (.fn 61 [])) [(.t 14)]), (some (11, false))⟩,
   ⟨(some 16), (.un .not (.t 15)), (some (11, false))⟩,
   ⟨(some 17), (.pick (.t 11) (.c (.val (.bool true))) (.t 16)), none⟩,
   ⟨(some 18), (.mv (.t 17)), none⟩,
   ⟨(some 19), (.fad 1 (.t 1)), (some (18, false))⟩,
   ⟨(some 20), (.fad 1 (.t 19)), (some (18, false))⟩,
   ⟨(some 21), (.ld 1 false (.t 20)), (some (18, false))⟩,
   ⟨(some 22), (.bin .lss 3 false true (.t 21) (.c (.val (.int .i64 1)))), (some (18, false))⟩,
   ⟨(some 23), (.pick (.t 18) (.c (.val (.bool true))) (.t 22)), none⟩,
   ⟨(some 24), (.mv (.t 23)), none⟩,
   ⟨(some 25), (.fad 1 (.t 1)), (some (24, false))⟩,
   ⟨(some 26), (.fad 1 (.t 25)), (some (24, false))⟩,
   ⟨(some 27), (.ld 1 false (.t 26)), (some (24, false))⟩,
   ⟨(some 28), (.bin .gtr 3 false true (.t 27) (.c (.val (.int .i64 1048576)))), (some (24, false))⟩,
   ⟨(some 29), (.pick (.t 24) (.c (.val (.bool true))) (.t 28)), none⟩,
   ⟨(some 30), (.mv (.t 29)), none⟩,
   ⟨(some 31), (.fad 1 (.t 1)), (some (30, false))⟩,
   ⟨(some 32), (.fad 2 (.t 31)), (some (30, false))⟩,
   ⟨(some 33), (.ld 1 false (.t 32)), (some (30, false))⟩,
   ⟨(some 34), (.bin .lss 3 false true (.t 33) (.c (.val (.int .i64 1)))), (some (30, false))⟩,
   ⟨(some 35), (.pick (.t 30) (.c (.val (.bool true))) (.t 34)), none⟩,
   ⟨(some 36), (.mv (.t 35)), none⟩,
   ⟨(some 37), (.fad 1 (.t 1)), (some (36, false))⟩,
   ⟨(some 38), (.fad 2 (.t 37)), (some (36, false))⟩,
   ⟨(some 39), (.ld 1 false (.t 38)), (some (36, false))⟩,
   ⟨(some 40), (.bin .gtr 3 false true (.t 39) (.c (.val (.int .i64 1048576)))), (some (36, false))⟩,
   ⟨(some 41), (.pick (.t 36) (.c (.val (.bool true))) (.t 40)), none⟩] [])
 (.cond (.t 41)
  (.seq
  (.reg false [
    ⟨(some 2), (.mv (.c (.val (.bool false)))), none⟩] [])
  .ret)
  .skip))
 (.seq
 (.seq
 (.reg false [
   ⟨(some 42), (.fad 5 (.t 1)), none⟩,
   ⟨(some 43), (.ld 2 true (.t 42)), none⟩,
   ⟨(some 44), (.call (.c (.fn 136 [])) [(.t 43)]), none⟩,
   ⟨(some 45), (.un .not (.t 44)), none⟩,
   ⟨(some 46), (.mv (.t 45)), none⟩,
   ⟨(some 47), (.fad 7 (.t 1)), (some (46, false))⟩,
   ⟨(some 48), (.ld 1 false (.t 47)), (some (46, false))⟩,
   ⟨(some 49), (.len true (.t 48)), (some (46, false))⟩,
   ⟨(some 50), (.bin .gtr 3 false true (.t 49) (.c (.val (.int .i64 16)))), (some (46, false))⟩,
   ⟨(some 51), (.pick (.t 46) (.c (.val (.bool true))) (.t 50)), none⟩,
   ⟨(some 52), (.mv (.t 51)), none⟩,
   ⟨(some 53), (.fad 4 (.t 1)), (some (52, false))⟩,
   ⟨(some 54), (.ld 1 false (.t 53)), (some (52, false))⟩,
   ⟨(some 55), (.mv (.t 54)), (some (52, false))⟩,
   ⟨(some 56), (.fad 5 (.t 1)), (some (55, true))⟩,
   ⟨(some 57), (.ld 2 true (.t 56)), (some (55, true))⟩,
   ⟨(some 58), (.build [(.val (.int .i64 0)), (.val (.int .i64 0))] []), (some (55, true))⟩,
   ⟨(some 59), (.bin .neq 88 false false (.t 57) (.t 58)), (some (55, true))⟩,
   ⟨(some 60), (.mv (.t 59)), (some (55, true))⟩,
   ⟨(some 61), (.fad 8 (.t 1)), (some (60, false))⟩,
   ⟨(some 62), (.ld 1 false (.t 61)), (some (60, false))⟩,
   ⟨(some 63), (.pick (.t 60) (.c (.val (.bool true))) (.t 62)), (some (55, true))⟩,
   ⟨(some 64), (.pick (.t 55) (.t 63) (.c (.val (.bool false)))), (some (52, false))⟩,
   ⟨(some 65), (.pick (.t 52) (.c (.val (.bool true))) (.t 64)), none⟩] [])
 (.cond (.t 65)
  (.seq
  (.reg false [
    ⟨(some 2), (.mv (.c (.val (.bool false)))), none⟩] [])
  .ret)
  .skip))
 (.seq
 (.reg false [
   ⟨(some 66), (.fad 8 (.t 1)), none⟩,
   ⟨(some 67), (.ld 1 false (.t 66)), none⟩,
   ⟨(some 68), (.mv (.t 67)), none⟩,
   ⟨(some 69), (.fad 7 (.t 1)), (some (68, false))⟩,
   ⟨(some 70), (.ld 1 false (.t 69)), (some (68, false))⟩,
   ⟨(some 71), (.len true (.t 70)), (some (68, false))⟩,
   ⟨(some 72), (.bin .eql 3 false true (.t 71) (.c (.val (.int .i64 0)))), (some (68, false))⟩,
   ⟨(some 73), (.pick (.t 68) (.c (.val (.bool true))) (.t 72)), none⟩,
   ⟨(some 2), (.mv (.t 73)), none⟩] [])
 .ret)))),
 [.tmp 2]⟩

/-- cenotaph/cenotaphref05.near -/
def c158 : CF := ⟨
 (.seq
 (.reg false [
   ⟨(some 4), (.mv (.c (.val (.bool false)))), none⟩] [])
 (.seq
 (.reg false [
   ⟨(some 5), (.mv (.t 0)), none⟩,
   ⟨(some 6), (.mv (.t 1)), none⟩,
   ⟨(some 7), (.un .neg (.t 6)), none⟩,
   ⟨(some 8), (.bin .geq 3 false false (.t 5) (.t 7)), none⟩,
   ⟨(some 9), (.mv (.t 8)), none⟩,
   ⟨(some 10), (.mv (.t 0)), (some (9, true))⟩,
   ⟨(some 11), (.mv (.t 1)), (some (9, true))⟩,
   ⟨(some 12), (.bin .leq 3 false false (.t 10) (.t 11)), (some (9, true))⟩,
   ⟨(some 13), (.pick (.t 9) (.t 12) (.c (.val (.bool false)))), none⟩,
   ⟨(some 4), (.mv (.t 13)), none⟩] [])
 .ret)),
 [.tmp 4]⟩

def L159_0 : CC :=
 (.seq
 (.seq
 (.reg false [
   ⟨(some 4), (.mv (.t 3)), none⟩,
   ⟨(some 5), (.mv (.t 0)), none⟩,
   ⟨(some 6), (.len false (.t 5)), none⟩,
   ⟨(some 7), (.bin .lss 3 false false (.t 4) (.t 6)), none⟩] [])
 (.cond (.t 7)
  .skip
  (.exit 0)))
 (.seq
 (.block 1
  (.seq
  (.reg true [
    ⟨(some 10), (.mv (.t 0)), none⟩,
    ⟨(some 11), (.mv (.t 3)), none⟩,
    ⟨(some 12), (.ias 2 (.t 10) (.t 11)), none⟩,
    ⟨(some 13), (.fad 0 (.t 12)), none⟩,
    ⟨(some 14), (.ld 1 false (.t 13)), none⟩,
    ⟨(some 15), (.call (.c (.fn 61 [])) [(.t 14)]), none⟩,
    ⟨(some 16), (.un .not (.t 15)), none⟩,
    ⟨(some 17), (.mv (.t 16)), none⟩,
    ⟨(some 18), (.mv (.t 0)), (some (17, false))⟩,
    ⟨(some 19), (.mv (.t 3)), (some (17, false))⟩,
    ⟨(some 20), (.ias 2 (.t 18) (.t 19)), (some (17, false))⟩,
    ⟨(some 21), (.fad 1 (.t 20)), (some (17, false))⟩,
    ⟨(some 22), (.ld 1 false (.t 21)), (some (17, false))⟩,
    ⟨(some 23), (.bin .lss 3 false true (.t 22) (.c (.val (.int .i64 1)))), (some (17, false))⟩,
    ⟨(some 24), (.pick (.t 17) (.c (.val (.bool true))) (.t 23)), none⟩,
    ⟨(some 25), (.mv (.t 24)), none⟩,
    ⟨(some 26), (.mv (.t 0)), (some (25, false))⟩,
    ⟨(some 27), (.mv (.t 3)), (some (25, false))⟩,
    ⟨(some 28), (.ias 2 (.t 26) (.t 27)), (some (25, false))⟩,
    ⟨(some 29), (.fad 1 (.t 28)), (some (25, false))⟩,
    ⟨(some 30), (.ld 1 false (.t 29)), (some (25, false))⟩,
    ⟨(some 31), (.bin .gtr 3 false true (.t 30) (.c (.val (.int .i64 1048576)))), (some (25, false))⟩,
    ⟨(some 32), (.pick (.t 25) (.c (.val (.bool true))) (.t 31)), none⟩,
    ⟨(some 33), (.mv (.t 32)), none⟩,
    ⟨(some 34), (.mv (.t 3)), (some (33, false))⟩,
    ⟨(some 35), (.bin .gtr 3 false true (.t 34) (.c (.val (.int .i64 0)))), (some (33, false))⟩,
    ⟨(some 36), (.mv (.t 35)), (some (33, false))⟩,
    ⟨(some 37), (.mv (.t 0)), (some (36, true))⟩,
    ⟨(some 38), (.mv (.t 3)), (some (36, true))⟩,
    ⟨(some 39), (.bin .sub 3 false true (.t 38) (.c (.val (.int .i64 1)))), (some (36, true))⟩,
    ⟨(some 40), (.ias 2 (.t 37) (.t 39)), (some (36, true))⟩,
    ⟨(some 41), (.fad 0 (.t 40)), (some (36, true))⟩,
    ⟨(some 42), (.ld 1 false (.t 41)), (some (36, true))⟩,
    ⟨(some 43), (.mv (.t 0)), (some (36, true))⟩,
    ⟨(some 44), (.mv (.t 3)), (some (36, true))⟩,
    ⟨(some 45), (.ias 2 (.t 43) (.t 44)), (some (36, true))⟩,
    ⟨(some 46), (.fad 0 (.t 45)), (some (36, true))⟩,
    ⟨(some 47), (.ld 1 false (.t 46)), (some (36, true))⟩,
    ⟨(some 48), (.call (.c (.fn 156 [])) [(.t 42), (.t 47)]), (some (36, true))⟩,
    ⟨(some 49), (.bin .geq 3 false true (.t 48) (.c (.val (.int .i64 0)))), (some (36, true))⟩,
    ⟨(some 50), (.pick (.t 36) (.t 49) (.c (.val (.bool false)))), (some (33, false))⟩,
    ⟨(some 51), (.pick (.t 33) (.c (.val (.bool true))) (.t 50)), none⟩] [])
  (.cond (.t 51)
   (.seq
   (.reg false [
     ⟨(some 2), (.mv (.c (.val (.bool false)))), none⟩] [])
   .ret)
   .skip)))
 (.reg false [
   ⟨(some 8), (.mv (.t 3)), none⟩,
   ⟨(some 9), (.bin .add 3 false true (.t 8) (.c (.val (.int .i64 1)))), none⟩,
   ⟨(some 3), (.mv (.t 9)), none⟩] [])))

/-- cenotaph/cenotaphref03.Right -/
def c159 : CF := ⟨
 (.seq
 (.reg false [
   ⟨(some 2), (.mv (.c (.val (.bool false)))), none⟩] [])
 (.seq
 (.seq
 (.reg false [
   ⟨(some 3), (.mv (.c (.val (.int .i64 0)))), none⟩] [])
 (.block 0
  (.loop L159_0)))
 (.seq
 (.reg false [
   ⟨(some 2), (.mv (.c (.val (.bool true)))), none⟩] [])
 .ret))),
 [.tmp 2]⟩

/-- cenotaph/zone.names -/
def c160 : CF := ⟨
 (.seq
 (.reg false [
   ⟨(some 0), (.mv (.c (.im [] true))), none⟩] [])
 (.seq
 (.reg false [
   ⟨(some 1), (.bsl 1 7 [(.val (.string ⟨#[]⟩)), (.val (.string ⟨#[]⟩)), (.val (.string ⟨#[]⟩)), (.val (.string ⟨#[]⟩)), (.val (.string ⟨#[]⟩)), (.val (.string ⟨#[]⟩)), (.val (.string ⟨#[]⟩))] [(0, 1, (.c (.val (.string ⟨#[]⟩)))), (1, 1, (.c (.val (.string ⟨#[97, 108, 108]⟩)))), (2, 1, (.c (.val (.string ⟨#[100, 105, 115, 99]⟩)))), (3, 1, (.c (.val (.string ⟨#[104, 97, 108, 102]⟩)))), (4, 1, (.c (.val (.string ⟨#[110, 111, 116]⟩)))), (5, 1, (.c (.val (.string ⟨#[97, 110, 100]⟩)))), (6, 1, (.c (.val (.string ⟨#[111, 114]⟩))))]), none⟩,
   ⟨(some 0), (.mv (.t 1)), none⟩] [])
 .ret)),
 [.tmp 0]⟩

/-- cenotaph/zone.number -/
def c161 : CF := ⟨
 (.seq
 (.reg false [
   ⟨(some 2), (.mv (.c (.val (.string ⟨#[]⟩)))), none⟩] [])
 (.seq
 (.reg false [
   ⟨(some 3), (.mv (.t 0)), none⟩,
   ⟨(some 4), (.cv 226 3 (.t 3)), none⟩,
   ⟨(some 5), (.call (.c (.fn 126 [])) [(.t 4)]), none⟩,
   ⟨(some 2), (.mv (.t 5)), none⟩] [])
 .ret)),
 [.tmp 2]⟩

/-- cenotaph/item.Right -/
def c162 : CF := ⟨
 (.seq
 (.reg false [
   ⟨(some 1), (.box (.t 0)), none⟩,
   ⟨(some 2), (.mv (.c (.val (.bool false)))), none⟩] [])
 (.seq
 (.block 0
  (.seq
  (.seq
  (.reg false [
    ⟨(some 4), (.fad 0 (.t 1)), none⟩,
    ⟨(some 5), (.ld 1 false (.t 4)), none⟩,
    ⟨(some 6), (.bin .lss 3 false true (.t 5) (.c (.val (.int .i64 0)))), none⟩,
    ⟨(some 3), (.mv (.t 6)), none⟩] [])
  (.cond (.t 3)
   .skip
   (.seq
   (.reg false [
     ⟨(some 7), (.fad 0 (.t 1)), none⟩,
     ⟨(some 8), (.ld 1 false (.t 7)), none⟩,
     ⟨(some 9), (.bin .geq 3 false true (.t 8) (.c (.val (.int .i64 32)))), none⟩,
     ⟨(some 3), (.mv (.t 9)), none⟩] [])
   (.cond (.t 3)
    .skip
    (.seq
    (.reg false [
      ⟨(some 10), (.fad 1 (.t 1)), none⟩,
      ⟨(some 11), (.ld 3 true (.t 10)), none⟩,
      ⟨(some 12), (.call (.c (.fn 227 [])) [(.t 11)]), none⟩,
      ⟨(some 13), (.un .not (.t 12)), none⟩,
      ⟨(some 3), (.mv (.t 13)), none⟩] [])
    (.cond (.t 3)
     .skip
     (.seq
     (.reg false [
       ⟨(some 14), (.fad 5 (.t 1)), none⟩,
       ⟨(some 15), (.ld 1 false (.t 14)), none⟩,
       ⟨(some 16), (.call (.c (.fn 202 [])) [(.t 15)]), none⟩,
       ⟨(some 17), (.un .not (.t 16)), none⟩,
       ⟨(some 3), (.mv (.t 17)), none⟩] [])
     (.cond (.t 3)
      .skip
      (.reg false [
        ⟨(some 18), (.fad 6 (.t 1)), none⟩,
        ⟨(some 19), (.ld 1 false (.t 18)), none⟩,
        ⟨(some 20), (.len true (.t 19)), none⟩,
        ⟨(some 21), (.bin .gtr 3 false true (.t 20) (.c (.val (.int .i64 16)))), none⟩,
        ⟨(some 3), (.mv (.t 21)), none⟩] [])))))))))
  (.cond (.t 3)
   (.seq
   (.reg false [
     ⟨(some 2), (.mv (.c (.val (.bool false)))), none⟩] [])
   .ret)
   (.seq
   (.reg false [
     ⟨(some 23), (.fad 4 (.t 1)), none⟩,
     ⟨(some 24), (.ld 1 false (.t 23)), none⟩,
     ⟨(some 25), (.mv (.t 24)), none⟩,
     ⟨(some 26), (.fad 7 (.t 1)), (some (25, true))⟩,
     ⟨(some 27), (.ld 1 false (.t 26)), (some (25, true))⟩,
     ⟨(some 28), (.mv (.t 27)), (some (25, true))⟩,
     ⟨(some 29), (.fad 5 (.t 1)), (some (28, false))⟩,
     ⟨(some 30), (.ld 1 false (.t 29)), (some (28, false))⟩,
     ⟨(some 31), (.bin .neq 95 false true (.t 30) (.c (.val (.complex .f64 0 0)))), (some (28, false))⟩,
     ⟨(some 32), (.pick (.t 28) (.c (.val (.bool true))) (.t 31)), (some (25, true))⟩,
     ⟨(some 33), (.pick (.t 25) (.t 32) (.c (.val (.bool false)))), none⟩,
     ⟨(some 22), (.mv (.t 33)), none⟩] [])
   (.cond (.t 22)
    (.seq
    (.reg false [
      ⟨(some 2), (.mv (.c (.val (.bool false)))), none⟩] [])
    .ret)
    .skip)))))
 (.seq
 (.reg false [
   ⟨(some 34), (.fad 7 (.t 1)), none⟩,
   ⟨(some 35), (.ld 1 false (.t 34)), none⟩,
   ⟨(some 36), (.mv (.t 35)), none⟩,
   ⟨(some 37), (.fad 6 (.t 1)), (some (36, false))⟩,
   ⟨(some 38), (.ld 1 false (.t 37)), (some (36, false))⟩,
   ⟨(some 39), (.bin .eql 9 false true (.t 38) (.c (.val (.string ⟨#[]⟩)))), (some (36, false))⟩,
   ⟨(some 40), (.pick (.t 36) (.c (.val (.bool true))) (.t 39)), none⟩,
   ⟨(some 2), (.mv (.t 40)), none⟩] [])
 .ret))),
 [.tmp 2]⟩

/-- (cenotaph/item.Item).kind -/
def c163 : CF := ⟨
 (.seq
 (.reg false [
   ⟨(some 1), (.box (.t 0)), none⟩,
   ⟨(some 2), (.mv (.c (.val (.int .i64 0)))), none⟩] [])
 (.seq
 (.block 0
  (.seq
  (.reg false [
    ⟨(some 4), (.fad 4 (.t 1)), none⟩,
    ⟨(some 5), (.ld 1 false (.t 4)), none⟩,
    ⟨(some 3), (.mv (.t 5)), none⟩] [])
  (.cond (.t 3)
   (.seq
   (.reg false [
     ⟨(some 2), (.mv (.c (.val (.int .i64 0)))), none⟩] [])
   .ret)
   (.seq
   (.reg false [
     ⟨(some 7), (.fad 7 (.t 1)), none⟩,
     ⟨(some 8), (.ld 1 false (.t 7)), none⟩,
     ⟨(some 6), (.mv (.t 8)), none⟩] [])
   (.cond (.t 6)
    (.seq
    (.reg false [
      ⟨(some 2), (.mv (.c (.val (.int .i64 2)))), none⟩] [])
    .ret)
    .skip)))))
 (.seq
 (.reg false [
   ⟨(some 2), (.mv (.c (.val (.int .i64 1)))), none⟩] [])
 .ret))),
 [.tmp 2]⟩

def L170_0 : CC :=
 (.block 1048576
  (.seq
  (.seq
  .skip
  (.seq
  (.block 0
   (.seq
   (.reg false [
     ⟨(some 7), (.mv (.t 3)), none⟩,
     ⟨(some 8), (.bin .eql 3 false true (.t 7) (.c (.val (.int .i64 9)))), none⟩,
     ⟨(some 6), (.mv (.t 8)), none⟩] [])
   (.cond (.t 6)
    (.seq
    (.reg false [
      ⟨(some 2), (.mv (.c (.val (.int .i64 0)))), none⟩,
      ⟨(some 3), (.mv (.c (.val (.int .i64 0)))), none⟩,
      ⟨(some 4), (.mv (.c (.val (.int .i64 3)))), none⟩] [])
    .ret)
    (.seq
    (.reg true [
      ⟨(some 10), (.mv (.t 0)), none⟩,
      ⟨(some 11), (.nck (.t 10)), none⟩,
      ⟨(some 12), (.fad 1 (.t 11)), none⟩,
      ⟨(some 13), (.ld 1 false (.t 12)), none⟩,
      ⟨(some 14), (.mv (.t 3)), none⟩,
      ⟨(some 15), (.bin .add 3 false false (.t 13) (.t 14)), none⟩,
      ⟨(some 16), (.mv (.t 0)), none⟩,
      ⟨(some 17), (.nck (.t 16)), none⟩,
      ⟨(some 18), (.fad 0 (.t 17)), none⟩,
      ⟨(some 19), (.ld 1 false (.t 18)), none⟩,
      ⟨(some 20), (.len false (.t 19)), none⟩,
      ⟨(some 21), (.bin .eql 3 false false (.t 15) (.t 20)), none⟩,
      ⟨(some 9), (.mv (.t 21)), none⟩] [])
    (.cond (.t 9)
     (.seq
     (.reg false [
       ⟨(some 2), (.mv (.c (.val (.int .i64 0)))), none⟩,
       ⟨(some 3), (.mv (.c (.val (.int .i64 0)))), none⟩,
       ⟨(some 4), (.mv (.c (.val (.int .i64 2)))), none⟩] [])
     .ret)
     .skip)))))
  (.seq
  (.reg true [
    ⟨(some 22), (.mv (.t 0)), none⟩,
    ⟨(some 23), (.nck (.t 22)), none⟩,
    ⟨(some 24), (.fad 0 (.t 23)), none⟩,
    ⟨(some 25), (.ld 1 false (.t 24)), none⟩,
    ⟨(some 26), (.mv (.t 0)), none⟩,
    ⟨(some 27), (.nck (.t 26)), none⟩,
    ⟨(some 28), (.fad 1 (.t 27)), none⟩,
    ⟨(some 29), (.ld 1 false (.t 28)), none⟩,
    ⟨(some 30), (.mv (.t 3)), none⟩,
    ⟨(some 31), (.bin .add 3 false false (.t 29) (.t 30)), none⟩,
    ⟨(some 32), (.ias 1 (.t 25) (.t 31)), none⟩,
    ⟨(some 33), (.ld 1 false (.t 32)), none⟩,
    ⟨(some 5), (.mv (.t 33)), none⟩] [])
  (.seq
  (.reg false [
    ⟨(some 34), (.mv (.t 2)), none⟩,
    ⟨(some 35), (.mv (.t 5)), none⟩,
    ⟨(some 36), (.bin .andNot 5 false true (.t 35) (.c (.val (.int .u8 128)))), none⟩,
    ⟨(some 37), (.cv 5 3 (.t 36)), none⟩,
    ⟨(some 38), (.mv (.t 3)), none⟩,
    ⟨(some 39), (.bin .mul 3 true false (.c (.val (.int .i64 7))) (.t 38)), none⟩,
    ⟨(some 40), (.bin .shl 3 false false (.t 37) (.t 39)), none⟩,
    ⟨(some 41), (.bin .or 3 false false (.t 34) (.t 40)), none⟩,
    ⟨(some 2), (.mv (.t 41)), none⟩] [])
  (.seq
  (.reg false [
    ⟨(some 42), (.mv (.t 3)), none⟩,
    ⟨(some 43), (.bin .add 3 false true (.t 42) (.c (.val (.int .i64 1)))), none⟩,
    ⟨(some 3), (.mv (.t 43)), none⟩] [])
  (.seq
  (.seq
  (.reg false [
    ⟨(some 44), (.mv (.t 5)), none⟩,
    ⟨(some 45), (.bin .geq 5 false true (.t 44) (.c (.val (.int .u8 128)))), none⟩] [])
  (.cond (.t 45)
   (.exit 1048576)
   .skip))
  (.seq
  (.seq
  (.reg false [
    ⟨(some 46), (.mv (.t 5)), none⟩,
    ⟨(some 47), (.bin .eql 5 false true (.t 46) (.c (.val (.int .u8 0)))), none⟩,
    ⟨(some 48), (.mv (.t 47)), none⟩,
    ⟨(some 49), (.mv (.t 3)), (some (48, true))⟩,
    ⟨(some 50), (.bin .gtr 3 false true (.t 49) (.c (.val (.int .i64 1)))), (some (48, true))⟩,
    ⟨(some 51), (.pick (.t 48) (.t 50) (.c (.val (.bool false)))), none⟩] [])
  (.cond (.t 51)
   (.seq
   (.reg false [
     ⟨(some 2), (.mv (.c (.val (.int .i64 0)))), none⟩,
     ⟨(some 3), (.mv (.c (.val (.int .i64 0)))), none⟩,
     ⟨(some 4), (.mv (.c (.val (.int .i64 3)))), none⟩] [])
   .ret)
   .skip))
  (.seq
  (.reg false [
    ⟨(some 52), (.mv (.t 2)), none⟩,
    ⟨(some 53), (.mv (.t 3)), none⟩,
    ⟨(some 2), (.mv (.t 52)), none⟩,
    ⟨(some 3), (.mv (.t 53)), none⟩,
    ⟨(some 4), (.mv (.c (.val (.int .i64 0)))), none⟩] [])
  .ret))))))))
  (.exit 2097152)))

/-- (*cenotaph/wire.Reader).digits -/
def c170 : CF := ⟨
 (.seq
 (.reg false [
   ⟨(some 2), (.mv (.c (.val (.int .i64 0)))), none⟩,
   ⟨(some 3), (.mv (.c (.val (.int .i64 0)))), none⟩,
   ⟨(some 4), (.mv (.c (.val (.int .i64 0)))), none⟩] [])
 (.block 2097152
  (.seq
  (.block 1048576
   (.seq
   (.seq
   (.reg false [
     ⟨(some 5), (.mv (.c (.val (.int .u8 0)))), none⟩] [])
   (.seq
   (.block 4194304
    .skip)
   (.seq
   (.block 0
    (.seq
    (.reg false [
      ⟨(some 7), (.mv (.t 3)), none⟩,
      ⟨(some 8), (.bin .eql 3 false true (.t 7) (.c (.val (.int .i64 9)))), none⟩,
      ⟨(some 6), (.mv (.t 8)), none⟩] [])
    (.cond (.t 6)
     (.seq
     (.reg false [
       ⟨(some 2), (.mv (.c (.val (.int .i64 0)))), none⟩,
       ⟨(some 3), (.mv (.c (.val (.int .i64 0)))), none⟩,
       ⟨(some 4), (.mv (.c (.val (.int .i64 3)))), none⟩] [])
     .ret)
     (.seq
     (.reg true [
       ⟨(some 10), (.mv (.t 0)), none⟩,
       ⟨(some 11), (.nck (.t 10)), none⟩,
       ⟨(some 12), (.fad 1 (.t 11)), none⟩,
       ⟨(some 13), (.ld 1 false (.t 12)), none⟩,
       ⟨(some 14), (.mv (.t 3)), none⟩,
       ⟨(some 15), (.bin .add 3 false false (.t 13) (.t 14)), none⟩,
       ⟨(some 16), (.mv (.t 0)), none⟩,
       ⟨(some 17), (.nck (.t 16)), none⟩,
       ⟨(some 18), (.fad 0 (.t 17)), none⟩,
       ⟨(some 19), (.ld 1 false (.t 18)), none⟩,
       ⟨(some 20), (.len false (.t 19)), none⟩,
       ⟨(some 21), (.bin .eql 3 false false (.t 15) (.t 20)), none⟩,
       ⟨(some 9), (.mv (.t 21)), none⟩] [])
     (.cond (.t 9)
      (.seq
      (.reg false [
        ⟨(some 2), (.mv (.c (.val (.int .i64 0)))), none⟩,
        ⟨(some 3), (.mv (.c (.val (.int .i64 0)))), none⟩,
        ⟨(some 4), (.mv (.c (.val (.int .i64 2)))), none⟩] [])
      .ret)
      .skip)))))
   (.seq
   (.reg true [
     ⟨(some 22), (.mv (.t 0)), none⟩,
     ⟨(some 23), (.nck (.t 22)), none⟩,
     ⟨(some 24), (.fad 0 (.t 23)), none⟩,
     ⟨(some 25), (.ld 1 false (.t 24)), none⟩,
     ⟨(some 26), (.mv (.t 0)), none⟩,
     ⟨(some 27), (.nck (.t 26)), none⟩,
     ⟨(some 28), (.fad 1 (.t 27)), none⟩,
     ⟨(some 29), (.ld 1 false (.t 28)), none⟩,
     ⟨(some 30), (.mv (.t 3)), none⟩,
     ⟨(some 31), (.bin .add 3 false false (.t 29) (.t 30)), none⟩,
     ⟨(some 32), (.ias 1 (.t 25) (.t 31)), none⟩,
     ⟨(some 33), (.ld 1 false (.t 32)), none⟩,
     ⟨(some 5), (.mv (.t 33)), none⟩] [])
   (.seq
   (.reg false [
     ⟨(some 34), (.mv (.t 2)), none⟩,
     ⟨(some 35), (.mv (.t 5)), none⟩,
     ⟨(some 36), (.bin .andNot 5 false true (.t 35) (.c (.val (.int .u8 128)))), none⟩,
     ⟨(some 37), (.cv 5 3 (.t 36)), none⟩,
     ⟨(some 38), (.mv (.t 3)), none⟩,
     ⟨(some 39), (.bin .mul 3 true false (.c (.val (.int .i64 7))) (.t 38)), none⟩,
     ⟨(some 40), (.bin .shl 3 false false (.t 37) (.t 39)), none⟩,
     ⟨(some 41), (.bin .or 3 false false (.t 34) (.t 40)), none⟩,
     ⟨(some 2), (.mv (.t 41)), none⟩] [])
   (.seq
   (.reg false [
     ⟨(some 42), (.mv (.t 3)), none⟩,
     ⟨(some 43), (.bin .add 3 false true (.t 42) (.c (.val (.int .i64 1)))), none⟩,
     ⟨(some 3), (.mv (.t 43)), none⟩] [])
   (.seq
   (.seq
   (.reg false [
     ⟨(some 44), (.mv (.t 5)), none⟩,
     ⟨(some 45), (.bin .geq 5 false true (.t 44) (.c (.val (.int .u8 128)))), none⟩] [])
   (.cond (.t 45)
    (.exit 1048576)
    .skip))
   (.seq
   (.seq
   (.reg false [
     ⟨(some 46), (.mv (.t 5)), none⟩,
     ⟨(some 47), (.bin .eql 5 false true (.t 46) (.c (.val (.int .u8 0)))), none⟩,
     ⟨(some 48), (.mv (.t 47)), none⟩,
     ⟨(some 49), (.mv (.t 3)), (some (48, true))⟩,
     ⟨(some 50), (.bin .gtr 3 false true (.t 49) (.c (.val (.int .i64 1)))), (some (48, true))⟩,
     ⟨(some 51), (.pick (.t 48) (.t 50) (.c (.val (.bool false)))), none⟩] [])
   (.cond (.t 51)
    (.seq
    (.reg false [
      ⟨(some 2), (.mv (.c (.val (.int .i64 0)))), none⟩,
      ⟨(some 3), (.mv (.c (.val (.int .i64 0)))), none⟩,
      ⟨(some 4), (.mv (.c (.val (.int .i64 3)))), none⟩] [])
    .ret)
    .skip))
   (.seq
   (.reg false [
     ⟨(some 52), (.mv (.t 2)), none⟩,
     ⟨(some 53), (.mv (.t 3)), none⟩,
     ⟨(some 2), (.mv (.t 52)), none⟩,
     ⟨(some 3), (.mv (.t 53)), none⟩,
     ⟨(some 4), (.mv (.c (.val (.int .i64 0)))), none⟩] [])
   .ret)))))))))
   (.exit 2097152)))
  (.loop L170_0)))),
 [.tmp 2, .tmp 3, .tmp 4]⟩

/-- (*cenotaph/wire.Reader).Text -/
def c171 : CF := ⟨
 (.seq
 (.reg false [
   ⟨(some 4), (.mv (.c (.val (.string ⟨#[]⟩)))), none⟩] [])
 (.seq
 (.reg false [
   ⟨(some 6), (.mv (.t 0)), none⟩,
   ⟨(some 7), (.mv (.t 1)), none⟩,
   ⟨(some 8), (.call (.c (.fn 87 [])) [(.t 6), (.t 7)]), none⟩,
   ⟨(some 5), (.mv (.t 8)), none⟩] [])
 (.seq
 (.block 0
  (.seq
  (.reg false [
    ⟨(some 10), (.mv (.t 0)), none⟩,
    ⟨(some 11), (.call (.c (.fn 88 [])) [(.t 10)]), none⟩,
    ⟨(some 12), (.bin .neq 52 false true (.t 11) (.c (.val (.int .i64 0)))), none⟩,
    ⟨(some 9), (.mv (.t 12)), none⟩] [])
  (.cond (.t 9)
   (.seq
   (.reg false [
     ⟨(some 4), (.mv (.c (.val (.string ⟨#[]⟩)))), none⟩] [])
   .ret)
   (.seq
   (.reg true [
     ⟨(some 14), (.mv (.t 5)), none⟩,
     ⟨(some 15), (.mv (.t 0)), none⟩,
     ⟨(some 16), (.nck (.t 15)), none⟩,
     ⟨(some 17), (.fad 0 (.t 16)), none⟩,
     ⟨(some 18), (.ld 1 false (.t 17)), none⟩,
     ⟨(some 19), (.len false (.t 18)), none⟩,
     ⟨(some 20), (.mv (.t 0)), none⟩,
     ⟨(some 21), (.nck (.t 20)), none⟩,
     ⟨(some 22), (.fad 1 (.t 21)), none⟩,
     ⟨(some 23), (.ld 1 false (.t 22)), none⟩,
     ⟨(some 24), (.bin .sub 3 false false (.t 19) (.t 23)), none⟩,
     ⟨(some 25), (.bin .gtr 3 false false (.t 14) (.t 24)), none⟩,
     ⟨(some 13), (.mv (.t 25)), none⟩] [])
   (.cond (.t 13)
    (.seq
    (.reg false [
      ⟨(some 26), (.mv (.t 0)), none⟩,
      ⟨(some 27), (.nck (.t 26)), none⟩,
      ⟨(some 28), (.fad 2 (.t 27)), none⟩,
      ⟨none, (.st 1 (.t 28) (.c (.val (.int .i64 2)))), none⟩] [])
    (.seq
    (.reg false [
      ⟨(some 4), (.mv (.c (.val (.string ⟨#[]⟩)))), none⟩] [])
    .ret))
    .skip)))))
 (.seq
 (.reg false [
   ⟨(some 29), (.mv (.t 0)), none⟩,
   ⟨(some 30), (.nck (.t 29)), none⟩,
   ⟨(some 31), (.fad 1 (.t 30)), none⟩,
   ⟨(some 32), (.ld 1 false (.t 31)), none⟩,
   ⟨(some 33), (.mv (.t 5)), none⟩,
   ⟨(some 34), (.bin .add 3 false false (.t 32) (.t 33)), none⟩,
   ⟨(some 35), (.nck (.t 29)), none⟩,
   ⟨(some 36), (.fad 1 (.t 35)), none⟩,
   ⟨none, (.st 1 (.t 36) (.t 34)), none⟩] [])
 (.seq
 (.reg true [
   ⟨(some 37), (.mv (.t 0)), none⟩,
   ⟨(some 38), (.nck (.t 37)), none⟩,
   ⟨(some 39), (.fad 0 (.t 38)), none⟩,
   ⟨(some 40), (.ld 1 false (.t 39)), none⟩,
   ⟨(some 41), (.mv (.t 0)), none⟩,
   ⟨(some 42), (.nck (.t 41)), none⟩,
   ⟨(some 43), (.fad 1 (.t 42)), none⟩,
   ⟨(some 44), (.ld 1 false (.t 43)), none⟩,
   ⟨(some 45), (.mv (.t 5)), none⟩,
   ⟨(some 46), (.bin .sub 3 false false (.t 44) (.t 45)), none⟩,
   ⟨(some 47), (.mv (.t 0)), none⟩,
   ⟨(some 48), (.nck (.t 47)), none⟩,
   ⟨(some 49), (.fad 1 (.t 48)), none⟩,
   ⟨(some 50), (.ld 1 false (.t 49)), none⟩,
   ⟨(some 51), (.slc 1 (.t 40) (some (.t 46)) (some (.t 50)) none), none⟩,
   ⟨(some 52), (.b2s (.t 51)), none⟩,
   ⟨(some 4), (.mv (.t 52)), none⟩] [])
 .ret))))),
 [.tmp 4]⟩

def L172_0 : CC :=
 (.seq
 (.seq
 (.reg false [
   ⟨(some 14), (.mv (.t 7)), none⟩,
   ⟨(some 15), (.mv (.t 6)), none⟩,
   ⟨(some 16), (.bin .lss 3 false false (.t 14) (.t 15)), none⟩,
   ⟨(some 17), (.mv (.t 16)), none⟩,
   ⟨(some 18), (.mv (.t 0)), (some (17, true))⟩,
   ⟨(some 19), (.call (.c (.fn 180 [])) [(.t 18)]), (some (17, true))⟩,
   ⟨(some 20), (.un .not (.t 19)), (some (17, true))⟩,
   ⟨(some 21), (.pick (.t 17) (.t 20) (.c (.val (.bool false)))), none⟩] [])
 (.cond (.t 21)
  .skip
  (.exit 0)))
 (.seq
 (.block 1
  (.reg false [
    ⟨(some 24), (.mv (.t 2)), none⟩,
    ⟨(some 25), (.call (.t 24) []), none⟩] []))
 (.reg false [
   ⟨(some 22), (.mv (.t 7)), none⟩,
   ⟨(some 23), (.bin .add 3 false true (.t 22) (.c (.val (.int .i64 1)))), none⟩,
   ⟨(some 7), (.mv (.t 23)), none⟩] [])))

/-- (*cenotaph/frame.taker).count -/
def c172 : CF := ⟨
 (.seq
 (.reg false [
   ⟨(some 8), (.mv (.t 0)), none⟩,
   ⟨(some 9), (.nck (.t 8)), none⟩,
   ⟨(some 10), (.fad 0 (.t 9)), none⟩,
   ⟨(some 11), (.ld 1 false (.t 10)), none⟩,
   ⟨(some 12), (.mv (.t 1)), none⟩,
   ⟨(some 13), (.call (.c (.fn 87 [])) [(.t 11), (.t 12)]), none⟩,
   ⟨(some 6), (.mv (.t 13)), none⟩] [])
 (.seq
 (.reg false [
   ⟨(some 7), (.mv (.c (.val (.int .i64 0)))), none⟩] [])
 (.block 0
  (.loop L172_0)))),
 []⟩

/-- (*cenotaph/frame.taker).vec$1 -/
def c173 : CF := ⟨
 (.seq
 (.reg false [
   ⟨(some 3), (.ld 1 false (.t 0)), none⟩,
   ⟨(some 4), (.call (.c (.fn 89 [])) [(.t 3)]), none⟩,
   ⟨(some 2), (.mv (.t 4)), none⟩] [])
 (.reg true [
   ⟨(some 5), (.ld 1 false (.t 1)), none⟩,
   ⟨(some 6), (.mv (.t 2)), none⟩,
   ⟨(some 7), (.ld 1 false (.t 0)), none⟩,
   ⟨(some 8), (.call (.c (.fn 174 [])) [(.t 7)]), none⟩,
   ⟨(some 9), (.build [(.val (.string ⟨#[]⟩)), (.val (.int .i64 0))] [(0, 1, (.t 6)), (1, 1, (.t 8))]), none⟩,
   ⟨(some 10), (.bsl 2 1 [(.val (.string ⟨#[]⟩)), (.val (.int .i64 0))] [(0, 2, (.t 9))]), none⟩,
   ⟨(some 11), (.app 2 (.t 5) (.t 10)), none⟩,
   ⟨none, (.st 1 (.t 1) (.t 11)), none⟩] [(0, 3), (0, 5)])),
 []⟩

/-- (*cenotaph/frame.taker).num -/
def c174 : CF := ⟨
 (.seq
 (.reg false [
   ⟨(some 2), (.mv (.c (.val (.int .i64 0)))), none⟩] [])
 (.seq
 (.reg false [
   ⟨(some 3), (.mv (.t 0)), none⟩,
   ⟨(some 4), (.nck (.t 3)), none⟩,
   ⟨(some 5), (.fad 0 (.t 4)), none⟩,
   ⟨(some 6), (.ld 1 false (.t 5)), none⟩,
   ⟨(some 7), (.call (.c (.fn 87 [])) [(.t 6), (.c (.val (.int .i64 1048576)))]), none⟩,
   ⟨(some 2), (.mv (.t 7)), none⟩] [])
 .ret)),
 [.tmp 2]⟩

/-- (*cenotaph/frame.taker).lists$1 -/
def c175 : CF := ⟨
 (.seq
 (.reg false [
   ⟨(some 3), (.ld 1 false (.t 0)), none⟩,
   ⟨(some 4), (.call (.c (.fn 89 [])) [(.t 3)]), none⟩,
   ⟨(some 2), (.mv (.t 4)), none⟩] [])
 (.reg true [
   ⟨(some 5), (.ld 1 false (.t 1)), none⟩,
   ⟨(some 6), (.ld 1 false (.t 1)), none⟩,
   ⟨(some 7), (.nck (.t 6)), none⟩,
   ⟨(some 8), (.fad 3 (.t 7)), none⟩,
   ⟨(some 9), (.ld 1 false (.t 8)), none⟩,
   ⟨(some 10), (.mv (.t 2)), none⟩,
   ⟨(some 11), (.ld 1 false (.t 0)), none⟩,
   ⟨(some 12), (.call (.c (.fn 176 [])) [(.t 11)]), none⟩,
   ⟨(some 13), (.build [(.val (.string ⟨#[]⟩)), (.val (.int .i64 0)), (.im [] true)] [(0, 1, (.t 10)), (1, 2, (.t 12))]), none⟩,
   ⟨(some 14), (.bsl 3 1 [(.val (.string ⟨#[]⟩)), (.val (.int .i64 0)), (.im [] true)] [(0, 3, (.t 13))]), none⟩,
   ⟨(some 15), (.app 3 (.t 9) (.t 14)), none⟩,
   ⟨(some 16), (.nck (.t 5)), none⟩,
   ⟨(some 17), (.fad 3 (.t 16)), none⟩,
   ⟨none, (.st 1 (.t 17) (.t 15)), none⟩] [(0, 7), (1, 7), (4, 7), (0, 9), (1, 9), (4, 9), (0, 10)])),
 []⟩

/-- (*cenotaph/frame.taker).span -/
def c176 : CF := ⟨
 (.seq
 (.reg false [
   ⟨(some 1), (.box (.t 0)), none⟩,
   ⟨(some 2), (.alloc [(.val (.int .i64 0)), (.im [] true)]), none⟩] [])
 (.seq
 (.reg false [
   ⟨(some 4), (.ld 1 false (.t 1)), none⟩,
   ⟨(some 5), (.call (.c (.fn 174 [])) [(.t 4)]), none⟩,
   ⟨(some 6), (.build [(.val (.int .i64 0)), (.im [] true)] [(0, 1, (.t 5))]), none⟩,
   ⟨(some 3), (.alloc [(.val (.int .i64 0)), (.im [] true)]), none⟩,
   ⟨none, (.st 2 (.t 3) (.t 6)), none⟩] [])
 (.seq
 (.reg false [
   ⟨(some 7), (.ld 1 false (.t 1)), none⟩,
   ⟨(some 8), (.mkf 234 [(.t 3), (.t 1)]), none⟩,
   ⟨(some 9), (.call (.c (.fn 172 [])) [(.t 7), (.c (.val (.int .i64 4096))), (.t 8)]), none⟩] [])
 (.seq
 (.reg false [
   ⟨(some 10), (.ld 2 true (.t 3)), none⟩,
   ⟨none, (.st 2 (.t 2) (.t 10)), none⟩] [])
 .ret)))),
 [.cell 2 2 true]⟩

/-- (*cenotaph/frame.taker).lists$2 -/
def c177 : CF := ⟨
 (.reg true [
   ⟨(some 2), (.ld 1 false (.t 0)), none⟩,
   ⟨(some 3), (.ld 1 false (.t 0)), none⟩,
   ⟨(some 4), (.nck (.t 3)), none⟩,
   ⟨(some 5), (.fad 5 (.t 4)), none⟩,
   ⟨(some 6), (.ld 1 false (.t 5)), none⟩,
   ⟨(some 7), (.ld 1 false (.t 1)), none⟩,
   ⟨(some 8), (.call (.c (.fn 89 [])) [(.t 7)]), none⟩,
   ⟨(some 9), (.bsl 1 1 [(.val (.string ⟨#[]⟩))] [(0, 1, (.t 8))]), none⟩,
   ⟨(some 10), (.app 1 (.t 6) (.t 9)), none⟩,
   ⟨(some 11), (.nck (.t 2)), none⟩,
   ⟨(some 12), (.fad 5 (.t 11)), none⟩,
   ⟨none, (.st 1 (.t 12) (.t 10)), none⟩] [(0, 6), (1, 6), (4, 6), (0, 7), (1, 7), (4, 7), (0, 8)]),
 []⟩

/-- (*cenotaph/frame.taker).lists$3 -/
def c178 : CF := ⟨
 (.seq
 (.reg false [
   ⟨(some 3), (.ld 1 false (.t 0)), none⟩,
   ⟨(some 4), (.call (.c (.fn 89 [])) [(.t 3)]), none⟩,
   ⟨(some 2), (.mv (.t 4)), none⟩] [])
 (.reg true [
   ⟨(some 5), (.ld 1 false (.t 1)), none⟩,
   ⟨(some 6), (.ld 1 false (.t 1)), none⟩,
   ⟨(some 7), (.nck (.t 6)), none⟩,
   ⟨(some 8), (.fad 7 (.t 7)), none⟩,
   ⟨(some 9), (.ld 1 false (.t 8)), none⟩,
   ⟨(some 10), (.mv (.t 2)), none⟩,
   ⟨(some 11), (.ld 1 false (.t 0)), none⟩,
   ⟨(some 12), (.call (.c (.fn 90 [])) [(.t 11)]), none⟩,
   ⟨(some 13), (.build [(.val (.string ⟨#[]⟩)), (.im [] true)] [(0, 1, (.t 10)), (1, 1, (.t 12))]), none⟩,
   ⟨(some 14), (.bsl 2 1 [(.val (.string ⟨#[]⟩)), (.im [] true)] [(0, 2, (.t 13))]), none⟩,
   ⟨(some 15), (.app 2 (.t 9) (.t 14)), none⟩,
   ⟨(some 16), (.nck (.t 5)), none⟩,
   ⟨(some 17), (.fad 7 (.t 16)), none⟩,
   ⟨none, (.st 1 (.t 17) (.t 15)), none⟩] [(0, 7), (1, 7), (4, 7), (0, 9), (1, 9), (4, 9), (0, 10)])),
 []⟩

def L179_0 : CC :=
 (.seq
 (.reg false [
   ⟨(some 11), (.bin .lss 3 false false (.t 10) (.t 9)), none⟩] [])
 (.seq
 (.cond (.t 11)
  .skip
  (.exit 0))
 (.seq
 (.block 1
  (.seq
  (.reg false [
    ⟨(some 12), (.ias 1 (.t 8) (.t 10)), none⟩,
    ⟨(some 13), (.ld 1 false (.t 12)), none⟩,
    ⟨(some 6), (.mv (.t 13)), none⟩] [])
  (.reg false [
    ⟨(some 14), (.mv (.t 4)), none⟩,
    ⟨(some 15), (.mv (.t 6)), none⟩,
    ⟨(some 16), (.call (.c (.fn 235 [])) [(.t 15)]), none⟩,
    ⟨(some 17), (.bsl 3 1 [(.val (.int .i64 0)), (.val (.complex .f64 0 0)), (.val (.float .f64 0))] [(0, 3, (.t 16))]), none⟩,
    ⟨(some 18), (.app 3 (.t 14) (.t 17)), none⟩,
    ⟨(some 4), (.mv (.t 18)), none⟩] [])))
 (.reg false [
   ⟨(some 19), (.bin .add 3 false true (.t 10) (.c (.val (.int .i64 1)))), none⟩,
   ⟨(some 10), (.mv (.t 19)), none⟩] []))))

/-- cenotaph/zone.Parse -/
def c179 : CF := ⟨
 (.seq
 (.reg false [
   ⟨(some 2), (.mv (.c (.im [] true))), none⟩,
   ⟨(some 3), (.mv (.c (.val (.bool false)))), none⟩] [])
 (.seq
 (.reg false [
   ⟨(some 4), (.mv (.c (.im [] true))), none⟩] [])
 (.seq
 (.seq
 (.reg false [
   ⟨(some 7), (.mv (.t 0)), none⟩,
   ⟨(some 8), (.call (.c (.fn 130 [])) [(.t 7), (.c (.val (.string ⟨#[44]⟩)))]), none⟩,
   ⟨(some 9), (.len false (.t 8)), none⟩,
   ⟨(some 10), (.mv (.c (.val (.int .i64 0)))), none⟩] [])
 (.block 0
  (.loop L179_0)))
 (.seq
 (.seq
 (.reg false [
   ⟨(some 20), (.mv (.t 4)), none⟩,
   ⟨(some 21), (.call (.c (.fn 71 [])) [(.t 20)]), none⟩,
   ⟨(some 22), (.mv (.t 0)), none⟩,
   ⟨(some 23), (.bin .neq 9 false false (.t 21) (.t 22)), none⟩,
   ⟨(some 24), (.mv (.t 23)), none⟩,
   ⟨(some 25), (.mv (.t 0)), (some (24, false))⟩,
   ⟨(some 26), (.bin .eql 9 false true (.t 25) (.c (.val (.string ⟨#[]⟩)))), (some (24, false))⟩,
   ⟨(some 27), (.pick (.t 24) (.c (.val (.bool true))) (.t 26)), none⟩] [])
 (.cond (.t 27)
  (.seq
  (.reg false [
    ⟨(some 2), (.mv (.c (.im [] true))), none⟩,
    ⟨(some 3), (.mv (.c (.val (.bool false)))), none⟩] [])
  .ret)
  .skip))
 (.seq
 (.reg false [
   ⟨(some 28), (.mv (.t 4)), none⟩,
   ⟨(some 2), (.mv (.t 28)), none⟩,
   ⟨(some 3), (.mv (.c (.val (.bool true)))), none⟩] [])
 .ret))))),
 [.tmp 2, .tmp 3]⟩

/-- (*cenotaph/frame.taker).over -/
def c180 : CF := ⟨
 (.seq
 (.reg false [
   ⟨(some 2), (.mv (.c (.val (.bool false)))), none⟩] [])
 (.seq
 (.reg false [
   ⟨(some 3), (.mv (.t 0)), none⟩,
   ⟨(some 4), (.nck (.t 3)), none⟩,
   ⟨(some 5), (.fad 1 (.t 4)), none⟩,
   ⟨(some 6), (.ld 1 false (.t 5)), none⟩,
   ⟨(some 7), (.mv (.t 6)), none⟩,
   ⟨(some 8), (.mv (.t 0)), (some (7, false))⟩,
   ⟨(some 9), (.nck (.t 8)), (some (7, false))⟩,
   ⟨(some 10), (.fad 0 (.t 9)), (some (7, false))⟩,
   ⟨(some 11), (.ld 1 false (.t 10)), (some (7, false))⟩,
   ⟨(some 12), (.call (.c (.fn 88 [])) [(.t 11)]), (some (7, false))⟩,
   ⟨(some 13), (.bin .neq 52 false true (.t 12) (.c (.val (.int .i64 0)))), (some (7, false))⟩,
   ⟨(some 14), (.pick (.t 7) (.c (.val (.bool true))) (.t 13)), none⟩,
   ⟨(some 2), (.mv (.t 14)), none⟩] [])
 .ret)),
 [.tmp 2]⟩

/-- (*cenotaph/frame.taker).lists$4 -/
def c181 : CF := ⟨
 (.seq
 (.reg false [
   ⟨(some 5), (.ld 1 false (.t 0)), none⟩,
   ⟨(some 6), (.nck (.t 5)), none⟩,
   ⟨(some 7), (.fad 0 (.t 6)), none⟩,
   ⟨(some 8), (.ld 1 false (.t 7)), none⟩,
   ⟨(some 9), (.call (.c (.fn 182 [])) [(.t 8)]), none⟩,
   ⟨(some 4), (.mv (.t 9)), none⟩,
   ⟨(some 10), (.ext (.t 4) 0), none⟩,
   ⟨(some 11), (.ext (.t 4) 1), none⟩,
   ⟨(some 2), (.alloc [(.val (.int .i64 0)), (.val (.string ⟨#[]⟩)), (.val (.int .i64 0)), (.val (.int .i64 0)), (.val (.bool false)), (.val (.complex .f64 0 0)), (.val (.string ⟨#[]⟩)), (.val (.bool false))]), none⟩,
   ⟨none, (.st 8 (.t 2) (.t 10)), none⟩,
   ⟨(some 3), (.mv (.t 11)), none⟩] [])
 (.seq
 (.reg true [
   ⟨(some 12), (.ld 1 false (.t 1)), none⟩,
   ⟨(some 13), (.ld 1 false (.t 1)), none⟩,
   ⟨(some 14), (.nck (.t 13)), none⟩,
   ⟨(some 15), (.fad 9 (.t 14)), none⟩,
   ⟨(some 16), (.ld 1 false (.t 15)), none⟩,
   ⟨(some 17), (.ld 8 true (.t 2)), none⟩,
   ⟨(some 18), (.bsl 8 1 [(.val (.int .i64 0)), (.val (.string ⟨#[]⟩)), (.val (.int .i64 0)), (.val (.int .i64 0)), (.val (.bool false)), (.val (.complex .f64 0 0)), (.val (.string ⟨#[]⟩)), (.val (.bool false))] [(0, 8, (.t 17))]), none⟩,
   ⟨(some 19), (.app 8 (.t 16) (.t 18)), none⟩,
   ⟨(some 20), (.nck (.t 12)), none⟩,
   ⟨(some 21), (.fad 9 (.t 20)), none⟩,
   ⟨none, (.st 1 (.t 21) (.t 19)), none⟩] [(0, 6), (1, 6), (4, 6), (0, 7)])
 (.reg true [
   ⟨(some 22), (.ld 1 false (.t 0)), none⟩,
   ⟨(some 23), (.ld 1 false (.t 0)), none⟩,
   ⟨(some 24), (.nck (.t 23)), none⟩,
   ⟨(some 25), (.fad 1 (.t 24)), none⟩,
   ⟨(some 26), (.ld 1 false (.t 25)), none⟩,
   ⟨(some 27), (.mv (.t 26)), none⟩,
   ⟨(some 28), (.mv (.t 3)), (some (27, false))⟩,
   ⟨(some 29), (.un .not (.t 28)), (some (27, false))⟩,
   ⟨(some 30), (.mv (.t 29)), (some (27, false))⟩,
   ⟨(some 31), (.ld 1 false (.t 0)), (some (30, true))⟩,
   ⟨(some 32), (.nck (.t 31)), (some (30, true))⟩,
   ⟨(some 33), (.fad 0 (.t 32)), (some (30, true))⟩,
   ⟨(some 34), (.ld 1 false (.t 33)), (some (30, true))⟩,
   ⟨(some 35), (.call (.c (.fn 88 [])) [(.t 34)]), (some (30, true))⟩,
   ⟨(some 36), (.bin .eql 52 false true (.t 35) (.c (.val (.int .i64 0)))), (some (30, true))⟩,
   ⟨(some 37), (.pick (.t 30) (.t 36) (.c (.val (.bool false)))), (some (27, false))⟩,
   ⟨(some 38), (.pick (.t 27) (.c (.val (.bool true))) (.t 37)), none⟩,
   ⟨(some 39), (.nck (.t 22)), none⟩,
   ⟨(some 40), (.fad 1 (.t 39)), none⟩,
   ⟨none, (.st 1 (.t 40) (.t 38)), none⟩] [(0, 13)]))),
 []⟩

/-- cenotaph/item.Take -/
def c182 : CF := ⟨
 (.seq
 (.reg false [
   ⟨(some 2), (.alloc [(.val (.int .i64 0)), (.val (.string ⟨#[]⟩)), (.val (.int .i64 0)), (.val (.int .i64 0)), (.val (.bool false)), (.val (.complex .f64 0 0)), (.val (.string ⟨#[]⟩)), (.val (.bool false))]), none⟩,
   ⟨(some 3), (.mv (.c (.val (.bool false)))), none⟩] [])
 (.seq
 (.reg false [
   ⟨(some 7), (.mv (.t 0)), none⟩,
   ⟨(some 8), (.call (.c (.fn 87 [])) [(.t 7), (.c (.val (.int .i64 31)))]), none⟩,
   ⟨(some 9), (.build [(.val (.int .i64 0)), (.val (.string ⟨#[]⟩)), (.val (.int .i64 0)), (.val (.int .i64 0)), (.val (.bool false)), (.val (.complex .f64 0 0)), (.val (.string ⟨#[]⟩)), (.val (.bool false))] [(0, 1, (.t 8))]), none⟩,
   ⟨(some 4), (.alloc [(.val (.int .i64 0)), (.val (.string ⟨#[]⟩)), (.val (.int .i64 0)), (.val (.int .i64 0)), (.val (.bool false)), (.val (.complex .f64 0 0)), (.val (.string ⟨#[]⟩)), (.val (.bool false))]), none⟩,
   ⟨none, (.st 8 (.t 4) (.t 9)), none⟩] [])
 (.seq
 (.reg false [
   ⟨(some 10), (.mv (.t 0)), none⟩,
   ⟨(some 11), (.call (.c (.fn 171 [])) [(.t 10), (.c (.val (.int .i64 6)))]), none⟩,
   ⟨(some 12), (.fad 1 (.t 4)), none⟩,
   ⟨(some 13), (.fad 0 (.t 12)), none⟩,
   ⟨none, (.st 1 (.t 13) (.t 11)), none⟩] [])
 (.seq
 (.reg false [
   ⟨(some 14), (.mv (.t 0)), none⟩,
   ⟨(some 15), (.call (.c (.fn 87 [])) [(.t 14), (.c (.val (.int .i64 1048576)))]), none⟩,
   ⟨(some 16), (.mv (.t 0)), none⟩,
   ⟨(some 17), (.call (.c (.fn 87 [])) [(.t 16), (.c (.val (.int .i64 1048576)))]), none⟩,
   ⟨(some 18), (.fad 1 (.t 4)), none⟩,
   ⟨(some 19), (.fad 1 (.t 18)), none⟩,
   ⟨none, (.st 1 (.t 19) (.t 15)), none⟩,
   ⟨(some 20), (.fad 1 (.t 4)), none⟩,
   ⟨(some 21), (.fad 2 (.t 20)), none⟩,
   ⟨none, (.st 1 (.t 21) (.t 17)), none⟩] [])
 (.seq
 (.reg false [
   ⟨(some 22), (.mv (.t 0)), none⟩,
   ⟨(some 23), (.call (.c (.fn 87 [])) [(.t 22), (.c (.val (.int .i64 2)))]), none⟩,
   ⟨(some 5), (.mv (.t 23)), none⟩] [])
 (.seq
 (.reg false [
   ⟨(some 24), (.mv (.t 5)), none⟩,
   ⟨(some 25), (.bin .eql 3 false true (.t 24) (.c (.val (.int .i64 0)))), none⟩,
   ⟨(some 26), (.mv (.t 5)), none⟩,
   ⟨(some 27), (.bin .eql 3 false true (.t 26) (.c (.val (.int .i64 2)))), none⟩,
   ⟨(some 28), (.fad 4 (.t 4)), none⟩,
   ⟨none, (.st 1 (.t 28) (.t 25)), none⟩,
   ⟨(some 29), (.fad 7 (.t 4)), none⟩,
   ⟨none, (.st 1 (.t 29) (.t 27)), none⟩] [])
 (.seq
 (.seq
 (.reg false [
   ⟨(some 30), (.mv (.t 5)), none⟩,
   ⟨(some 31), (.bin .neq 3 false true (.t 30) (.c (.val (.int .i64 0)))), none⟩] [])
 (.cond (.t 31)
  (.seq
  (.reg false [
    ⟨(some 32), (.mv (.t 0)), none⟩,
    ⟨(some 33), (.call (.c (.fn 236 [])) [(.t 32)]), none⟩,
    ⟨(some 6), (.mv (.t 33)), none⟩] [])
  (.reg false [
    ⟨(some 34), (.mv (.t 6)), none⟩,
    ⟨(some 35), (.mv (.t 0)), none⟩,
    ⟨(some 36), (.call (.c (.fn 236 [])) [(.t 35)]), none⟩,
    ⟨(some 37), (.fun_ .complex #[226, 226] 95 [(.t 34), (.t 36)]), none⟩,
    ⟨(some 38), (.fad 5 (.t 4)), none⟩,
    ⟨none, (.st 1 (.t 38) (.t 37)), none⟩] []))
  .skip))
 (.seq
 (.seq
 (.reg false [
   ⟨(some 39), (.mv (.t 5)), none⟩,
   ⟨(some 40), (.bin .eql 3 false true (.t 39) (.c (.val (.int .i64 2)))), none⟩] [])
 (.cond (.t 40)
  (.reg false [
    ⟨(some 41), (.mv (.t 0)), none⟩,
    ⟨(some 42), (.call (.c (.fn 171 [])) [(.t 41), (.c (.val (.int .i64 16)))]), none⟩,
    ⟨(some 43), (.fad 6 (.t 4)), none⟩,
    ⟨none, (.st 1 (.t 43) (.t 42)), none⟩] [])
  .skip))
 (.seq
 (.seq
 (.reg false [
   ⟨(some 44), (.mv (.t 0)), none⟩,
   ⟨(some 45), (.call (.c (.fn 88 [])) [(.t 44)]), none⟩,
   ⟨(some 46), (.bin .neq 52 false true (.t 45) (.c (.val (.int .i64 0)))), none⟩,
   ⟨(some 47), (.mv (.t 46)), none⟩,
   ⟨(some 48), (.ld 8 true (.t 4)), (some (47, false))⟩,
   ⟨(some 49), (.call (.c (.fn 162 [])) [(.t 48)]), (some (47, false))⟩,
   ⟨(some 50), (.un .not (.t 49)), (some (47, false))⟩,
   ⟨(some 51), (.pick (.t 47) (.c (.val (.bool true))) (.t 50)), none⟩] [])
 (.cond (.t 51)
  (.seq
  (.reg false [
    ⟨(some 52), (.build [(.val (.int .i64 0)), (.val (.string ⟨#[]⟩)), (.val (.int .i64 0)), (.val (.int .i64 0)), (.val (.bool false)), (.val (.complex .f64 0 0)), (.val (.string ⟨#[]⟩)), (.val (.bool false))] []), none⟩,
    ⟨none, (.st 8 (.t 2) (.t 52)), none⟩,
    ⟨(some 3), (.mv (.c (.val (.bool false)))), none⟩] [])
  .ret)
  .skip))
 (.seq
 (.reg false [
   ⟨(some 53), (.ld 8 true (.t 4)), none⟩,
   ⟨none, (.st 8 (.t 2) (.t 53)), none⟩,
   ⟨(some 3), (.mv (.c (.val (.bool true)))), none⟩] [])
 .ret)))))))))),
 [.cell 2 8 true, .tmp 3]⟩

def L183_0 : CC :=
 (.seq
 (.reg false [
   ⟨(some 18), (.bin .lss 3 false false (.t 17) (.t 16)), none⟩] [])
 (.seq
 (.cond (.t 18)
  .skip
  (.exit 0))
 (.seq
 (.block 1
  (.seq
  (.reg false [
    ⟨(some 19), (.mv (.t 17)), none⟩,
    ⟨(some 20), (.ias 3 (.t 15) (.t 17)), none⟩,
    ⟨(some 21), (.ld 3 true (.t 20)), none⟩,
    ⟨(some 8), (.alloc [(.val (.string ⟨#[]⟩)), (.val (.int .i64 0)), (.im [] true)]), none⟩,
    ⟨(some 7), (.mv (.t 19)), none⟩,
    ⟨none, (.st 3 (.t 8) (.t 21)), none⟩] [])
  (.seq
  (.reg false [
    ⟨(some 22), (.mv (.t 1)), none⟩,
    ⟨(some 23), (.mv (.t 7)), none⟩,
    ⟨(some 24), (.ias 3 (.t 22) (.t 23)), none⟩,
    ⟨(some 25), (.ld 3 true (.t 24)), none⟩,
    ⟨(some 9), (.alloc [(.val (.string ⟨#[]⟩)), (.val (.int .i64 0)), (.im [] true)]), none⟩,
    ⟨none, (.st 3 (.t 9) (.t 25)), none⟩] [])
  (.seq
  (.reg false [
    ⟨(some 26), (.mv (.t 2)), none⟩,
    ⟨(some 27), (.ld 3 true (.t 8)), none⟩,
    ⟨(some 28), (.ld 3 true (.t 9)), none⟩,
    ⟨(some 29), (.call (.t 26) [(.t 27), (.t 28)]), none⟩,
    ⟨(some 30), (.un .not (.t 29)), none⟩] [])
  (.cond (.t 30)
   (.seq
   (.reg false [
     ⟨(some 6), (.mv (.c (.val (.bool false)))), none⟩] [])
   .ret)
   .skip)))))
 (.reg false [
   ⟨(some 31), (.bin .add 3 false true (.t 17) (.c (.val (.int .i64 1)))), none⟩,
   ⟨(some 17), (.mv (.t 31)), none⟩] []))))

/-- slices.EqualFunc[cenotaph/know.Know,cenotaph/know.Know,cenotaph/know.Row,cenotaph/know.Row] -/
def c183 : CF := ⟨
 (.seq
 (.reg false [
   ⟨(some 6), (.mv (.c (.val (.bool false)))), none⟩] [])
 (.seq
 (.seq
 (.reg false [
   ⟨(some 10), (.mv (.t 0)), none⟩,
   ⟨(some 11), (.len false (.t 10)), none⟩,
   ⟨(some 12), (.mv (.t 1)), none⟩,
   ⟨(some 13), (.len false (.t 12)), none⟩,
   ⟨(some 14), (.bin .neq 3 false false (.t 11) (.t 13)), none⟩] [])
 (.cond (.t 14)
  (.seq
  (.reg false [
    ⟨(some 6), (.mv (.c (.val (.bool false)))), none⟩] [])
  .ret)
  .skip))
 (.seq
 (.seq
 (.reg false [
   ⟨(some 15), (.mv (.t 0)), none⟩,
   ⟨(some 16), (.len false (.t 15)), none⟩,
   ⟨(some 17), (.mv (.c (.val (.int .i64 0)))), none⟩] [])
 (.block 0
  (.loop L183_0)))
 (.seq
 (.reg false [
   ⟨(some 6), (.mv (.c (.val (.bool true)))), none⟩] [])
 .ret)))),
 [.tmp 6]⟩

/-- cenotaph/know.Same$1 -/
def c184 : CF := ⟨
 (.seq
 (.reg false [
   ⟨(some 2), (.box (.t 0)), none⟩,
   ⟨(some 3), (.box (.t 1)), none⟩,
   ⟨(some 4), (.mv (.c (.val (.bool false)))), none⟩] [])
 (.seq
 (.reg false [
   ⟨(some 5), (.fad 0 (.t 2)), none⟩,
   ⟨(some 6), (.ld 1 false (.t 5)), none⟩,
   ⟨(some 7), (.fad 0 (.t 3)), none⟩,
   ⟨(some 8), (.ld 1 false (.t 7)), none⟩,
   ⟨(some 9), (.bin .eql 33 false false (.t 6) (.t 8)), none⟩,
   ⟨(some 10), (.mv (.t 9)), none⟩,
   ⟨(some 11), (.fad 1 (.t 2)), (some (10, true))⟩,
   ⟨(some 12), (.ld 2 true (.t 11)), (some (10, true))⟩,
   ⟨(some 13), (.fad 1 (.t 3)), (some (10, true))⟩,
   ⟨(some 14), (.ld 2 true (.t 13)), (some (10, true))⟩,
   ⟨(some 15), (.call (.c (.fn 185 [])) [(.t 12), (.t 14)]), (some (10, true))⟩,
   ⟨(some 16), (.pick (.t 10) (.t 15) (.c (.val (.bool false)))), none⟩,
   ⟨(some 4), (.mv (.t 16)), none⟩] [])
 .ret)),
 [.tmp 4]⟩

/-- cenotaph/span.Same -/
def c185 : CF := ⟨
 (.seq
 (.reg false [
   ⟨(some 2), (.box (.t 0)), none⟩,
   ⟨(some 3), (.box (.t 1)), none⟩,
   ⟨(some 4), (.mv (.c (.val (.bool false)))), none⟩] [])
 (.seq
 (.reg false [
   ⟨(some 5), (.fad 0 (.t 2)), none⟩,
   ⟨(some 6), (.ld 1 false (.t 5)), none⟩,
   ⟨(some 7), (.fad 0 (.t 3)), none⟩,
   ⟨(some 8), (.ld 1 false (.t 7)), none⟩,
   ⟨(some 9), (.bin .eql 3 false false (.t 6) (.t 8)), none⟩,
   ⟨(some 10), (.mv (.t 9)), none⟩,
   ⟨(some 11), (.fad 1 (.t 2)), (some (10, true))⟩,
   ⟨(some 12), (.ld 1 false (.t 11)), (some (10, true))⟩,
   ⟨(some 13), (.fad 1 (.t 3)), (some (10, true))⟩,
   ⟨(some 14), (.ld 1 false (.t 13)), (some (10, true))⟩,
   ⟨(some 15), (.call (.c (.fn 237 [])) [(.t 12), (.t 14)]), (some (10, true))⟩,
   ⟨(some 16), (.pick (.t 10) (.t 15) (.c (.val (.bool false)))), none⟩,
   ⟨(some 4), (.mv (.t 16)), none⟩] [])
 .ret)),
 [.tmp 4]⟩

def L186_0 : CC :=
 (.seq
 (.reg false [
   ⟨(some 14), (.bin .lss 3 false false (.t 13) (.t 12)), none⟩] [])
 (.seq
 (.cond (.t 14)
  .skip
  (.exit 0))
 (.seq
 (.block 1
  (.seq
  (.reg false [
    ⟨(some 15), (.mv (.t 13)), none⟩,
    ⟨(some 5), (.mv (.t 15)), none⟩] [])
  (.seq
  (.reg true [
    ⟨(some 16), (.mv (.t 0)), none⟩,
    ⟨(some 17), (.mv (.t 5)), none⟩,
    ⟨(some 18), (.ias 2 (.t 16) (.t 17)), none⟩,
    ⟨(some 19), (.ld 2 true (.t 18)), none⟩,
    ⟨(some 20), (.mv (.t 1)), none⟩,
    ⟨(some 21), (.mv (.t 5)), none⟩,
    ⟨(some 22), (.ias 2 (.t 20) (.t 21)), none⟩,
    ⟨(some 23), (.ld 2 true (.t 22)), none⟩,
    ⟨(some 24), (.bin .neq 236 false false (.t 19) (.t 23)), none⟩] [])
  (.cond (.t 24)
   (.seq
   (.reg false [
     ⟨(some 4), (.mv (.c (.val (.bool false)))), none⟩] [])
   .ret)
   .skip))))
 (.reg false [
   ⟨(some 25), (.bin .add 3 false true (.t 13) (.c (.val (.int .i64 1)))), none⟩,
   ⟨(some 13), (.mv (.t 25)), none⟩] []))))

/-- slices.Equal[cenotaph/vec.Vec,cenotaph/vec.At] -/
def c186 : CF := ⟨
 (.seq
 (.reg false [
   ⟨(some 4), (.mv (.c (.val (.bool false)))), none⟩] [])
 (.seq
 (.seq
 (.reg false [
   ⟨(some 6), (.mv (.t 0)), none⟩,
   ⟨(some 7), (.len false (.t 6)), none⟩,
   ⟨(some 8), (.mv (.t 1)), none⟩,
   ⟨(some 9), (.len false (.t 8)), none⟩,
   ⟨(some 10), (.bin .neq 3 false false (.t 7) (.t 9)), none⟩] [])
 (.cond (.t 10)
  (.seq
  (.reg false [
    ⟨(some 4), (.mv (.c (.val (.bool false)))), none⟩] [])
  .ret)
  .skip))
 (.seq
 (.seq
 (.reg false [
   ⟨(some 11), (.mv (.t 0)), none⟩,
   ⟨(some 12), (.len false (.t 11)), none⟩,
   ⟨(some 13), (.mv (.c (.val (.int .i64 0)))), none⟩] [])
 (.block 0
  (.loop L186_0)))
 (.seq
 (.reg false [
   ⟨(some 4), (.mv (.c (.val (.bool true)))), none⟩] [])
 .ret)))),
 [.tmp 4]⟩

def L187_0 : CC :=
 (.seq
 (.reg false [
   ⟨(some 18), (.bin .lss 3 false false (.t 17) (.t 16)), none⟩] [])
 (.seq
 (.cond (.t 18)
  .skip
  (.exit 0))
 (.seq
 (.block 1
  (.seq
  (.reg false [
    ⟨(some 19), (.mv (.t 17)), none⟩,
    ⟨(some 20), (.ias 2 (.t 15) (.t 17)), none⟩,
    ⟨(some 21), (.ld 2 true (.t 20)), none⟩,
    ⟨(some 8), (.alloc [(.val (.string ⟨#[]⟩)), (.im [] true)]), none⟩,
    ⟨(some 7), (.mv (.t 19)), none⟩,
    ⟨none, (.st 2 (.t 8) (.t 21)), none⟩] [])
  (.seq
  (.reg false [
    ⟨(some 22), (.mv (.t 1)), none⟩,
    ⟨(some 23), (.mv (.t 7)), none⟩,
    ⟨(some 24), (.ias 2 (.t 22) (.t 23)), none⟩,
    ⟨(some 25), (.ld 2 true (.t 24)), none⟩,
    ⟨(some 9), (.alloc [(.val (.string ⟨#[]⟩)), (.im [] true)]), none⟩,
    ⟨none, (.st 2 (.t 9) (.t 25)), none⟩] [])
  (.seq
  (.reg false [
    ⟨(some 26), (.mv (.t 2)), none⟩,
    ⟨(some 27), (.ld 2 true (.t 8)), none⟩,
    ⟨(some 28), (.ld 2 true (.t 9)), none⟩,
    ⟨(some 29), (.call (.t 26) [(.t 27), (.t 28)]), none⟩,
    ⟨(some 30), (.un .not (.t 29)), none⟩] [])
  (.cond (.t 30)
   (.seq
   (.reg false [
     ⟨(some 6), (.mv (.c (.val (.bool false)))), none⟩] [])
   .ret)
   .skip)))))
 (.reg false [
   ⟨(some 31), (.bin .add 3 false true (.t 17) (.c (.val (.int .i64 1)))), none⟩,
   ⟨(some 17), (.mv (.t 31)), none⟩] []))))

/-- slices.EqualFunc[cenotaph/matrix.Matrix,cenotaph/matrix.Matrix,cenotaph/matrix.Row,cenotaph/matrix.Row] -/
def c187 : CF := ⟨
 (.seq
 (.reg false [
   ⟨(some 6), (.mv (.c (.val (.bool false)))), none⟩] [])
 (.seq
 (.seq
 (.reg false [
   ⟨(some 10), (.mv (.t 0)), none⟩,
   ⟨(some 11), (.len false (.t 10)), none⟩,
   ⟨(some 12), (.mv (.t 1)), none⟩,
   ⟨(some 13), (.len false (.t 12)), none⟩,
   ⟨(some 14), (.bin .neq 3 false false (.t 11) (.t 13)), none⟩] [])
 (.cond (.t 14)
  (.seq
  (.reg false [
    ⟨(some 6), (.mv (.c (.val (.bool false)))), none⟩] [])
  .ret)
  .skip))
 (.seq
 (.seq
 (.reg false [
   ⟨(some 15), (.mv (.t 0)), none⟩,
   ⟨(some 16), (.len false (.t 15)), none⟩,
   ⟨(some 17), (.mv (.c (.val (.int .i64 0)))), none⟩] [])
 (.block 0
  (.loop L187_0)))
 (.seq
 (.reg false [
   ⟨(some 6), (.mv (.c (.val (.bool true)))), none⟩] [])
 .ret)))),
 [.tmp 6]⟩

/-- cenotaph/matrix.Same$1 -/
def c188 : CF := ⟨
 (.seq
 (.reg false [
   ⟨(some 2), (.box (.t 0)), none⟩,
   ⟨(some 3), (.box (.t 1)), none⟩,
   ⟨(some 4), (.mv (.c (.val (.bool false)))), none⟩] [])
 (.seq
 (.reg false [
   ⟨(some 5), (.fad 0 (.t 2)), none⟩,
   ⟨(some 6), (.ld 1 false (.t 5)), none⟩,
   ⟨(some 7), (.fad 0 (.t 3)), none⟩,
   ⟨(some 8), (.ld 1 false (.t 7)), none⟩,
   ⟨(some 9), (.bin .eql 33 false false (.t 6) (.t 8)), none⟩,
   ⟨(some 10), (.mv (.t 9)), none⟩,
   ⟨(some 11), (.fad 1 (.t 2)), (some (10, true))⟩,
   ⟨(some 12), (.ld 1 false (.t 11)), (some (10, true))⟩,
   ⟨(some 13), (.fad 1 (.t 3)), (some (10, true))⟩,
   ⟨(some 14), (.ld 1 false (.t 13)), (some (10, true))⟩,
   ⟨(some 15), (.call (.c (.fn 95 [])) [(.t 12), (.t 14)]), (some (10, true))⟩,
   ⟨(some 16), (.pick (.t 10) (.t 15) (.c (.val (.bool false)))), none⟩,
   ⟨(some 4), (.mv (.t 16)), none⟩] [])
 .ret)),
 [.tmp 4]⟩

def L189_0 : CC :=
 (.seq
 (.reg false [
   ⟨(some 14), (.bin .lss 3 false false (.t 13) (.t 12)), none⟩] [])
 (.seq
 (.cond (.t 14)
  .skip
  (.exit 0))
 (.seq
 (.block 1
  (.seq
  (.reg false [
    ⟨(some 15), (.mv (.t 13)), none⟩,
    ⟨(some 5), (.mv (.t 15)), none⟩] [])
  (.seq
  (.reg true [
    ⟨(some 16), (.mv (.t 0)), none⟩,
    ⟨(some 17), (.mv (.t 5)), none⟩,
    ⟨(some 18), (.ias 3 (.t 16) (.t 17)), none⟩,
    ⟨(some 19), (.ld 3 true (.t 18)), none⟩,
    ⟨(some 20), (.mv (.t 1)), none⟩,
    ⟨(some 21), (.mv (.t 5)), none⟩,
    ⟨(some 22), (.ias 3 (.t 20) (.t 21)), none⟩,
    ⟨(some 23), (.ld 3 true (.t 22)), none⟩,
    ⟨(some 24), (.bin .neq 228 false false (.t 19) (.t 23)), none⟩] [])
  (.cond (.t 24)
   (.seq
   (.reg false [
     ⟨(some 4), (.mv (.c (.val (.bool false)))), none⟩] [])
   .ret)
   .skip))))
 (.reg false [
   ⟨(some 25), (.bin .add 3 false true (.t 13) (.c (.val (.int .i64 1)))), none⟩,
   ⟨(some 13), (.mv (.t 25)), none⟩] []))))

/-- slices.Equal[cenotaph/zone.Zone,cenotaph/zone.Step] -/
def c189 : CF := ⟨
 (.seq
 (.reg false [
   ⟨(some 4), (.mv (.c (.val (.bool false)))), none⟩] [])
 (.seq
 (.seq
 (.reg false [
   ⟨(some 6), (.mv (.t 0)), none⟩,
   ⟨(some 7), (.len false (.t 6)), none⟩,
   ⟨(some 8), (.mv (.t 1)), none⟩,
   ⟨(some 9), (.len false (.t 8)), none⟩,
   ⟨(some 10), (.bin .neq 3 false false (.t 7) (.t 9)), none⟩] [])
 (.cond (.t 10)
  (.seq
  (.reg false [
    ⟨(some 4), (.mv (.c (.val (.bool false)))), none⟩] [])
  .ret)
  .skip))
 (.seq
 (.seq
 (.reg false [
   ⟨(some 11), (.mv (.t 0)), none⟩,
   ⟨(some 12), (.len false (.t 11)), none⟩,
   ⟨(some 13), (.mv (.c (.val (.int .i64 0)))), none⟩] [])
 (.block 0
  (.loop L189_0)))
 (.seq
 (.reg false [
   ⟨(some 4), (.mv (.c (.val (.bool true)))), none⟩] [])
 .ret)))),
 [.tmp 4]⟩

/-- cenotaph/zone.Whole -/
def c202 : CF := ⟨
 (.seq
 (.reg false [
   ⟨(some 2), (.mv (.c (.val (.bool false)))), none⟩] [])
 (.seq
 (.reg false [
   ⟨(some 3), (.mv (.t 0)), none⟩,
   ⟨(some 4), (.fun_ .real #[95] 226 [(.t 3)]), none⟩,
   ⟨(some 5), (.call (.c (.fn 222 [])) [(.t 4), (.c (.val (.float .f64 13875379345695965184))), (.c (.val (.float .f64 4652007308841189376)))]), none⟩,
   ⟨(some 6), (.mv (.t 5)), none⟩,
   ⟨(some 7), (.mv (.t 0)), (some (6, true))⟩,
   ⟨(some 8), (.fun_ .imag #[95] 226 [(.t 7)]), (some (6, true))⟩,
   ⟨(some 9), (.call (.c (.fn 222 [])) [(.t 8), (.c (.val (.float .f64 13875379345695965184))), (.c (.val (.float .f64 4652007308841189376)))]), (some (6, true))⟩,
   ⟨(some 10), (.pick (.t 6) (.t 9) (.c (.val (.bool false)))), none⟩,
   ⟨(some 2), (.mv (.t 10)), none⟩] [])
 .ret)),
 [.tmp 2]⟩

/-- internal/stringslite.HasPrefix -/
def c212 : CF := ⟨
 (.seq
 (.reg false [
   ⟨(some 4), (.mv (.c (.val (.bool false)))), none⟩] [])
 (.seq
 (.reg false [
   ⟨(some 5), (.mv (.t 0)), none⟩,
   ⟨(some 6), (.len true (.t 5)), none⟩,
   ⟨(some 7), (.mv (.t 1)), none⟩,
   ⟨(some 8), (.len true (.t 7)), none⟩,
   ⟨(some 9), (.bin .geq 3 false false (.t 6) (.t 8)), none⟩,
   ⟨(some 10), (.mv (.t 9)), none⟩,
   ⟨(some 11), (.mv (.t 0)), (some (10, true))⟩,
   ⟨(some 12), (.mv (.t 1)), (some (10, true))⟩,
   ⟨(some 13), (.len true (.t 12)), (some (10, true))⟩,
   ⟨(some 14), (.slc 0 (.t 11) none (some (.t 13)) none), (some (10, true))⟩,
   ⟨(some 15), (.mv (.t 1)), (some (10, true))⟩,
   ⟨(some 16), (.bin .eql 9 false false (.t 14) (.t 15)), (some (10, true))⟩,
   ⟨(some 17), (.pick (.t 10) (.t 16) (.c (.val (.bool false)))), none⟩,
   ⟨(some 4), (.mv (.t 17)), none⟩] [])
 .ret)),
 [.tmp 4]⟩

def L213_0 : CC :=
 (.seq
 (.reg false [
   ⟨(some 27), (.bin .lss 3 false false (.t 26) (.t 25)), none⟩] [])
 (.seq
 (.cond (.t 27)
  .skip
  (.exit 0))
 (.seq
 (.block 1
  (.seq
  (.reg false [
    ⟨(some 28), (.ias 1 (.t 24) (.t 26)), none⟩,
    ⟨(some 29), (.ld 1 false (.t 28)), none⟩,
    ⟨(some 5), (.mv (.t 29)), none⟩] [])
  (.seq
  (.seq
  (.reg false [
    ⟨(some 30), (.mv (.t 5)), none⟩,
    ⟨(some 31), (.mv (.t 3)), none⟩,
    ⟨(some 32), (.bin .leq 3 false false (.t 30) (.t 31)), none⟩,
    ⟨(some 33), (.mv (.t 32)), none⟩,
    ⟨(some 34), (.mv (.t 5)), (some (33, false))⟩,
    ⟨(some 35), (.bin .gtr 3 false true (.t 34) (.c (.val (.int .i64 1048576)))), (some (33, false))⟩,
    ⟨(some 36), (.pick (.t 33) (.c (.val (.bool true))) (.t 35)), none⟩] [])
  (.cond (.t 36)
   (.seq
   (.reg false [
     ⟨(some 2), (.mv (.c (.val (.bool false)))), none⟩] [])
   .ret)
   .skip))
  (.reg false [
    ⟨(some 37), (.mv (.t 5)), none⟩,
    ⟨(some 3), (.mv (.t 37)), none⟩] []))))
 (.reg false [
   ⟨(some 38), (.bin .add 3 false true (.t 26) (.c (.val (.int .i64 1)))), none⟩,
   ⟨(some 26), (.mv (.t 38)), none⟩] []))))

/-- cenotaph/span.Right -/
def c213 : CF := ⟨
 (.seq
 (.reg false [
   ⟨(some 1), (.box (.t 0)), none⟩,
   ⟨(some 2), (.mv (.c (.val (.bool false)))), none⟩] [])
 (.seq
 (.seq
 (.reg false [
   ⟨(some 6), (.fad 0 (.t 1)), none⟩,
   ⟨(some 7), (.ld 1 false (.t 6)), none⟩,
   ⟨(some 8), (.bin .lss 3 false true (.t 7) (.c (.val (.int .i64 0)))), none⟩,
   ⟨(some 9), (.mv (.t 8)), none⟩,
   ⟨(some 10), (.fad 0 (.t 1)), (some (9, false))⟩,
   ⟨(some 11), (.ld 1 false (.t 10)), (some (9, false))⟩,
   ⟨(some 12), (.bin .gtr 3 false true (.t 11) (.c (.val (.int .i64 1048576)))), (some (9, false))⟩,
   ⟨(some 13), (.pick (.t 9) (.c (.val (.bool true))) (.t 12)), none⟩,
   ⟨(some 14), (.mv (.t 13)), none⟩,
   ⟨(some 15), (.fad 1 (.t 1)), (some (14, false))⟩,
   ⟨(some 16), (.ld 1 false (.t 15)), (some (14, false))⟩,
   ⟨(some 17), (.len false (.t 16)), (some (14, false))⟩,
   ⟨(some 18), (.bin .gtr 3 false true (.t 17) (.c (.val (.int .i64 4096)))), (some (14, false))⟩,
   ⟨(some 19), (.pick (.t 14) (.c (.val (.bool true))) (.t 18)), none⟩] [])
 (.cond (.t 19)
  (.seq
  (.reg false [
    ⟨(some 2), (.mv (.c (.val (.bool false)))), none⟩] [])
  .ret)
  .skip))
 (.seq
 (.reg false [
   ⟨(some 20), (.fad 0 (.t 1)), none⟩,
   ⟨(some 21), (.ld 1 false (.t 20)), none⟩,
   ⟨(some 22), (.bin .add 3 false true (.t 21) (.c (.val (.int .i64 1)))), none⟩,
   ⟨(some 3), (.mv (.t 22)), none⟩] [])
 (.seq
 (.seq
 (.reg false [
   ⟨(some 23), (.fad 1 (.t 1)), none⟩,
   ⟨(some 24), (.ld 1 false (.t 23)), none⟩,
   ⟨(some 25), (.len false (.t 24)), none⟩,
   ⟨(some 26), (.mv (.c (.val (.int .i64 0)))), none⟩] [])
 (.block 0
  (.loop L213_0)))
 (.seq
 (.reg false [
   ⟨(some 2), (.mv (.c (.val (.bool true)))), none⟩] [])
 .ret))))),
 [.tmp 2]⟩

/-- cenotaph/span.Count -/
def c214 : CF := ⟨
 (.seq
 (.reg false [
   ⟨(some 1), (.box (.t 0)), none⟩,
   ⟨(some 2), (.mv (.c (.val (.int .i64 0)))), none⟩] [])
 (.seq
 (.reg false [
   ⟨(some 3), (.fad 0 (.t 1)), none⟩,
   ⟨(some 4), (.ld 1 false (.t 3)), none⟩,
   ⟨(some 5), (.fad 1 (.t 1)), none⟩,
   ⟨(some 6), (.ld 1 false (.t 5)), none⟩,
   ⟨(some 7), (.len false (.t 6)), none⟩,
   ⟨(some 8), (.bin .add 3 false false (.t 4) (.t 7)), none⟩,
   ⟨(some 2), (.mv (.t 8)), none⟩] [])
 .ret)),
 [.tmp 2]⟩

/-- cenotaph/know.order -/
def c215 : CF := ⟨
 (.seq
 (.reg false [
   ⟨(some 2), (.box (.t 0)), none⟩,
   ⟨(some 3), (.box (.t 1)), none⟩,
   ⟨(some 4), (.mv (.c (.val (.int .i64 0)))), none⟩] [])
 (.seq
 (.reg false [
   ⟨(some 5), (.fad 0 (.t 2)), none⟩,
   ⟨(some 6), (.ld 1 false (.t 5)), none⟩,
   ⟨(some 7), (.fad 0 (.t 3)), none⟩,
   ⟨(some 8), (.ld 1 false (.t 7)), none⟩,
   ⟨(some 9), (.call (.c (.fn 216 [])) [(.t 6), (.t 8)]), none⟩,
   ⟨(some 4), (.mv (.t 9)), none⟩] [])
 .ret)),
 [.tmp 4]⟩

/-- cenotaph/id.Compare -/
def c216 : CF := ⟨
 (.seq
 (.reg false [
   ⟨(some 4), (.mv (.c (.val (.int .i64 0)))), none⟩] [])
 (.seq
 (.reg false [
   ⟨(some 5), (.mv (.t 0)), none⟩,
   ⟨(some 6), (.mv (.t 1)), none⟩,
   ⟨(some 7), (.call (.c (.fn 252 [])) [(.t 5), (.t 6)]), none⟩,
   ⟨(some 4), (.mv (.t 7)), none⟩] [])
 .ret)),
 [.tmp 4]⟩

def L217_0 : CC :=
 (.seq
 (.reg false [
   ⟨(some 8), (.bin .lss 3 false false (.t 7) (.t 6)), none⟩] [])
 (.seq
 (.cond (.t 8)
  .skip
  (.exit 0))
 (.seq
 (.block 1
  (.seq
  (.reg false [
    ⟨(some 9), (.mv (.t 7)), none⟩,
    ⟨(some 10), (.ias 2 (.t 5) (.t 7)), none⟩,
    ⟨(some 11), (.ld 2 true (.t 10)), none⟩,
    ⟨(some 4), (.alloc [(.val (.string ⟨#[]⟩)), (.im [] true)]), none⟩,
    ⟨(some 3), (.mv (.t 9)), none⟩,
    ⟨none, (.st 2 (.t 4) (.t 11)), none⟩] [])
  (.seq
  (.reg true [
    ⟨(some 12), (.fad 0 (.t 4)), none⟩,
    ⟨(some 13), (.ld 1 false (.t 12)), none⟩,
    ⟨(some 14), (.call (.c (.fn 50 [])) [(.t 13)]), none⟩,
    ⟨(some 15), (.un .not (.t 14)), none⟩,
    ⟨(some 16), (.mv (.t 15)), none⟩,
    ⟨(some 17), (.fad 1 (.t 4)), (some (16, false))⟩,
    ⟨(some 18), (.ld 1 false (.t 17)), (some (16, false))⟩,
    ⟨(some 19), (.call (.c (.fn 151 [])) [(.t 18)]), (some (16, false))⟩,
    ⟨(some 20), (.un .not (.t 19)), (some (16, false))⟩,
    ⟨(some 21), (.pick (.t 16) (.c (.val (.bool true))) (.t 20)), none⟩,
    ⟨(some 22), (.mv (.t 21)), none⟩,
    ⟨(some 23), (.fad 1 (.t 4)), (some (22, false))⟩,
    ⟨(some 24), (.ld 1 false (.t 23)), (some (22, false))⟩,
    ⟨(some 25), (.len false (.t 24)), (some (22, false))⟩,
    ⟨(some 26), (.bin .eql 3 false true (.t 25) (.c (.val (.int .i64 0)))), (some (22, false))⟩,
    ⟨(some 27), (.pick (.t 22) (.c (.val (.bool true))) (.t 26)), none⟩,
    ⟨(some 28), (.mv (.t 27)), none⟩,
    ⟨(some 29), (.mv (.t 3)), (some (28, false))⟩,
    ⟨(some 30), (.bin .gtr 3 false true (.t 29) (.c (.val (.int .i64 0)))), (some (28, false))⟩,
    ⟨(some 31), (.mv (.t 30)), (some (28, false))⟩,
    ⟨(some 32), (.mv (.t 0)), (some (31, true))⟩,
    ⟨(some 33), (.mv (.t 3)), (some (31, true))⟩,
    ⟨(some 34), (.bin .sub 3 false true (.t 33) (.c (.val (.int .i64 1)))), (some (31, true))⟩,
    ⟨(some 35), (.ias 2 (.t 32) (.t 34)), (some (31, true))⟩,
    ⟨(some 36), (.ld 2 true (.t 35)), (some (31, true))⟩,
    ⟨(some 37), (.ld 2 true (.t 4)), (some (31, true))⟩,
    ⟨(some 38), (.call (.c (.fn 253 [])) [(.t 36), (.t 37)]), (some (31, true))⟩,
    ⟨(some 39), (.bin .geq 3 false true (.t 38) (.c (.val (.int .i64 0)))), (some (31, true))⟩,
    ⟨(some 40), (.pick (.t 31) (.t 39) (.c (.val (.bool false)))), (some (28, false))⟩,
    ⟨(some 41), (.pick (.t 28) (.c (.val (.bool true))) (.t 40)), none⟩] [])
  (.cond (.t 41)
   (.seq
   (.reg false [
     ⟨(some 2), (.mv (.c (.val (.bool false)))), none⟩] [])
   .ret)
   .skip))))
 (.reg false [
   ⟨(some 42), (.bin .add 3 false true (.t 7) (.c (.val (.int .i64 1)))), none⟩,
   ⟨(some 7), (.mv (.t 42)), none⟩] []))))

/-- cenotaph/matrix.Right -/
def c217 : CF := ⟨
 (.seq
 (.reg false [
   ⟨(some 2), (.mv (.c (.val (.bool false)))), none⟩] [])
 (.seq
 (.seq
 (.reg false [
   ⟨(some 5), (.mv (.t 0)), none⟩,
   ⟨(some 6), (.len false (.t 5)), none⟩,
   ⟨(some 7), (.mv (.c (.val (.int .i64 0)))), none⟩] [])
 (.block 0
  (.loop L217_0)))
 (.seq
 (.reg false [
   ⟨(some 2), (.mv (.c (.val (.bool true)))), none⟩] [])
 .ret))),
 [.tmp 2]⟩

/-- slices.ContainsFunc[cenotaph/matrix.Matrix,cenotaph/matrix.Row] -/
def c218 : CF := ⟨
 (.seq
 (.reg false [
   ⟨(some 4), (.mv (.c (.val (.bool false)))), none⟩] [])
 (.seq
 (.reg false [
   ⟨(some 5), (.mv (.t 0)), none⟩,
   ⟨(some 6), (.mv (.t 1)), none⟩,
   ⟨(some 7), (.call (.c (.fn 254 [])) [(.t 5), (.t 6)]), none⟩,
   ⟨(some 8), (.bin .geq 3 false true (.t 7) (.c (.val (.int .i64 0)))), none⟩,
   ⟨(some 4), (.mv (.t 8)), none⟩] [])
 .ret)),
 [.tmp 4]⟩

/-- cenotaph/frame.rowsRight$1 -/
def c219 : CF := ⟨
 (.seq
 (.reg false [
   ⟨(some 1), (.box (.t 0)), none⟩,
   ⟨(some 2), (.mv (.c (.val (.bool false)))), none⟩] [])
 (.seq
 (.reg false [
   ⟨(some 3), (.fad 1 (.t 1)), none⟩,
   ⟨(some 4), (.ld 1 false (.t 3)), none⟩,
   ⟨(some 5), (.len false (.t 4)), none⟩,
   ⟨(some 6), (.bin .gtr 3 false true (.t 5) (.c (.val (.int .i64 64)))), none⟩,
   ⟨(some 2), (.mv (.t 6)), none⟩] [])
 .ret)),
 [.tmp 2]⟩

/-- slices.ContainsFunc[[]cenotaph/item.Item,cenotaph/item.Item] -/
def c220 : CF := ⟨
 (.seq
 (.reg false [
   ⟨(some 4), (.mv (.c (.val (.bool false)))), none⟩] [])
 (.seq
 (.reg false [
   ⟨(some 5), (.mv (.t 0)), none⟩,
   ⟨(some 6), (.mv (.t 1)), none⟩,
   ⟨(some 7), (.call (.c (.fn 255 [])) [(.t 5), (.t 6)]), none⟩,
   ⟨(some 8), (.bin .geq 3 false true (.t 7) (.c (.val (.int .i64 0)))), none⟩,
   ⟨(some 4), (.mv (.t 8)), none⟩] [])
 .ret)),
 [.tmp 4]⟩

/-- cenotaph/frame.itemsRight$1 -/
def c221 : CF := ⟨
 (.seq
 (.reg false [
   ⟨(some 2), (.box (.t 0)), none⟩,
   ⟨(some 3), (.mv (.c (.val (.bool false)))), none⟩] [])
 (.seq
 (.reg false [
   ⟨(some 4), (.ld 8 true (.t 2)), none⟩,
   ⟨(some 5), (.call (.c (.fn 162 [])) [(.t 4)]), none⟩,
   ⟨(some 6), (.un .not (.t 5)), none⟩,
   ⟨(some 7), (.mv (.t 6)), none⟩,
   ⟨(some 8), (.ld 1 false (.t 1)), (some (7, false))⟩,
   ⟨(some 9), (.bin .eql 3 false true (.t 8) (.c (.val (.int .i64 1)))), (some (7, false))⟩,
   ⟨(some 10), (.mv (.t 9)), (some (7, false))⟩,
   ⟨(some 11), (.fad 4 (.t 2)), (some (10, true))⟩,
   ⟨(some 12), (.ld 1 false (.t 11)), (some (10, true))⟩,
   ⟨(some 13), (.mv (.t 12)), (some (10, true))⟩,
   ⟨(some 14), (.fad 7 (.t 2)), (some (13, false))⟩,
   ⟨(some 15), (.ld 1 false (.t 14)), (some (13, false))⟩,
   ⟨(some 16), (.pick (.t 13) (.c (.val (.bool true))) (.t 15)), (some (10, true))⟩,
   ⟨(some 17), (.pick (.t 10) (.t 16) (.c (.val (.bool false)))), (some (7, false))⟩,
   ⟨(some 18), (.pick (.t 7) (.c (.val (.bool true))) (.t 17)), none⟩,
   ⟨(some 3), (.mv (.t 18)), none⟩] [])
 .ret)),
 [.tmp 3]⟩

/-- cenotaph/zone.wholeTo -/
def c222 : CF := ⟨
 (.seq
 (.reg false [
   ⟨(some 6), (.mv (.c (.val (.bool false)))), none⟩] [])
 (.seq
 (.reg false [
   ⟨(some 7), (.mv (.t 0)), none⟩,
   ⟨(some 8), (.mv (.t 1)), none⟩,
   ⟨(some 9), (.bin .geq 226 false false (.t 7) (.t 8)), none⟩,
   ⟨(some 10), (.mv (.t 9)), none⟩,
   ⟨(some 11), (.mv (.t 0)), (some (10, true))⟩,
   ⟨(some 12), (.mv (.t 2)), (some (10, true))⟩,
   ⟨(some 13), (.bin .leq 226 false false (.t 11) (.t 12)), (some (10, true))⟩,
   ⟨(some 14), (.pick (.t 10) (.t 13) (.c (.val (.bool false)))), none⟩,
   ⟨(some 15), (.mv (.t 14)), none⟩,
   ⟨(some 16), (.mv (.t 0)), (some (15, true))⟩,
   ⟨(some 17), (.mv (.t 0)), (some (15, true))⟩,
   ⟨(some 18), (.call (.c (.fn 256 [])) [(.t 17)]), (some (15, true))⟩,
   ⟨(some 19), (.bin .eql 226 false false (.t 16) (.t 18)), (some (15, true))⟩,
   ⟨(some 20), (.pick (.t 15) (.t 19) (.c (.val (.bool false)))), none⟩,
   ⟨(some 6), (.mv (.t 20)), none⟩] [])
 .ret)),
 [.tmp 6]⟩

/-- cenotaph/vec.order -/
def c223 : CF := ⟨
 (.seq
 (.reg false [
   ⟨(some 2), (.box (.t 0)), none⟩,
   ⟨(some 3), (.box (.t 1)), none⟩,
   ⟨(some 4), (.mv (.c (.val (.int .i64 0)))), none⟩] [])
 (.seq
 (.reg false [
   ⟨(some 5), (.fad 0 (.t 2)), none⟩,
   ⟨(some 6), (.ld 1 false (.t 5)), none⟩,
   ⟨(some 7), (.fad 0 (.t 3)), none⟩,
   ⟨(some 8), (.ld 1 false (.t 7)), none⟩,
   ⟨(some 9), (.call (.c (.fn 216 [])) [(.t 6), (.t 8)]), none⟩,
   ⟨(some 4), (.mv (.t 9)), none⟩] [])
 .ret)),
 [.tmp 4]⟩

/-- cenotaph/cenotaphlaw07.Ver -/
def c224 : CF := ⟨
 (.seq
 (.reg false [
   ⟨(some 1), (.box (.t 0)), none⟩,
   ⟨(some 2), (.alloc [(.val (.string ⟨#[]⟩)), (.val (.int .i64 0)), (.val (.int .i64 0))]), none⟩] [])
 (.seq
 (.reg false [
   ⟨(some 3), (.fad 0 (.t 1)), none⟩,
   ⟨(some 4), (.ld 1 false (.t 3)), none⟩,
   ⟨(some 5), (.fad 1 (.t 1)), none⟩,
   ⟨(some 6), (.ld 1 false (.t 5)), none⟩,
   ⟨(some 7), (.fad 2 (.t 1)), none⟩,
   ⟨(some 8), (.ld 1 false (.t 7)), none⟩,
   ⟨(some 9), (.build [(.val (.string ⟨#[]⟩)), (.val (.int .i64 0)), (.val (.int .i64 0))] [(0, 1, (.t 4)), (1, 1, (.t 6)), (2, 1, (.t 8))]), none⟩,
   ⟨none, (.st 3 (.t 2) (.t 9)), none⟩] [])
 .ret)),
 [.cell 2 3 true]⟩

def L225_0 : CC :=
 (.seq
 (.seq
 (.reg false [
   ⟨(some 22), (.mv (.t 4)), none⟩,
   ⟨(some 23), (.fad 1 (.t 1)), none⟩,
   ⟨(some 24), (.ld 1 false (.t 23)), none⟩,
   ⟨(some 25), (.len false (.t 24)), none⟩,
   ⟨(some 26), (.bin .lss 3 false false (.t 22) (.t 25)), none⟩] [])
 (.cond (.t 26)
  .skip
  (.exit 0)))
 (.seq
 (.block 1
  (.seq
  (.seq
  (.reg true [
    ⟨(some 29), (.fad 1 (.t 1)), none⟩,
    ⟨(some 30), (.ld 1 false (.t 29)), none⟩,
    ⟨(some 31), (.mv (.t 4)), none⟩,
    ⟨(some 32), (.ias 1 (.t 30) (.t 31)), none⟩,
    ⟨(some 33), (.ld 1 false (.t 32)), none⟩,
    ⟨(some 34), (.mv (.t 3)), none⟩,
    ⟨(some 35), (.bin .leq 3 false false (.t 33) (.t 34)), none⟩,
    ⟨(some 36), (.mv (.t 35)), none⟩,
    ⟨(some 37), (.mv (.t 4)), (some (36, true))⟩,
    ⟨(some 38), (.bin .gtr 3 false true (.t 37) (.c (.val (.int .i64 0)))), (some (36, true))⟩,
    ⟨(some 39), (.mv (.t 38)), (some (36, true))⟩,
    ⟨(some 40), (.fad 1 (.t 1)), (some (39, false))⟩,
    ⟨(some 41), (.ld 1 false (.t 40)), (some (39, false))⟩,
    ⟨(some 42), (.mv (.t 4)), (some (39, false))⟩,
    ⟨(some 43), (.ias 1 (.t 41) (.t 42)), (some (39, false))⟩,
    ⟨(some 44), (.ld 1 false (.t 43)), (some (39, false))⟩,
    ⟨(some 45), (.fad 0 (.t 1)), (some (39, false))⟩,
    ⟨(some 46), (.ld 1 false (.t 45)), (some (39, false))⟩,
    ⟨(some 47), (.bin .add 3 false true (.t 46) (.c (.val (.int .i64 1)))), (some (39, false))⟩,
    ⟨(some 48), (.bin .leq 3 false false (.t 44) (.t 47)), (some (39, false))⟩,
    ⟨(some 49), (.pick (.t 39) (.c (.val (.bool true))) (.t 48)), (some (36, true))⟩,
    ⟨(some 50), (.pick (.t 36) (.t 49) (.c (.val (.bool false)))), none⟩,
    ⟨(some 51), (.mv (.t 50)), none⟩,
    ⟨(some 52), (.fad 1 (.t 1)), (some (51, false))⟩,
    ⟨(some 53), (.ld 1 false (.t 52)), (some (51, false))⟩,
    ⟨(some 54), (.mv (.t 4)), (some (51, false))⟩,
    ⟨(some 55), (.ias 1 (.t 53) (.t 54)), (some (51, false))⟩,
    ⟨(some 56), (.ld 1 false (.t 55)), (some (51, false))⟩,
    ⟨(some 57), (.bin .gtr 3 false true (.t 56) (.c (.val (.int .i64 1048576)))), (some (51, false))⟩,
    ⟨(some 58), (.pick (.t 51) (.c (.val (.bool true))) (.t 57)), none⟩] [])
  (.cond (.t 58)
   (.seq
   (.reg false [
     ⟨(some 2), (.mv (.c (.val (.bool false)))), none⟩] [])
   .ret)
   .skip))
  (.reg false [
    ⟨(some 59), (.fad 1 (.t 1)), none⟩,
    ⟨(some 60), (.ld 1 false (.t 59)), none⟩,
    ⟨(some 61), (.mv (.t 4)), none⟩,
    ⟨(some 62), (.ias 1 (.t 60) (.t 61)), none⟩,
    ⟨(some 63), (.ld 1 false (.t 62)), none⟩,
    ⟨(some 3), (.mv (.t 63)), none⟩] [])))
 (.reg false [
   ⟨(some 27), (.mv (.t 4)), none⟩,
   ⟨(some 28), (.bin .add 3 false true (.t 27) (.c (.val (.int .i64 1)))), none⟩,
   ⟨(some 4), (.mv (.t 28)), none⟩] [])))

/-- cenotaph/cenotaphref02.Right -/
def c225 : CF := ⟨
 (.seq
 (.reg false [
   ⟨(some 1), (.box (.t 0)), none⟩,
   ⟨(some 2), (.mv (.c (.val (.bool false)))), none⟩] [])
 (.seq
 (.seq
 (.reg false [
   ⟨(some 5), (.fad 0 (.t 1)), none⟩,
   ⟨(some 6), (.ld 1 false (.t 5)), none⟩,
   ⟨(some 7), (.bin .lss 3 false true (.t 6) (.c (.val (.int .i64 0)))), none⟩,
   ⟨(some 8), (.mv (.t 7)), none⟩,
   ⟨(some 9), (.fad 0 (.t 1)), (some (8, false))⟩,
   ⟨(some 10), (.ld 1 false (.t 9)), (some (8, false))⟩,
   ⟨(some 11), (.bin .gtr 3 false true (.t 10) (.c (.val (.int .i64 1048576)))), (some (8, false))⟩,
   ⟨(some 12), (.pick (.t 8) (.c (.val (.bool true))) (.t 11)), none⟩,
   ⟨(some 13), (.mv (.t 12)), none⟩,
   ⟨(some 14), (.fad 1 (.t 1)), (some (13, false))⟩,
   ⟨(some 15), (.ld 1 false (.t 14)), (some (13, false))⟩,
   ⟨(some 16), (.len false (.t 15)), (some (13, false))⟩,
   ⟨(some 17), (.bin .gtr 3 false true (.t 16) (.c (.val (.int .i64 4096)))), (some (13, false))⟩,
   ⟨(some 18), (.pick (.t 13) (.c (.val (.bool true))) (.t 17)), none⟩] [])
 (.cond (.t 18)
  (.seq
  (.reg false [
    ⟨(some 2), (.mv (.c (.val (.bool false)))), none⟩] [])
  .ret)
  .skip))
 (.seq
 (.reg false [
   ⟨(some 19), (.fad 0 (.t 1)), none⟩,
   ⟨(some 20), (.ld 1 false (.t 19)), none⟩,
   ⟨(some 21), (.bin .add 3 false true (.t 20) (.c (.val (.int .i64 1)))), none⟩,
   ⟨(some 3), (.mv (.t 21)), none⟩] [])
 (.seq
 (.seq
 (.reg false [
   ⟨(some 4), (.mv (.c (.val (.int .i64 0)))), none⟩] [])
 (.block 0
  (.loop L225_0)))
 (.seq
 (.reg false [
   ⟨(some 2), (.mv (.c (.val (.bool true)))), none⟩] [])
 .ret))))),
 [.tmp 2]⟩

/-- cenotaph/cenotaphref02.Count -/
def c226 : CF := ⟨
 (.seq
 (.reg false [
   ⟨(some 1), (.box (.t 0)), none⟩,
   ⟨(some 2), (.mv (.c (.val (.int .i64 0)))), none⟩] [])
 (.seq
 (.reg false [
   ⟨(some 3), (.fad 0 (.t 1)), none⟩,
   ⟨(some 4), (.ld 1 false (.t 3)), none⟩,
   ⟨(some 5), (.fad 1 (.t 1)), none⟩,
   ⟨(some 6), (.ld 1 false (.t 5)), none⟩,
   ⟨(some 7), (.len false (.t 6)), none⟩,
   ⟨(some 8), (.bin .add 3 false false (.t 4) (.t 7)), none⟩,
   ⟨(some 2), (.mv (.t 8)), none⟩] [])
 .ret)),
 [.tmp 2]⟩

/-- (cenotaph/item.Version).right -/
def c227 : CF := ⟨
 (.seq
 (.reg false [
   ⟨(some 1), (.box (.t 0)), none⟩,
   ⟨(some 2), (.mv (.c (.val (.bool false)))), none⟩] [])
 (.seq
 (.reg false [
   ⟨(some 3), (.fad 0 (.t 1)), none⟩,
   ⟨(some 4), (.ld 1 false (.t 3)), none⟩,
   ⟨(some 5), (.call (.c (.fn 50 [])) [(.t 4)]), none⟩,
   ⟨(some 6), (.mv (.t 5)), none⟩,
   ⟨(some 7), (.fad 1 (.t 1)), (some (6, true))⟩,
   ⟨(some 8), (.ld 1 false (.t 7)), (some (6, true))⟩,
   ⟨(some 9), (.bin .geq 3 false true (.t 8) (.c (.val (.int .i64 1)))), (some (6, true))⟩,
   ⟨(some 10), (.pick (.t 6) (.t 9) (.c (.val (.bool false)))), none⟩,
   ⟨(some 11), (.mv (.t 10)), none⟩,
   ⟨(some 12), (.fad 1 (.t 1)), (some (11, true))⟩,
   ⟨(some 13), (.ld 1 false (.t 12)), (some (11, true))⟩,
   ⟨(some 14), (.bin .leq 3 false true (.t 13) (.c (.val (.int .i64 1048576)))), (some (11, true))⟩,
   ⟨(some 15), (.pick (.t 11) (.t 14) (.c (.val (.bool false)))), none⟩,
   ⟨(some 16), (.mv (.t 15)), none⟩,
   ⟨(some 17), (.fad 2 (.t 1)), (some (16, true))⟩,
   ⟨(some 18), (.ld 1 false (.t 17)), (some (16, true))⟩,
   ⟨(some 19), (.bin .geq 3 false true (.t 18) (.c (.val (.int .i64 1)))), (some (16, true))⟩,
   ⟨(some 20), (.pick (.t 16) (.t 19) (.c (.val (.bool false)))), none⟩,
   ⟨(some 21), (.mv (.t 20)), none⟩,
   ⟨(some 22), (.fad 2 (.t 1)), (some (21, true))⟩,
   ⟨(some 23), (.ld 1 false (.t 22)), (some (21, true))⟩,
   ⟨(some 24), (.bin .leq 3 false true (.t 23) (.c (.val (.int .i64 1048576)))), (some (21, true))⟩,
   ⟨(some 25), (.pick (.t 21) (.t 24) (.c (.val (.bool false)))), none⟩,
   ⟨(some 2), (.mv (.t 25)), none⟩] [])
 .ret)),
 [.tmp 2]⟩

/-- (*cenotaph/frame.taker).span$1 -/
def c234 : CF := ⟨
 (.reg true [
   ⟨(some 2), (.fad 1 (.t 0)), none⟩,
   ⟨(some 3), (.ld 1 false (.t 2)), none⟩,
   ⟨(some 4), (.ld 1 false (.t 1)), none⟩,
   ⟨(some 5), (.call (.c (.fn 174 [])) [(.t 4)]), none⟩,
   ⟨(some 6), (.bsl 1 1 [(.val (.int .i64 0))] [(0, 1, (.t 5))]), none⟩,
   ⟨(some 7), (.app 1 (.t 3) (.t 6)), none⟩,
   ⟨(some 8), (.fad 1 (.t 0)), none⟩,
   ⟨none, (.st 1 (.t 8) (.t 7)), none⟩] [(1, 3), (1, 4)]),
 []⟩

def L235_0 : CC :=
 (.seq
 (.reg false [
   ⟨(some 22), (.bin .lss 3 false true (.t 21) (.c (.val (.int .i64 3)))), none⟩] [])
 (.seq
 (.cond (.t 22)
  .skip
  (.exit 0))
 (.seq
 (.block 1
  (.seq
  (.reg false [
    ⟨(some 23), (.mv (.t 21)), none⟩,
    ⟨(some 6), (.mv (.t 23)), none⟩] [])
  (.seq
  (.reg false [
    ⟨(some 25), (.mv (.t 3)), none⟩,
    ⟨(some 26), (.mv (.t 6)), none⟩,
    ⟨(some 27), (.bin .add 3 true false (.c (.val (.int .i64 1))) (.t 26)), none⟩,
    ⟨(some 28), (.ias 1 (.t 25) (.t 27)), none⟩,
    ⟨(some 29), (.ld 1 false (.t 28)), none⟩,
    ⟨(some 30), (.call (.c (.fn 209 [])) [(.t 29)]), none⟩,
    ⟨(some 24), (.mv (.t 30)), none⟩,
    ⟨(some 31), (.ext (.t 24) 0), none⟩,
    ⟨(some 32), (.ext (.t 24) 1), none⟩,
    ⟨(some 7), (.mv (.t 31)), none⟩,
    ⟨(some 8), (.mv (.t 32)), none⟩] [])
  (.seq
  (.seq
  (.reg false [
    ⟨(some 33), (.mv (.t 8)), none⟩,
    ⟨(some 34), (.nilq true true (.t 33) (.c (.val .nilIface))), none⟩] [])
  (.cond (.t 34)
   (.seq
   (.reg false [
     ⟨(some 35), (.build [(.val (.int .i64 0)), (.val (.complex .f64 0 0)), (.val (.float .f64 0))] []), none⟩,
     ⟨none, (.st 3 (.t 2) (.t 35)), none⟩] [])
   .ret)
   .skip))
  (.reg false [
    ⟨(some 36), (.mv (.t 6)), none⟩,
    ⟨(some 37), (.mv (.t 7)), none⟩,
    ⟨(some 38), (.cv 3 226 (.t 37)), none⟩,
    ⟨(some 39), (.iaa 3 1 (.t 5) (.t 36)), none⟩,
    ⟨none, (.st 1 (.t 39) (.t 38)), none⟩] [])))))
 (.reg false [
   ⟨(some 40), (.bin .add 3 false true (.t 21) (.c (.val (.int .i64 1)))), none⟩,
   ⟨(some 21), (.mv (.t 40)), none⟩] []))))

/-- cenotaph/zone.parsed -/
def c235 : CF := ⟨
 (.seq
 (.reg false [
   ⟨(some 2), (.alloc [(.val (.int .i64 0)), (.val (.complex .f64 0 0)), (.val (.float .f64 0))]), none⟩] [])
 (.seq
 (.reg false [
   ⟨(some 9), (.mv (.t 0)), none⟩,
   ⟨(some 10), (.call (.c (.fn 130 [])) [(.t 9), (.c (.val (.string ⟨#[32]⟩)))]), none⟩,
   ⟨(some 3), (.mv (.t 10)), none⟩] [])
 (.seq
 (.reg true [
   ⟨(some 11), (.call (.c (.fn 160 [])) []), none⟩,
   ⟨(some 12), (.mv (.t 3)), none⟩,
   ⟨(some 13), (.ias 1 (.t 12) (.c (.val (.int .i64 0)))), none⟩,
   ⟨(some 14), (.ld 1 false (.t 13)), none⟩,
   ⟨(some 15), (.call (.c (.fn 131 [])) [(.t 11), (.t 14)]), none⟩,
   ⟨(some 16), (.build [(.val (.int .i64 0)), (.val (.complex .f64 0 0)), (.val (.float .f64 0))] [(0, 1, (.t 15))]), none⟩,
   ⟨(some 4), (.alloc [(.val (.int .i64 0)), (.val (.complex .f64 0 0)), (.val (.float .f64 0))]), none⟩,
   ⟨none, (.st 3 (.t 4) (.t 16)), none⟩] [(0, 3), (0, 6), (3, 6), (4, 6)])
 (.seq
 (.seq
 (.reg false [
   ⟨(some 17), (.mv (.t 3)), none⟩,
   ⟨(some 18), (.len false (.t 17)), none⟩,
   ⟨(some 19), (.bin .neq 3 false true (.t 18) (.c (.val (.int .i64 4)))), none⟩] [])
 (.cond (.t 19)
  (.seq
  (.reg false [
    ⟨(some 20), (.ld 3 true (.t 4)), none⟩,
    ⟨none, (.st 3 (.t 2) (.t 20)), none⟩] [])
  .ret)
  .skip))
 (.seq
 (.reg false [
   ⟨(some 5), (.alloc [(.val (.float .f64 0)), (.val (.float .f64 0)), (.val (.float .f64 0))]), none⟩] [])
 (.seq
 (.seq
 (.reg false [
   ⟨(some 21), (.mv (.c (.val (.int .i64 0)))), none⟩] [])
 (.block 0
  (.loop L235_0)))
 (.seq
 (.reg true [
   ⟨(some 41), (.iaa 3 1 (.t 5) (.c (.val (.int .i64 0)))), none⟩,
   ⟨(some 42), (.ld 1 false (.t 41)), none⟩,
   ⟨(some 43), (.iaa 3 1 (.t 5) (.c (.val (.int .i64 1)))), none⟩,
   ⟨(some 44), (.ld 1 false (.t 43)), none⟩,
   ⟨(some 45), (.fun_ .complex #[226, 226] 95 [(.t 42), (.t 44)]), none⟩,
   ⟨(some 46), (.iaa 3 1 (.t 5) (.c (.val (.int .i64 2)))), none⟩,
   ⟨(some 47), (.ld 1 false (.t 46)), none⟩,
   ⟨(some 48), (.fad 1 (.t 4)), none⟩,
   ⟨none, (.st 1 (.t 48) (.t 45)), none⟩,
   ⟨(some 49), (.fad 2 (.t 4)), none⟩,
   ⟨none, (.st 1 (.t 49) (.t 47)), none⟩] [(6, 8)])
 (.seq
 (.reg false [
   ⟨(some 50), (.ld 3 true (.t 4)), none⟩,
   ⟨none, (.st 3 (.t 2) (.t 50)), none⟩] [])
 .ret)))))))),
 [.cell 2 3 true]⟩

/-- cenotaph/item.part -/
def c236 : CF := ⟨
 (.seq
 (.reg false [
   ⟨(some 2), (.mv (.c (.val (.float .f64 0)))), none⟩] [])
 (.seq
 (.reg false [
   ⟨(some 3), (.mv (.t 0)), none⟩,
   ⟨(some 4), (.call (.c (.fn 87 [])) [(.t 3), (.c (.val (.int .i64 2000)))]), none⟩,
   ⟨(some 5), (.bin .sub 3 false true (.t 4) (.c (.val (.int .i64 1000)))), none⟩,
   ⟨(some 6), (.cv 3 226 (.t 5)), none⟩,
   ⟨(some 2), (.mv (.t 6)), none⟩] [])
 .ret)),
 [.tmp 2]⟩

def L237_0 : CC :=
 (.seq
 (.reg false [
   ⟨(some 14), (.bin .lss 3 false false (.t 13) (.t 12)), none⟩] [])
 (.seq
 (.cond (.t 14)
  .skip
  (.exit 0))
 (.seq
 (.block 1
  (.seq
  (.reg false [
    ⟨(some 15), (.mv (.t 13)), none⟩,
    ⟨(some 5), (.mv (.t 15)), none⟩] [])
  (.seq
  (.reg true [
    ⟨(some 16), (.mv (.t 0)), none⟩,
    ⟨(some 17), (.mv (.t 5)), none⟩,
    ⟨(some 18), (.ias 1 (.t 16) (.t 17)), none⟩,
    ⟨(some 19), (.ld 1 false (.t 18)), none⟩,
    ⟨(some 20), (.mv (.t 1)), none⟩,
    ⟨(some 21), (.mv (.t 5)), none⟩,
    ⟨(some 22), (.ias 1 (.t 20) (.t 21)), none⟩,
    ⟨(some 23), (.ld 1 false (.t 22)), none⟩,
    ⟨(some 24), (.bin .neq 3 false false (.t 19) (.t 23)), none⟩] [])
  (.cond (.t 24)
   (.seq
   (.reg false [
     ⟨(some 4), (.mv (.c (.val (.bool false)))), none⟩] [])
   .ret)
   .skip))))
 (.reg false [
   ⟨(some 25), (.bin .add 3 false true (.t 13) (.c (.val (.int .i64 1)))), none⟩,
   ⟨(some 13), (.mv (.t 25)), none⟩] []))))

/-- slices.Equal[[]int,int] -/
def c237 : CF := ⟨
 (.seq
 (.reg false [
   ⟨(some 4), (.mv (.c (.val (.bool false)))), none⟩] [])
 (.seq
 (.seq
 (.reg false [
   ⟨(some 6), (.mv (.t 0)), none⟩,
   ⟨(some 7), (.len false (.t 6)), none⟩,
   ⟨(some 8), (.mv (.t 1)), none⟩,
   ⟨(some 9), (.len false (.t 8)), none⟩,
   ⟨(some 10), (.bin .neq 3 false false (.t 7) (.t 9)), none⟩] [])
 (.cond (.t 10)
  (.seq
  (.reg false [
    ⟨(some 4), (.mv (.c (.val (.bool false)))), none⟩] [])
  .ret)
  .skip))
 (.seq
 (.seq
 (.reg false [
   ⟨(some 11), (.mv (.t 0)), none⟩,
   ⟨(some 12), (.len false (.t 11)), none⟩,
   ⟨(some 13), (.mv (.c (.val (.int .i64 0)))), none⟩] [])
 (.block 0
  (.loop L237_0)))
 (.seq
 (.reg false [
   ⟨(some 4), (.mv (.c (.val (.bool true)))), none⟩] [])
 .ret)))),
 [.tmp 4]⟩

/-- cenotaph/matrix.order -/
def c253 : CF := ⟨
 (.seq
 (.reg false [
   ⟨(some 2), (.box (.t 0)), none⟩,
   ⟨(some 3), (.box (.t 1)), none⟩,
   ⟨(some 4), (.mv (.c (.val (.int .i64 0)))), none⟩] [])
 (.seq
 (.reg false [
   ⟨(some 5), (.fad 0 (.t 2)), none⟩,
   ⟨(some 6), (.ld 1 false (.t 5)), none⟩,
   ⟨(some 7), (.fad 0 (.t 3)), none⟩,
   ⟨(some 8), (.ld 1 false (.t 7)), none⟩,
   ⟨(some 9), (.call (.c (.fn 216 [])) [(.t 6), (.t 8)]), none⟩,
   ⟨(some 4), (.mv (.t 9)), none⟩] [])
 .ret)),
 [.tmp 4]⟩

def L254_0 : CC :=
 (.seq
 (.reg false [
   ⟨(some 9), (.bin .lss 3 false false (.t 8) (.t 7)), none⟩] [])
 (.seq
 (.cond (.t 9)
  .skip
  (.exit 0))
 (.seq
 (.block 1
  (.seq
  (.reg false [
    ⟨(some 10), (.mv (.t 8)), none⟩,
    ⟨(some 5), (.mv (.t 10)), none⟩] [])
  (.seq
  (.reg false [
    ⟨(some 11), (.mv (.t 1)), none⟩,
    ⟨(some 12), (.mv (.t 0)), none⟩,
    ⟨(some 13), (.mv (.t 5)), none⟩,
    ⟨(some 14), (.ias 2 (.t 12) (.t 13)), none⟩,
    ⟨(some 15), (.ld 2 true (.t 14)), none⟩,
    ⟨(some 16), (.call (.t 11) [(.t 15)]), none⟩] [])
  (.cond (.t 16)
   (.seq
   (.reg false [
     ⟨(some 17), (.mv (.t 5)), none⟩,
     ⟨(some 4), (.mv (.t 17)), none⟩] [])
   .ret)
   .skip))))
 (.reg false [
   ⟨(some 18), (.bin .add 3 false true (.t 8) (.c (.val (.int .i64 1)))), none⟩,
   ⟨(some 8), (.mv (.t 18)), none⟩] []))))

/-- slices.IndexFunc[cenotaph/matrix.Matrix,cenotaph/matrix.Row] -/
def c254 : CF := ⟨
 (.seq
 (.reg false [
   ⟨(some 4), (.mv (.c (.val (.int .i64 0)))), none⟩] [])
 (.seq
 (.seq
 (.reg false [
   ⟨(some 6), (.mv (.t 0)), none⟩,
   ⟨(some 7), (.len false (.t 6)), none⟩,
   ⟨(some 8), (.mv (.c (.val (.int .i64 0)))), none⟩] [])
 (.block 0
  (.loop L254_0)))
 (.seq
 (.reg false [
   ⟨(some 4), (.mv (.c (.val (.int .i64 (-1))))), none⟩] [])
 .ret))),
 [.tmp 4]⟩

def L255_0 : CC :=
 (.seq
 (.reg false [
   ⟨(some 9), (.bin .lss 3 false false (.t 8) (.t 7)), none⟩] [])
 (.seq
 (.cond (.t 9)
  .skip
  (.exit 0))
 (.seq
 (.block 1
  (.seq
  (.reg false [
    ⟨(some 10), (.mv (.t 8)), none⟩,
    ⟨(some 5), (.mv (.t 10)), none⟩] [])
  (.seq
  (.reg false [
    ⟨(some 11), (.mv (.t 1)), none⟩,
    ⟨(some 12), (.mv (.t 0)), none⟩,
    ⟨(some 13), (.mv (.t 5)), none⟩,
    ⟨(some 14), (.ias 8 (.t 12) (.t 13)), none⟩,
    ⟨(some 15), (.ld 8 true (.t 14)), none⟩,
    ⟨(some 16), (.call (.t 11) [(.t 15)]), none⟩] [])
  (.cond (.t 16)
   (.seq
   (.reg false [
     ⟨(some 17), (.mv (.t 5)), none⟩,
     ⟨(some 4), (.mv (.t 17)), none⟩] [])
   .ret)
   .skip))))
 (.reg false [
   ⟨(some 18), (.bin .add 3 false true (.t 8) (.c (.val (.int .i64 1)))), none⟩,
   ⟨(some 8), (.mv (.t 18)), none⟩] []))))

/-- slices.IndexFunc[[]cenotaph/item.Item,cenotaph/item.Item] -/
def c255 : CF := ⟨
 (.seq
 (.reg false [
   ⟨(some 4), (.mv (.c (.val (.int .i64 0)))), none⟩] [])
 (.seq
 (.seq
 (.reg false [
   ⟨(some 6), (.mv (.t 0)), none⟩,
   ⟨(some 7), (.len false (.t 6)), none⟩,
   ⟨(some 8), (.mv (.c (.val (.int .i64 0)))), none⟩] [])
 (.block 0
  (.loop L255_0)))
 (.seq
 (.reg false [
   ⟨(some 4), (.mv (.c (.val (.int .i64 (-1))))), none⟩] [])
 .ret))),
 [.tmp 4]⟩

/-- math.Trunc -/
def c256 : CF := ⟨
 (.seq
 (.reg false [
   ⟨(some 2), (.mv (.c (.val (.float .f64 0)))), none⟩] [])
 (.seq
 (.cond (.c (.val (.bool true)))
  (.seq
  (.reg false [
    ⟨(some 3), (.mv (.t 0)), none⟩,
    ⟨(some 4), (.call (.c (.fn 278 [])) [(.t 3)]), none⟩,
    ⟨(some 2), (.mv (.t 4)), none⟩] [])
  .ret)
  .skip)
 (.seq
 (.reg false [
   ⟨(some 5), (.mv (.t 0)), none⟩,
   ⟨(some 6), (.call (.c (.fn 279 [])) [(.t 5)]), none⟩,
   ⟨(some 2), (.mv (.t 6)), none⟩] [])
 .ret))),
 [.tmp 2]⟩

def tab (f : FuncId) : Option CF :=
 (cond (Nat.blt f 148)
  (cond (Nat.blt f 69)
   (cond (Nat.blt f 54)
    (cond (Nat.blt f 19)
     (cond (Nat.blt f 15)
      (cond (Nat.blt f 13)
       (cond (Nat.beq f 3) (some c3) none)
       (cond (Nat.blt f 14)
        (cond (Nat.beq f 13) (some c13) none)
        (cond (Nat.beq f 14) (some c14) none)))
      (cond (Nat.blt f 17)
       (cond (Nat.blt f 16)
        (cond (Nat.beq f 15) (some c15) none)
        (cond (Nat.beq f 16) (some c16) none))
       (cond (Nat.blt f 18)
        (cond (Nat.beq f 17) (some c17) none)
        (cond (Nat.beq f 18) (some c18) none))))
     (cond (Nat.blt f 50)
      (cond (Nat.blt f 22)
       (cond (Nat.blt f 20)
        (cond (Nat.beq f 19) (some c19) none)
        (cond (Nat.beq f 20) (some c20) none))
       (cond (Nat.blt f 23)
        (cond (Nat.beq f 22) (some c22) none)
        (cond (Nat.beq f 23) (some c23) none)))
      (cond (Nat.blt f 52)
       (cond (Nat.blt f 51)
        (cond (Nat.beq f 50) (some c50) none)
        (cond (Nat.beq f 51) (some c51) none))
       (cond (Nat.blt f 53)
        (cond (Nat.beq f 52) (some c52) none)
        (cond (Nat.beq f 53) (some c53) none)))))
    (cond (Nat.blt f 61)
     (cond (Nat.blt f 57)
      (cond (Nat.blt f 55)
       (cond (Nat.beq f 54) (some c54) none)
       (cond (Nat.blt f 56)
        (cond (Nat.beq f 55) (some c55) none)
        (cond (Nat.beq f 56) (some c56) none)))
      (cond (Nat.blt f 59)
       (cond (Nat.blt f 58)
        (cond (Nat.beq f 57) (some c57) none)
        (cond (Nat.beq f 58) (some c58) none))
       (cond (Nat.blt f 60)
        (cond (Nat.beq f 59) (some c59) none)
        (cond (Nat.beq f 60) (some c60) none))))
     (cond (Nat.blt f 65)
      (cond (Nat.blt f 63)
       (cond (Nat.blt f 62)
        (cond (Nat.beq f 61) (some c61) none)
        (cond (Nat.beq f 62) (some c62) none))
       (cond (Nat.blt f 64)
        (cond (Nat.beq f 63) (some c63) none)
        (cond (Nat.beq f 64) (some c64) none)))
      (cond (Nat.blt f 67)
       (cond (Nat.blt f 66)
        (cond (Nat.beq f 65) (some c65) none)
        (cond (Nat.beq f 66) (some c66) none))
       (cond (Nat.blt f 68)
        (cond (Nat.beq f 67) (some c67) none)
        (cond (Nat.beq f 68) (some c68) none))))))
   (cond (Nat.blt f 92)
    (cond (Nat.blt f 76)
     (cond (Nat.blt f 72)
      (cond (Nat.blt f 70)
       (cond (Nat.beq f 69) (some c69) none)
       (cond (Nat.blt f 71)
        (cond (Nat.beq f 70) (some c70) none)
        (cond (Nat.beq f 71) (some c71) none)))
      (cond (Nat.blt f 74)
       (cond (Nat.blt f 73)
        (cond (Nat.beq f 72) (some c72) none)
        (cond (Nat.beq f 73) (some c73) none))
       (cond (Nat.blt f 75)
        (cond (Nat.beq f 74) (some c74) none)
        (cond (Nat.beq f 75) (some c75) none))))
     (cond (Nat.blt f 88)
      (cond (Nat.blt f 86)
       (cond (Nat.blt f 77)
        (cond (Nat.beq f 76) (some c76) none)
        (cond (Nat.beq f 77) (some c77) none))
       (cond (Nat.blt f 87)
        (cond (Nat.beq f 86) (some c86) none)
        (cond (Nat.beq f 87) (some c87) none)))
      (cond (Nat.blt f 90)
       (cond (Nat.blt f 89)
        (cond (Nat.beq f 88) (some c88) none)
        (cond (Nat.beq f 89) (some c89) none))
       (cond (Nat.blt f 91)
        (cond (Nat.beq f 90) (some c90) none)
        (cond (Nat.beq f 91) (some c91) none)))))
    (cond (Nat.blt f 129)
     (cond (Nat.blt f 95)
      (cond (Nat.blt f 93)
       (cond (Nat.beq f 92) (some c92) none)
       (cond (Nat.blt f 94)
        (cond (Nat.beq f 93) (some c93) none)
        (cond (Nat.beq f 94) (some c94) none)))
      (cond (Nat.blt f 97)
       (cond (Nat.blt f 96)
        (cond (Nat.beq f 95) (some c95) none)
        (cond (Nat.beq f 96) (some c96) none))
       (cond (Nat.blt f 98)
        (cond (Nat.beq f 97) (some c97) none)
        (cond (Nat.beq f 98) (some c98) none))))
     (cond (Nat.blt f 144)
      (cond (Nat.blt f 135)
       (cond (Nat.blt f 131)
        (cond (Nat.beq f 129) (some c129) none)
        (cond (Nat.beq f 131) (some c131) none))
       (cond (Nat.blt f 136)
        (cond (Nat.beq f 135) (some c135) none)
        (cond (Nat.beq f 136) (some c136) none)))
      (cond (Nat.blt f 146)
       (cond (Nat.blt f 145)
        (cond (Nat.beq f 144) (some c144) none)
        (cond (Nat.beq f 145) (some c145) none))
       (cond (Nat.blt f 147)
        (cond (Nat.beq f 146) (some c146) none)
        (cond (Nat.beq f 147) (some c147) none)))))))
  (cond (Nat.blt f 184)
   (cond (Nat.blt f 163)
    (cond (Nat.blt f 155)
     (cond (Nat.blt f 151)
      (cond (Nat.blt f 149)
       (cond (Nat.beq f 148) (some c148) none)
       (cond (Nat.blt f 150)
        (cond (Nat.beq f 149) (some c149) none)
        (cond (Nat.beq f 150) (some c150) none)))
      (cond (Nat.blt f 153)
       (cond (Nat.blt f 152)
        (cond (Nat.beq f 151) (some c151) none)
        (cond (Nat.beq f 152) (some c152) none))
       (cond (Nat.blt f 154)
        (cond (Nat.beq f 153) (some c153) none)
        (cond (Nat.beq f 154) (some c154) none))))
     (cond (Nat.blt f 159)
      (cond (Nat.blt f 157)
       (cond (Nat.blt f 156)
        (cond (Nat.beq f 155) (some c155) none)
        (cond (Nat.beq f 156) (some c156) none))
       (cond (Nat.blt f 158)
        (cond (Nat.beq f 157) (some c157) none)
        (cond (Nat.beq f 158) (some c158) none)))
      (cond (Nat.blt f 161)
       (cond (Nat.blt f 160)
        (cond (Nat.beq f 159) (some c159) none)
        (cond (Nat.beq f 160) (some c160) none))
       (cond (Nat.blt f 162)
        (cond (Nat.beq f 161) (some c161) none)
        (cond (Nat.beq f 162) (some c162) none)))))
    (cond (Nat.blt f 176)
     (cond (Nat.blt f 172)
      (cond (Nat.blt f 170)
       (cond (Nat.beq f 163) (some c163) none)
       (cond (Nat.blt f 171)
        (cond (Nat.beq f 170) (some c170) none)
        (cond (Nat.beq f 171) (some c171) none)))
      (cond (Nat.blt f 174)
       (cond (Nat.blt f 173)
        (cond (Nat.beq f 172) (some c172) none)
        (cond (Nat.beq f 173) (some c173) none))
       (cond (Nat.blt f 175)
        (cond (Nat.beq f 174) (some c174) none)
        (cond (Nat.beq f 175) (some c175) none))))
     (cond (Nat.blt f 180)
      (cond (Nat.blt f 178)
       (cond (Nat.blt f 177)
        (cond (Nat.beq f 176) (some c176) none)
        (cond (Nat.beq f 177) (some c177) none))
       (cond (Nat.blt f 179)
        (cond (Nat.beq f 178) (some c178) none)
        (cond (Nat.beq f 179) (some c179) none)))
      (cond (Nat.blt f 182)
       (cond (Nat.blt f 181)
        (cond (Nat.beq f 180) (some c180) none)
        (cond (Nat.beq f 181) (some c181) none))
       (cond (Nat.blt f 183)
        (cond (Nat.beq f 182) (some c182) none)
        (cond (Nat.beq f 183) (some c183) none))))))
   (cond (Nat.blt f 220)
    (cond (Nat.blt f 212)
     (cond (Nat.blt f 187)
      (cond (Nat.blt f 185)
       (cond (Nat.beq f 184) (some c184) none)
       (cond (Nat.blt f 186)
        (cond (Nat.beq f 185) (some c185) none)
        (cond (Nat.beq f 186) (some c186) none)))
      (cond (Nat.blt f 189)
       (cond (Nat.blt f 188)
        (cond (Nat.beq f 187) (some c187) none)
        (cond (Nat.beq f 188) (some c188) none))
       (cond (Nat.blt f 202)
        (cond (Nat.beq f 189) (some c189) none)
        (cond (Nat.beq f 202) (some c202) none))))
     (cond (Nat.blt f 216)
      (cond (Nat.blt f 214)
       (cond (Nat.blt f 213)
        (cond (Nat.beq f 212) (some c212) none)
        (cond (Nat.beq f 213) (some c213) none))
       (cond (Nat.blt f 215)
        (cond (Nat.beq f 214) (some c214) none)
        (cond (Nat.beq f 215) (some c215) none)))
      (cond (Nat.blt f 218)
       (cond (Nat.blt f 217)
        (cond (Nat.beq f 216) (some c216) none)
        (cond (Nat.beq f 217) (some c217) none))
       (cond (Nat.blt f 219)
        (cond (Nat.beq f 218) (some c218) none)
        (cond (Nat.beq f 219) (some c219) none)))))
    (cond (Nat.blt f 234)
     (cond (Nat.blt f 224)
      (cond (Nat.blt f 222)
       (cond (Nat.blt f 221)
        (cond (Nat.beq f 220) (some c220) none)
        (cond (Nat.beq f 221) (some c221) none))
       (cond (Nat.blt f 223)
        (cond (Nat.beq f 222) (some c222) none)
        (cond (Nat.beq f 223) (some c223) none)))
      (cond (Nat.blt f 226)
       (cond (Nat.blt f 225)
        (cond (Nat.beq f 224) (some c224) none)
        (cond (Nat.beq f 225) (some c225) none))
       (cond (Nat.blt f 227)
        (cond (Nat.beq f 226) (some c226) none)
        (cond (Nat.beq f 227) (some c227) none))))
     (cond (Nat.blt f 253)
      (cond (Nat.blt f 236)
       (cond (Nat.blt f 235)
        (cond (Nat.beq f 234) (some c234) none)
        (cond (Nat.beq f 235) (some c235) none))
       (cond (Nat.blt f 237)
        (cond (Nat.beq f 236) (some c236) none)
        (cond (Nat.beq f 237) (some c237) none)))
      (cond (Nat.blt f 255)
       (cond (Nat.blt f 254)
        (cond (Nat.beq f 253) (some c253) none)
        (cond (Nat.beq f 254) (some c254) none))
       (cond (Nat.blt f 256)
        (cond (Nat.beq f 255) (some c255) none)
        (cond (Nat.beq f 256) (some c256) none))))))))

end Go.Evl.Zone
