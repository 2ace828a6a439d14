/- The evaluator's texts ZTab to ZF7, joined. -/
import Derived.Test.YtabelkgkonmihaaDoorEv2
import Derived.Lib.AtoiAll
import Derived.Laws.BitsLemmas
set_option linter.all false
set_option linter.deprecated false
set_option linter.unusedVariables false
set_option linter.unusedSimpArgs false
set_option linter.unnecessarySimpa false
/- The zone statements' functions in the compact form, printed by a program (wip/ev/Gen.lean) from the seat's translation. -/
namespace Go.Evl.Zone
open Go Go.Evl

/-- cenotaph/cenotaphlaw05.ZoneHas -/
def c3 : CF := ⟨
 (.seq
 (.reg false [
   ⟨(some 4), (.box (.t 1)), none⟩,
   ⟨(some 6), (.mv (.c (.val (.bool false)))), none⟩] [])
 (.seq
 (.reg false [
   ⟨(some 8), (.mv (.t 0)), none⟩,
   ⟨(some 9), (.call (.c (.fn 10 [])) [(.t 8)]), none⟩,
   ⟨(some 0), (.mv (.t 9)), none⟩] [])
 (.seq
 (.seq
 (.reg false [
   ⟨(some 10), (.mv (.t 2)), none⟩,
   ⟨(some 11), (.un .not (.t 10)), none⟩] [])
 (.cond (.t 11)
  (.reg false [
    ⟨(some 12), (.ld 2 true (.t 4)), none⟩,
    ⟨(some 13), (.call (.c (.fn 11 [])) [(.t 12)]), none⟩,
    ⟨none, (.st 2 (.t 4) (.t 13)), none⟩] [])
  .skip))
 (.seq
 (.seq
 (.reg false [
   ⟨(some 14), (.fad 0 (.t 4)), none⟩,
   ⟨(some 15), (.ld 1 false (.t 14)), none⟩,
   ⟨(some 16), (.bin .gtr 3 false true (.t 15) (.c (.val (.int .i64 1099511627776)))), none⟩,
   ⟨(some 17), (.mv (.t 16)), none⟩,
   ⟨(some 18), (.fad 0 (.t 4)), (some (17, false))⟩,
   ⟨(some 19), (.ld 1 false (.t 18)), (some (17, false))⟩,
   ⟨(some 20), (.bin .lss 3 false true (.t 19) (.c (.val (.int .i64 (-1099511627776))))), (some (17, false))⟩,
   ⟨(some 21), (.pick (.t 17) (.c (.val (.bool true))) (.t 20)), none⟩,
   ⟨(some 22), (.mv (.t 21)), none⟩,
   ⟨(some 23), (.fad 1 (.t 4)), (some (22, false))⟩,
   ⟨(some 24), (.ld 1 false (.t 23)), (some (22, false))⟩,
   ⟨(some 25), (.bin .gtr 3 false true (.t 24) (.c (.val (.int .i64 1099511627776)))), (some (22, false))⟩,
   ⟨(some 26), (.pick (.t 22) (.c (.val (.bool true))) (.t 25)), none⟩,
   ⟨(some 27), (.mv (.t 26)), none⟩,
   ⟨(some 28), (.fad 1 (.t 4)), (some (27, false))⟩,
   ⟨(some 29), (.ld 1 false (.t 28)), (some (27, false))⟩,
   ⟨(some 30), (.bin .lss 3 false true (.t 29) (.c (.val (.int .i64 (-1099511627776))))), (some (27, false))⟩,
   ⟨(some 31), (.pick (.t 27) (.c (.val (.bool true))) (.t 30)), none⟩] [])
 (.cond (.t 31)
  (.seq
  (.reg false [
    ⟨(some 32), (.call (.c (.fn 12 [])) []), none⟩,
    ⟨(some 6), (.mv (.t 32)), none⟩] [])
  .ret)
  .skip))
 (.seq
 (.reg false [
   ⟨(some 33), (.mv (.t 0)), none⟩,
   ⟨(some 34), (.call (.c (.fn 13 [])) [(.t 33)]), none⟩,
   ⟨(some 7), (.mv (.t 34)), none⟩] [])
 (.seq
 (.reg true [
   ⟨(some 35), (.call (.c (.fn 12 [])) []), none⟩,
   ⟨(some 36), (.mv (.t 35)), none⟩,
   ⟨(some 37), (.mv (.t 7)), (some (36, true))⟩,
   ⟨(some 38), (.call (.c (.fn 14 [])) [(.t 37)]), (some (36, true))⟩,
   ⟨(some 39), (.pick (.t 36) (.t 38) (.c (.val (.bool false)))), none⟩,
   ⟨(some 40), (.mv (.t 39)), none⟩,
   ⟨(some 41), (.mv (.t 7)), (some (40, true))⟩,
   ⟨(some 42), (.ld 2 true (.t 4)), (some (40, true))⟩,
   ⟨(some 43), (.call (.c (.fn 16 [])) [(.t 42)]), (some (40, true))⟩,
   ⟨(some 44), (.call (.c (.fn 15 [])) [(.t 41), (.t 43)]), (some (40, true))⟩,
   ⟨(some 45), (.mv (.t 0)), (some (40, true))⟩,
   ⟨(some 46), (.ld 2 true (.t 4)), (some (40, true))⟩,
   ⟨(some 47), (.call (.c (.fn 17 [])) [(.t 45), (.t 46)]), (some (40, true))⟩,
   ⟨(some 48), (.bin .eql 4 false false (.t 44) (.t 47)), (some (40, true))⟩,
   ⟨(some 49), (.pick (.t 40) (.t 48) (.c (.val (.bool false)))), none⟩,
   ⟨(some 50), (.mv (.t 49)), none⟩,
   ⟨(some 51), (.ld 2 true (.t 4)), (some (50, true))⟩,
   ⟨(some 52), (.call (.c (.fn 16 [])) [(.t 51)]), (some (50, true))⟩,
   ⟨(some 53), (.call (.c (.fn 18 [])) [(.t 52)]), (some (50, true))⟩,
   ⟨(some 54), (.ld 2 true (.t 4)), (some (50, true))⟩,
   ⟨(some 55), (.call (.c (.fn 19 [])) [(.t 54)]), (some (50, true))⟩,
   ⟨(some 56), (.bin .eql 4 false false (.t 53) (.t 55)), (some (50, true))⟩,
   ⟨(some 57), (.pick (.t 50) (.t 56) (.c (.val (.bool false)))), none⟩,
   ⟨(some 58), (.mv (.t 57)), none⟩,
   ⟨(some 59), (.mv (.t 7)), (some (58, true))⟩,
   ⟨(some 60), (.call (.c (.fn 21 [])) [(.t 59)]), (some (58, true))⟩,
   ⟨(some 61), (.mv (.t 0)), (some (58, true))⟩,
   ⟨(some 62), (.call (.c (.fn 20 [])) [(.t 60), (.t 61)]), (some (58, true))⟩,
   ⟨(some 63), (.pick (.t 58) (.t 62) (.c (.val (.bool false)))), none⟩,
   ⟨(some 6), (.mv (.t 63)), none⟩] [(8, 11), (9, 11), (17, 19), (18, 19)])
 .ret)))))),
 [.tmp 6]⟩

/-- cenotaph/cenotaphlaw05.ZoneParts -/
def c4 : CF := ⟨
 (.seq
 (.reg false [
   ⟨(some 6), (.mv (.c (.val (.bool false)))), none⟩] [])
 (.seq
 (.reg false [
   ⟨(some 9), (.mv (.t 0)), none⟩,
   ⟨(some 10), (.bin .geq 41 false true (.t 9) (.c (.val (.float .f64 13875379345695965184)))), none⟩,
   ⟨(some 11), (.mv (.t 10)), none⟩,
   ⟨(some 12), (.mv (.t 0)), (some (11, true))⟩,
   ⟨(some 13), (.bin .leq 41 false true (.t 12) (.c (.val (.float .f64 4652007308841189376)))), (some (11, true))⟩,
   ⟨(some 14), (.pick (.t 11) (.t 13) (.c (.val (.bool false)))), none⟩,
   ⟨(some 15), (.mv (.t 14)), none⟩,
   ⟨(some 16), (.mv (.t 1)), (some (15, true))⟩,
   ⟨(some 17), (.bin .geq 41 false true (.t 16) (.c (.val (.float .f64 13875379345695965184)))), (some (15, true))⟩,
   ⟨(some 18), (.pick (.t 15) (.t 17) (.c (.val (.bool false)))), none⟩,
   ⟨(some 19), (.mv (.t 18)), none⟩,
   ⟨(some 20), (.mv (.t 1)), (some (19, true))⟩,
   ⟨(some 21), (.bin .leq 41 false true (.t 20) (.c (.val (.float .f64 4652007308841189376)))), (some (19, true))⟩,
   ⟨(some 22), (.pick (.t 19) (.t 21) (.c (.val (.bool false)))), none⟩,
   ⟨(some 23), (.mv (.t 22)), none⟩,
   ⟨(some 24), (.mv (.t 0)), (some (23, true))⟩,
   ⟨(some 25), (.mv (.t 0)), (some (23, true))⟩,
   ⟨(some 26), (.cv 41 3 (.t 25)), (some (23, true))⟩,
   ⟨(some 27), (.cv 3 41 (.t 26)), (some (23, true))⟩,
   ⟨(some 28), (.bin .eql 41 false false (.t 24) (.t 27)), (some (23, true))⟩,
   ⟨(some 29), (.pick (.t 23) (.t 28) (.c (.val (.bool false)))), none⟩,
   ⟨(some 30), (.mv (.t 29)), none⟩,
   ⟨(some 31), (.mv (.t 1)), (some (30, true))⟩,
   ⟨(some 32), (.mv (.t 1)), (some (30, true))⟩,
   ⟨(some 33), (.cv 41 3 (.t 32)), (some (30, true))⟩,
   ⟨(some 34), (.cv 3 41 (.t 33)), (some (30, true))⟩,
   ⟨(some 35), (.bin .eql 41 false false (.t 31) (.t 34)), (some (30, true))⟩,
   ⟨(some 36), (.pick (.t 30) (.t 35) (.c (.val (.bool false)))), none⟩,
   ⟨(some 7), (.mv (.t 36)), none⟩] [])
 (.seq
 (.reg false [
   ⟨(some 37), (.mv (.t 0)), none⟩,
   ⟨(some 38), (.mv (.t 1)), none⟩,
   ⟨(some 39), (.fun_ .complex #[41, 41] 33 [(.t 37), (.t 38)]), none⟩,
   ⟨(some 8), (.mv (.t 39)), none⟩] [])
 (.seq
 (.reg false [
   ⟨(some 40), (.call (.c (.fn 12 [])) []), none⟩,
   ⟨(some 41), (.mv (.t 40)), none⟩,
   ⟨(some 42), (.mv (.t 8)), (some (41, true))⟩,
   ⟨(some 43), (.call (.c (.fn 18 [])) [(.t 42)]), (some (41, true))⟩,
   ⟨(some 44), (.mv (.t 7)), (some (41, true))⟩,
   ⟨(some 45), (.bin .eql 4 false false (.t 43) (.t 44)), (some (41, true))⟩,
   ⟨(some 46), (.pick (.t 41) (.t 45) (.c (.val (.bool false)))), none⟩,
   ⟨(some 47), (.mv (.t 46)), none⟩,
   ⟨(some 48), (.mv (.t 7)), (some (47, true))⟩,
   ⟨(some 49), (.mv (.t 48)), (some (47, true))⟩,
   ⟨(some 50), (.mv (.t 2)), (some (49, false))⟩,
   ⟨(some 51), (.call (.c (.fn 10 [])) [(.t 50)]), (some (49, false))⟩,
   ⟨(some 52), (.call (.c (.fn 13 [])) [(.t 51)]), (some (49, false))⟩,
   ⟨(some 53), (.mv (.t 8)), (some (49, false))⟩,
   ⟨(some 54), (.call (.c (.fn 15 [])) [(.t 52), (.t 53)]), (some (49, false))⟩,
   ⟨(some 55), (.un .not (.t 54)), (some (49, false))⟩,
   ⟨(some 56), (.pick (.t 49) (.c (.val (.bool true))) (.t 55)), (some (47, true))⟩,
   ⟨(some 57), (.pick (.t 47) (.t 56) (.c (.val (.bool false)))), none⟩,
   ⟨(some 58), (.mv (.t 57)), none⟩,
   ⟨(some 59), (.mv (.t 7)), (some (58, true))⟩,
   ⟨(some 60), (.un .not (.t 59)), (some (58, true))⟩,
   ⟨(some 61), (.mv (.t 60)), (some (58, true))⟩,
   ⟨(some 62), (.call (.c (.fn 22 [])) []), (some (61, false))⟩,
   ⟨(some 63), (.mv (.t 8)), (some (61, false))⟩,
   ⟨(some 64), (.call (.c (.fn 15 [])) [(.t 62), (.t 63)]), (some (61, false))⟩,
   ⟨(some 65), (.pick (.t 61) (.c (.val (.bool true))) (.t 64)), (some (58, true))⟩,
   ⟨(some 66), (.pick (.t 58) (.t 65) (.c (.val (.bool false)))), none⟩,
   ⟨(some 6), (.mv (.t 66)), none⟩] [])
 .ret)))),
 [.tmp 6]⟩

/-- cenotaph/cenotaphlaw05.ZoneTexts -/
def c5 : CF := ⟨
 (.seq
 (.reg false [
   ⟨(some 2), (.mv (.c (.val (.bool false)))), none⟩] [])
 (.seq
 (.seq
 (.reg false [
   ⟨(some 7), (.mv (.t 0)), none⟩,
   ⟨(some 8), (.len true (.t 7)), none⟩,
   ⟨(some 9), (.bin .gtr 3 false true (.t 8) (.c (.val (.int .i64 2000)))), none⟩] [])
 (.cond (.t 9)
  (.seq
  (.reg false [
    ⟨(some 10), (.call (.c (.fn 12 [])) []), none⟩,
    ⟨(some 2), (.mv (.t 10)), none⟩] [])
  .ret)
  .skip))
 (.seq
 (.reg false [
   ⟨(some 12), (.mv (.t 0)), none⟩,
   ⟨(some 13), (.call (.c (.fn 23 [])) [(.t 12)]), none⟩,
   ⟨(some 11), (.mv (.t 13)), none⟩,
   ⟨(some 14), (.ext (.t 11) 0), none⟩,
   ⟨(some 15), (.ext (.t 11) 1), none⟩,
   ⟨(some 3), (.mv (.t 14)), none⟩,
   ⟨(some 4), (.mv (.t 15)), none⟩] [])
 (.seq
 (.reg false [
   ⟨(some 17), (.mv (.t 0)), none⟩,
   ⟨(some 18), (.call (.c (.fn 24 [])) [(.t 17)]), none⟩,
   ⟨(some 16), (.mv (.t 18)), none⟩,
   ⟨(some 19), (.ext (.t 16) 0), none⟩,
   ⟨(some 20), (.ext (.t 16) 1), none⟩,
   ⟨(some 5), (.mv (.t 19)), none⟩,
   ⟨(some 6), (.mv (.t 20)), none⟩] [])
 (.seq
 (.reg false [
   ⟨(some 21), (.call (.c (.fn 12 [])) []), none⟩,
   ⟨(some 22), (.mv (.t 21)), none⟩,
   ⟨(some 23), (.mv (.t 4)), (some (22, true))⟩,
   ⟨(some 24), (.mv (.t 6)), (some (22, true))⟩,
   ⟨(some 25), (.bin .eql 4 false false (.t 23) (.t 24)), (some (22, true))⟩,
   ⟨(some 26), (.pick (.t 22) (.t 25) (.c (.val (.bool false)))), none⟩,
   ⟨(some 27), (.mv (.t 26)), none⟩,
   ⟨(some 28), (.mv (.t 3)), (some (27, true))⟩,
   ⟨(some 29), (.call (.c (.fn 21 [])) [(.t 28)]), (some (27, true))⟩,
   ⟨(some 30), (.mv (.t 5)), (some (27, true))⟩,
   ⟨(some 31), (.call (.c (.fn 20 [])) [(.t 29), (.t 30)]), (some (27, true))⟩,
   ⟨(some 32), (.pick (.t 27) (.t 31) (.c (.val (.bool false)))), none⟩,
   ⟨(some 33), (.mv (.t 32)), none⟩,
   ⟨(some 34), (.mv (.t 4)), (some (33, true))⟩,
   ⟨(some 35), (.un .not (.t 34)), (some (33, true))⟩,
   ⟨(some 36), (.mv (.t 35)), (some (33, true))⟩,
   ⟨(some 37), (.mv (.t 3)), (some (36, false))⟩,
   ⟨(some 38), (.call (.c (.fn 25 [])) [(.t 37)]), (some (36, false))⟩,
   ⟨(some 39), (.mv (.t 0)), (some (36, false))⟩,
   ⟨(some 40), (.bin .eql 9 false false (.t 38) (.t 39)), (some (36, false))⟩,
   ⟨(some 41), (.mv (.t 40)), (some (36, false))⟩,
   ⟨(some 42), (.mv (.t 3)), (some (41, true))⟩,
   ⟨(some 43), (.call (.c (.fn 14 [])) [(.t 42)]), (some (41, true))⟩,
   ⟨(some 44), (.pick (.t 41) (.t 43) (.c (.val (.bool false)))), (some (36, false))⟩,
   ⟨(some 45), (.pick (.t 36) (.c (.val (.bool true))) (.t 44)), (some (33, true))⟩,
   ⟨(some 46), (.pick (.t 33) (.t 45) (.c (.val (.bool false)))), none⟩,
   ⟨(some 2), (.mv (.t 46)), none⟩] [])
 .ret))))),
 [.tmp 2]⟩

/-- cenotaph/cenotaphlaw05.ZoneLogic -/
def c6 : CF := ⟨
 (.seq
 (.reg false [
   ⟨(some 5), (.box (.t 2)), none⟩,
   ⟨(some 6), (.mv (.c (.val (.bool false)))), none⟩] [])
 (.seq
 (.reg true [
   ⟨(some 15), (.mv (.t 0)), none⟩,
   ⟨(some 16), (.call (.c (.fn 10 [])) [(.t 15)]), none⟩,
   ⟨(some 17), (.mv (.t 1)), none⟩,
   ⟨(some 18), (.call (.c (.fn 10 [])) [(.t 17)]), none⟩,
   ⟨(some 19), (.ld 2 true (.t 5)), none⟩,
   ⟨(some 20), (.call (.c (.fn 11 [])) [(.t 19)]), none⟩,
   ⟨(some 0), (.mv (.t 16)), none⟩,
   ⟨(some 1), (.mv (.t 18)), none⟩,
   ⟨none, (.st 2 (.t 5) (.t 20)), none⟩] [(1, 4), (3, 4)])
 (.seq
 (.reg false [
   ⟨(some 21), (.mv (.t 0)), none⟩,
   ⟨(some 22), (.call (.c (.fn 13 [])) [(.t 21)]), none⟩,
   ⟨(some 23), (.mv (.t 1)), none⟩,
   ⟨(some 24), (.call (.c (.fn 13 [])) [(.t 23)]), none⟩,
   ⟨(some 7), (.mv (.t 22)), none⟩,
   ⟨(some 8), (.mv (.t 24)), none⟩] [])
 (.seq
 (.reg false [
   ⟨(some 25), (.ld 2 true (.t 5)), none⟩,
   ⟨(some 26), (.call (.c (.fn 16 [])) [(.t 25)]), none⟩,
   ⟨(some 9), (.mv (.t 26)), none⟩] [])
 (.seq
 (.reg false [
   ⟨(some 27), (.bsl 3 0 [] []), none⟩,
   ⟨(some 28), (.mv (.t 7)), none⟩,
   ⟨(some 29), (.app 3 (.t 27) (.t 28)), none⟩,
   ⟨(some 30), (.build [(.val (.int .i64 0)), (.val (.complex .f64 0 0)), (.val (.float .f64 0))] [(0, 1, (.c (.val (.int .i64 4))))]), none⟩,
   ⟨(some 31), (.bsl 3 1 [(.val (.int .i64 0)), (.val (.complex .f64 0 0)), (.val (.float .f64 0))] [(0, 3, (.t 30))]), none⟩,
   ⟨(some 32), (.app 3 (.t 29) (.t 31)), none⟩,
   ⟨(some 10), (.mv (.t 32)), none⟩] [])
 (.seq
 (.reg false [
   ⟨(some 33), (.bsl 3 0 [] []), none⟩,
   ⟨(some 34), (.mv (.t 7)), none⟩,
   ⟨(some 35), (.app 3 (.t 33) (.t 34)), none⟩,
   ⟨(some 36), (.mv (.t 8)), none⟩,
   ⟨(some 37), (.app 3 (.t 35) (.t 36)), none⟩,
   ⟨(some 38), (.build [(.val (.int .i64 0)), (.val (.complex .f64 0 0)), (.val (.float .f64 0))] [(0, 1, (.c (.val (.int .i64 5))))]), none⟩,
   ⟨(some 39), (.bsl 3 1 [(.val (.int .i64 0)), (.val (.complex .f64 0 0)), (.val (.float .f64 0))] [(0, 3, (.t 38))]), none⟩,
   ⟨(some 40), (.app 3 (.t 37) (.t 39)), none⟩,
   ⟨(some 11), (.mv (.t 40)), none⟩] [])
 (.seq
 (.reg false [
   ⟨(some 41), (.bsl 3 0 [] []), none⟩,
   ⟨(some 42), (.mv (.t 7)), none⟩,
   ⟨(some 43), (.app 3 (.t 41) (.t 42)), none⟩,
   ⟨(some 44), (.mv (.t 8)), none⟩,
   ⟨(some 45), (.app 3 (.t 43) (.t 44)), none⟩,
   ⟨(some 46), (.build [(.val (.int .i64 0)), (.val (.complex .f64 0 0)), (.val (.float .f64 0))] [(0, 1, (.c (.val (.int .i64 6))))]), none⟩,
   ⟨(some 47), (.bsl 3 1 [(.val (.int .i64 0)), (.val (.complex .f64 0 0)), (.val (.float .f64 0))] [(0, 3, (.t 46))]), none⟩,
   ⟨(some 48), (.app 3 (.t 45) (.t 47)), none⟩,
   ⟨(some 12), (.mv (.t 48)), none⟩] [])
 (.seq
 (.reg false [
   ⟨(some 49), (.mv (.t 7)), none⟩,
   ⟨(some 50), (.mv (.t 9)), none⟩,
   ⟨(some 51), (.call (.c (.fn 15 [])) [(.t 49), (.t 50)]), none⟩,
   ⟨(some 52), (.mv (.t 8)), none⟩,
   ⟨(some 53), (.mv (.t 9)), none⟩,
   ⟨(some 54), (.call (.c (.fn 15 [])) [(.t 52), (.t 53)]), none⟩,
   ⟨(some 13), (.mv (.t 51)), none⟩,
   ⟨(some 14), (.mv (.t 54)), none⟩] [])
 (.seq
 (.seq
 (.reg false [
   ⟨(some 55), (.call (.c (.fn 12 [])) []), none⟩,
   ⟨(some 56), (.un .not (.t 55)), none⟩,
   ⟨(some 57), (.mv (.t 56)), none⟩,
   ⟨(some 58), (.mv (.t 10)), (some (57, false))⟩,
   ⟨(some 59), (.len false (.t 58)), (some (57, false))⟩,
   ⟨(some 60), (.bin .leq 3 false true (.t 59) (.c (.val (.int .i64 32)))), (some (57, false))⟩,
   ⟨(some 61), (.mv (.t 60)), (some (57, false))⟩,
   ⟨(some 62), (.mv (.t 10)), (some (61, true))⟩,
   ⟨(some 63), (.mv (.t 9)), (some (61, true))⟩,
   ⟨(some 64), (.call (.c (.fn 15 [])) [(.t 62), (.t 63)]), (some (61, true))⟩,
   ⟨(some 65), (.mv (.t 13)), (some (61, true))⟩,
   ⟨(some 66), (.bin .eql 4 false false (.t 64) (.t 65)), (some (61, true))⟩,
   ⟨(some 67), (.pick (.t 61) (.t 66) (.c (.val (.bool false)))), (some (57, false))⟩,
   ⟨(some 68), (.pick (.t 57) (.c (.val (.bool true))) (.t 67)), none⟩] [])
 (.cond (.t 68)
  (.seq
  (.reg false [
    ⟨(some 6), (.mv (.c (.val (.bool false)))), none⟩] [])
  .ret)
  .skip))
 (.seq
 (.reg false [
   ⟨(some 69), (.mv (.t 11)), none⟩,
   ⟨(some 70), (.len false (.t 69)), none⟩,
   ⟨(some 71), (.bin .gtr 3 false true (.t 70) (.c (.val (.int .i64 32)))), none⟩,
   ⟨(some 72), (.mv (.t 71)), none⟩,
   ⟨(some 73), (.mv (.t 11)), (some (72, false))⟩,
   ⟨(some 74), (.mv (.t 9)), (some (72, false))⟩,
   ⟨(some 75), (.call (.c (.fn 15 [])) [(.t 73), (.t 74)]), (some (72, false))⟩,
   ⟨(some 76), (.mv (.t 13)), (some (72, false))⟩,
   ⟨(some 77), (.mv (.t 76)), (some (72, false))⟩,
   ⟨(some 78), (.mv (.t 14)), (some (77, true))⟩,
   ⟨(some 79), (.pick (.t 77) (.t 78) (.c (.val (.bool false)))), (some (72, false))⟩,
   ⟨(some 80), (.bin .eql 4 false false (.t 75) (.t 79)), (some (72, false))⟩,
   ⟨(some 81), (.mv (.t 80)), (some (72, false))⟩,
   ⟨(some 82), (.mv (.t 12)), (some (81, true))⟩,
   ⟨(some 83), (.mv (.t 9)), (some (81, true))⟩,
   ⟨(some 84), (.call (.c (.fn 15 [])) [(.t 82), (.t 83)]), (some (81, true))⟩,
   ⟨(some 85), (.mv (.t 13)), (some (81, true))⟩,
   ⟨(some 86), (.mv (.t 85)), (some (81, true))⟩,
   ⟨(some 87), (.mv (.t 14)), (some (86, false))⟩,
   ⟨(some 88), (.pick (.t 86) (.c (.val (.bool true))) (.t 87)), (some (81, true))⟩,
   ⟨(some 89), (.bin .eql 4 false false (.t 84) (.t 88)), (some (81, true))⟩,
   ⟨(some 90), (.pick (.t 81) (.t 89) (.c (.val (.bool false)))), (some (72, false))⟩,
   ⟨(some 91), (.pick (.t 72) (.c (.val (.bool true))) (.t 90)), none⟩,
   ⟨(some 6), (.mv (.t 91)), none⟩] [])
 .ret)))))))))),
 [.tmp 6]⟩

/-- cenotaph/cenotaphlaw05.ZoneDiscs -/
def c7 : CF := ⟨
 (.seq
 (.reg false [
   ⟨(some 3), (.box (.t 0)), none⟩,
   ⟨(some 4), (.box (.t 1)), none⟩,
   ⟨(some 6), (.mv (.c (.val (.bool false)))), none⟩] [])
 (.seq
 (.reg true [
   ⟨(some 14), (.ld 2 true (.t 3)), none⟩,
   ⟨(some 15), (.call (.c (.fn 11 [])) [(.t 14)]), none⟩,
   ⟨(some 16), (.ld 2 true (.t 4)), none⟩,
   ⟨(some 17), (.call (.c (.fn 11 [])) [(.t 16)]), none⟩,
   ⟨none, (.st 2 (.t 3) (.t 15)), none⟩,
   ⟨none, (.st 2 (.t 4) (.t 17)), none⟩] [(1, 2)])
 (.seq
 (.reg false [
   ⟨(some 18), (.mv (.t 2)), none⟩,
   ⟨(some 19), (.cv 3 53 (.t 18)), none⟩,
   ⟨(some 20), (.bin .rem 53 false true (.t 19) (.c (.val (.int .u64 2001)))), none⟩,
   ⟨(some 21), (.cv 53 3 (.t 20)), none⟩,
   ⟨(some 7), (.mv (.t 21)), none⟩] [])
 (.seq
 (.reg false [
   ⟨(some 22), (.ld 2 true (.t 3)), none⟩,
   ⟨(some 23), (.call (.c (.fn 16 [])) [(.t 22)]), none⟩,
   ⟨(some 24), (.mv (.t 7)), none⟩,
   ⟨(some 25), (.cv 3 41 (.t 24)), none⟩,
   ⟨(some 26), (.build [(.val (.int .i64 0)), (.val (.complex .f64 0 0)), (.val (.float .f64 0))] [(0, 1, (.c (.val (.int .i64 2)))), (1, 1, (.t 23)), (2, 1, (.t 25))]), none⟩,
   ⟨(some 27), (.bsl 3 1 [(.val (.int .i64 0)), (.val (.complex .f64 0 0)), (.val (.float .f64 0))] [(0, 3, (.t 26))]), none⟩,
   ⟨(some 8), (.mv (.t 27)), none⟩] [])
 (.seq
 (.reg false [
   ⟨(some 28), (.ld 2 true (.t 3)), none⟩,
   ⟨(some 29), (.call (.c (.fn 16 [])) [(.t 28)]), none⟩,
   ⟨(some 30), (.mv (.t 7)), none⟩,
   ⟨(some 31), (.cv 3 41 (.t 30)), none⟩,
   ⟨(some 32), (.build [(.val (.int .i64 0)), (.val (.complex .f64 0 0)), (.val (.float .f64 0))] [(0, 1, (.c (.val (.int .i64 3)))), (1, 1, (.t 29)), (2, 1, (.t 31))]), none⟩,
   ⟨(some 33), (.bsl 3 1 [(.val (.int .i64 0)), (.val (.complex .f64 0 0)), (.val (.float .f64 0))] [(0, 3, (.t 32))]), none⟩,
   ⟨(some 9), (.mv (.t 33)), none⟩] [])
 (.seq
 (.reg false [
   ⟨(some 34), (.ld 2 true (.t 3)), none⟩,
   ⟨(some 35), (.call (.c (.fn 16 [])) [(.t 34)]), none⟩,
   ⟨(some 36), (.un .neg (.t 35)), none⟩,
   ⟨(some 37), (.mv (.t 7)), none⟩,
   ⟨(some 38), (.un .neg (.t 37)), none⟩,
   ⟨(some 39), (.cv 3 41 (.t 38)), none⟩,
   ⟨(some 40), (.build [(.val (.int .i64 0)), (.val (.complex .f64 0 0)), (.val (.float .f64 0))] [(0, 1, (.c (.val (.int .i64 3)))), (1, 1, (.t 36)), (2, 1, (.t 39))]), none⟩,
   ⟨(some 41), (.bsl 3 1 [(.val (.int .i64 0)), (.val (.complex .f64 0 0)), (.val (.float .f64 0))] [(0, 3, (.t 40))]), none⟩,
   ⟨(some 10), (.mv (.t 41)), none⟩] [])
 (.seq
 (.reg false [
   ⟨(some 42), (.fad 0 (.t 3)), none⟩,
   ⟨(some 43), (.ld 1 false (.t 42)), none⟩,
   ⟨(some 44), (.fad 0 (.t 4)), none⟩,
   ⟨(some 45), (.ld 1 false (.t 44)), none⟩,
   ⟨(some 46), (.bin .mul 3 false false (.t 43) (.t 45)), none⟩,
   ⟨(some 47), (.fad 1 (.t 3)), none⟩,
   ⟨(some 48), (.ld 1 false (.t 47)), none⟩,
   ⟨(some 49), (.fad 1 (.t 4)), none⟩,
   ⟨(some 50), (.ld 1 false (.t 49)), none⟩,
   ⟨(some 51), (.bin .mul 3 false false (.t 48) (.t 50)), none⟩,
   ⟨(some 52), (.bin .add 3 false false (.t 46) (.t 51)), none⟩,
   ⟨(some 11), (.mv (.t 52)), none⟩] [])
 (.seq
 (.reg false [
   ⟨(some 53), (.ld 2 true (.t 4)), none⟩,
   ⟨(some 54), (.call (.c (.fn 16 [])) [(.t 53)]), none⟩,
   ⟨(some 12), (.mv (.t 54)), none⟩] [])
 (.seq
 (.reg false [
   ⟨(some 55), (.fad 0 (.t 4)), none⟩,
   ⟨(some 56), (.ld 1 false (.t 55)), none⟩,
   ⟨(some 57), (.fad 0 (.t 3)), none⟩,
   ⟨(some 58), (.ld 1 false (.t 57)), none⟩,
   ⟨(some 59), (.bin .sub 3 false false (.t 56) (.t 58)), none⟩,
   ⟨(some 60), (.fad 0 (.t 4)), none⟩,
   ⟨(some 61), (.ld 1 false (.t 60)), none⟩,
   ⟨(some 62), (.fad 0 (.t 3)), none⟩,
   ⟨(some 63), (.ld 1 false (.t 62)), none⟩,
   ⟨(some 64), (.bin .sub 3 false false (.t 61) (.t 63)), none⟩,
   ⟨(some 65), (.bin .mul 3 false false (.t 59) (.t 64)), none⟩,
   ⟨(some 66), (.fad 1 (.t 4)), none⟩,
   ⟨(some 67), (.ld 1 false (.t 66)), none⟩,
   ⟨(some 68), (.fad 1 (.t 3)), none⟩,
   ⟨(some 69), (.ld 1 false (.t 68)), none⟩,
   ⟨(some 70), (.bin .sub 3 false false (.t 67) (.t 69)), none⟩,
   ⟨(some 71), (.fad 1 (.t 4)), none⟩,
   ⟨(some 72), (.ld 1 false (.t 71)), none⟩,
   ⟨(some 73), (.fad 1 (.t 3)), none⟩,
   ⟨(some 74), (.ld 1 false (.t 73)), none⟩,
   ⟨(some 75), (.bin .sub 3 false false (.t 72) (.t 74)), none⟩,
   ⟨(some 76), (.bin .mul 3 false false (.t 70) (.t 75)), none⟩,
   ⟨(some 77), (.bin .add 3 false false (.t 65) (.t 76)), none⟩,
   ⟨(some 13), (.mv (.t 77)), none⟩] [])
 (.seq
 (.seq
 (.reg false [
   ⟨(some 78), (.call (.c (.fn 12 [])) []), none⟩,
   ⟨(some 79), (.un .not (.t 78)), none⟩,
   ⟨(some 80), (.mv (.t 79)), none⟩,
   ⟨(some 81), (.mv (.t 8)), (some (80, false))⟩,
   ⟨(some 82), (.mv (.t 12)), (some (80, false))⟩,
   ⟨(some 83), (.call (.c (.fn 15 [])) [(.t 81), (.t 82)]), (some (80, false))⟩,
   ⟨(some 84), (.mv (.t 13)), (some (80, false))⟩,
   ⟨(some 85), (.mv (.t 7)), (some (80, false))⟩,
   ⟨(some 86), (.mv (.t 7)), (some (80, false))⟩,
   ⟨(some 87), (.bin .mul 3 false false (.t 85) (.t 86)), (some (80, false))⟩,
   ⟨(some 88), (.bin .leq 3 false false (.t 84) (.t 87)), (some (80, false))⟩,
   ⟨(some 89), (.bin .neq 4 false false (.t 83) (.t 88)), (some (80, false))⟩,
   ⟨(some 90), (.pick (.t 80) (.c (.val (.bool true))) (.t 89)), none⟩,
   ⟨(some 91), (.mv (.t 90)), none⟩,
   ⟨(some 92), (.mv (.t 9)), (some (91, false))⟩,
   ⟨(some 93), (.mv (.t 12)), (some (91, false))⟩,
   ⟨(some 94), (.call (.c (.fn 15 [])) [(.t 92), (.t 93)]), (some (91, false))⟩,
   ⟨(some 95), (.mv (.t 11)), (some (91, false))⟩,
   ⟨(some 96), (.mv (.t 7)), (some (91, false))⟩,
   ⟨(some 97), (.bin .geq 3 false false (.t 95) (.t 96)), (some (91, false))⟩,
   ⟨(some 98), (.bin .neq 4 false false (.t 94) (.t 97)), (some (91, false))⟩,
   ⟨(some 99), (.pick (.t 91) (.c (.val (.bool true))) (.t 98)), none⟩] [])
 (.cond (.t 99)
  (.seq
  (.reg false [
    ⟨(some 6), (.mv (.c (.val (.bool false)))), none⟩] [])
  .ret)
  .skip))
 (.seq
 (.reg false [
   ⟨(some 100), (.mv (.t 9)), none⟩,
   ⟨(some 101), (.mv (.t 12)), none⟩,
   ⟨(some 102), (.call (.c (.fn 15 [])) [(.t 100), (.t 101)]), none⟩,
   ⟨(some 103), (.mv (.t 102)), none⟩,
   ⟨(some 104), (.mv (.t 10)), (some (103, false))⟩,
   ⟨(some 105), (.mv (.t 12)), (some (103, false))⟩,
   ⟨(some 106), (.call (.c (.fn 15 [])) [(.t 104), (.t 105)]), (some (103, false))⟩,
   ⟨(some 107), (.pick (.t 103) (.c (.val (.bool true))) (.t 106)), none⟩,
   ⟨(some 108), (.mv (.t 107)), none⟩,
   ⟨(some 109), (.mv (.t 9)), (some (108, true))⟩,
   ⟨(some 110), (.mv (.t 12)), (some (108, true))⟩,
   ⟨(some 111), (.call (.c (.fn 15 [])) [(.t 109), (.t 110)]), (some (108, true))⟩,
   ⟨(some 112), (.mv (.t 111)), (some (108, true))⟩,
   ⟨(some 113), (.mv (.t 10)), (some (112, true))⟩,
   ⟨(some 114), (.mv (.t 12)), (some (112, true))⟩,
   ⟨(some 115), (.call (.c (.fn 15 [])) [(.t 113), (.t 114)]), (some (112, true))⟩,
   ⟨(some 116), (.pick (.t 112) (.t 115) (.c (.val (.bool false)))), (some (108, true))⟩,
   ⟨(some 117), (.mv (.t 11)), (some (108, true))⟩,
   ⟨(some 118), (.mv (.t 7)), (some (108, true))⟩,
   ⟨(some 119), (.bin .eql 3 false false (.t 117) (.t 118)), (some (108, true))⟩,
   ⟨(some 120), (.bin .eql 4 false false (.t 116) (.t 119)), (some (108, true))⟩,
   ⟨(some 121), (.pick (.t 108) (.t 120) (.c (.val (.bool false)))), none⟩,
   ⟨(some 6), (.mv (.t 121)), none⟩] [])
 .ret))))))))))),
 [.tmp 6]⟩

/-- cenotaph/cenotaphlaw05.ZoneRights -/
def c8 : CF := ⟨
 (.seq
 (.reg false [
   ⟨(some 2), (.mv (.c (.val (.bool false)))), none⟩] [])
 (.seq
 (.seq
 (.reg false [
   ⟨(some 7), (.mv (.t 0)), none⟩,
   ⟨(some 8), (.call (.c (.fn 26 [])) [(.t 7)]), none⟩,
   ⟨(some 9), (.un .not (.t 8)), none⟩] [])
 (.cond (.t 9)
  (.seq
  (.reg false [
    ⟨(some 10), (.call (.c (.fn 12 [])) []), none⟩,
    ⟨(some 2), (.mv (.t 10)), none⟩] [])
  .ret)
  .skip))
 (.seq
 (.reg false [
   ⟨(some 11), (.mv (.t 0)), none⟩,
   ⟨(some 12), (.call (.c (.fn 13 [])) [(.t 11)]), none⟩,
   ⟨(some 3), (.mv (.t 12)), none⟩] [])
 (.seq
 (.reg false [
   ⟨(some 14), (.mv (.t 3)), none⟩,
   ⟨(some 15), (.call (.c (.fn 25 [])) [(.t 14)]), none⟩,
   ⟨(some 16), (.call (.c (.fn 23 [])) [(.t 15)]), none⟩,
   ⟨(some 13), (.mv (.t 16)), none⟩,
   ⟨(some 17), (.ext (.t 13) 0), none⟩,
   ⟨(some 18), (.ext (.t 13) 1), none⟩,
   ⟨(some 4), (.mv (.t 17)), none⟩,
   ⟨(some 5), (.mv (.t 18)), none⟩] [])
 (.seq
 (.reg false [
   ⟨(some 19), (.mv (.t 0)), none⟩,
   ⟨(some 20), (.call (.c (.fn 27 [])) [(.t 19)]), none⟩,
   ⟨(some 6), (.mv (.t 20)), none⟩] [])
 (.seq
 (.reg false [
   ⟨(some 21), (.call (.c (.fn 12 [])) []), none⟩,
   ⟨(some 22), (.mv (.t 21)), none⟩,
   ⟨(some 23), (.mv (.t 3)), (some (22, true))⟩,
   ⟨(some 24), (.call (.c (.fn 14 [])) [(.t 23)]), (some (22, true))⟩,
   ⟨(some 25), (.mv (.t 6)), (some (22, true))⟩,
   ⟨(some 26), (.bin .eql 4 false false (.t 24) (.t 25)), (some (22, true))⟩,
   ⟨(some 27), (.pick (.t 22) (.t 26) (.c (.val (.bool false)))), none⟩,
   ⟨(some 28), (.mv (.t 27)), none⟩,
   ⟨(some 29), (.mv (.t 3)), (some (28, true))⟩,
   ⟨(some 30), (.call (.c (.fn 25 [])) [(.t 29)]), (some (28, true))⟩,
   ⟨(some 31), (.mv (.t 0)), (some (28, true))⟩,
   ⟨(some 32), (.call (.c (.fn 28 [])) [(.t 31)]), (some (28, true))⟩,
   ⟨(some 33), (.bin .eql 9 false false (.t 30) (.t 32)), (some (28, true))⟩,
   ⟨(some 34), (.pick (.t 28) (.t 33) (.c (.val (.bool false)))), none⟩,
   ⟨(some 35), (.mv (.t 34)), none⟩,
   ⟨(some 36), (.mv (.t 5)), (some (35, true))⟩,
   ⟨(some 37), (.mv (.t 6)), (some (35, true))⟩,
   ⟨(some 38), (.bin .eql 4 false false (.t 36) (.t 37)), (some (35, true))⟩,
   ⟨(some 39), (.pick (.t 35) (.t 38) (.c (.val (.bool false)))), none⟩,
   ⟨(some 40), (.mv (.t 39)), none⟩,
   ⟨(some 41), (.mv (.t 6)), (some (40, true))⟩,
   ⟨(some 42), (.un .not (.t 41)), (some (40, true))⟩,
   ⟨(some 43), (.mv (.t 42)), (some (40, true))⟩,
   ⟨(some 44), (.mv (.t 4)), (some (43, false))⟩,
   ⟨(some 45), (.mv (.t 3)), (some (43, false))⟩,
   ⟨(some 46), (.call (.c (.fn 29 [])) [(.t 44), (.t 45)]), (some (43, false))⟩,
   ⟨(some 47), (.mv (.t 46)), (some (43, false))⟩,
   ⟨(some 48), (.mv (.t 4)), (some (47, true))⟩,
   ⟨(some 49), (.call (.c (.fn 21 [])) [(.t 48)]), (some (47, true))⟩,
   ⟨(some 50), (.mv (.t 0)), (some (47, true))⟩,
   ⟨(some 51), (.call (.c (.fn 20 [])) [(.t 49), (.t 50)]), (some (47, true))⟩,
   ⟨(some 52), (.pick (.t 47) (.t 51) (.c (.val (.bool false)))), (some (43, false))⟩,
   ⟨(some 53), (.pick (.t 43) (.c (.val (.bool true))) (.t 52)), (some (40, true))⟩,
   ⟨(some 54), (.pick (.t 40) (.t 53) (.c (.val (.bool false)))), none⟩,
   ⟨(some 2), (.mv (.t 54)), none⟩] [])
 .ret)))))),
 [.tmp 2]⟩

/-- cenotaph/cenotaphlaw05.ZoneTurns -/
def c9 : CF := ⟨
 (.seq
 (.reg false [
   ⟨(some 3), (.box (.t 1)), none⟩,
   ⟨(some 4), (.mv (.c (.val (.bool false)))), none⟩] [])
 (.seq
 (.reg true [
   ⟨(some 7), (.mv (.t 0)), none⟩,
   ⟨(some 8), (.call (.c (.fn 10 [])) [(.t 7)]), none⟩,
   ⟨(some 9), (.ld 2 true (.t 3)), none⟩,
   ⟨(some 10), (.call (.c (.fn 11 [])) [(.t 9)]), none⟩,
   ⟨(some 0), (.mv (.t 8)), none⟩,
   ⟨none, (.st 2 (.t 3) (.t 10)), none⟩] [(1, 2)])
 (.seq
 (.reg false [
   ⟨(some 11), (.ld 2 true (.t 3)), none⟩,
   ⟨(some 12), (.call (.c (.fn 16 [])) [(.t 11)]), none⟩,
   ⟨(some 5), (.mv (.t 12)), none⟩] [])
 (.seq
 (.reg false [
   ⟨(some 13), (.mv (.t 0)), none⟩,
   ⟨(some 14), (.call (.c (.fn 30 [])) [(.t 13)]), none⟩,
   ⟨(some 6), (.mv (.t 14)), none⟩] [])
 (.seq
 (.seq
 (.reg false [
   ⟨(some 15), (.call (.c (.fn 12 [])) []), none⟩,
   ⟨(some 16), (.un .not (.t 15)), none⟩,
   ⟨(some 17), (.mv (.t 16)), none⟩,
   ⟨(some 18), (.mv (.t 6)), (some (17, false))⟩,
   ⟨(some 19), (.call (.c (.fn 13 [])) [(.t 18)]), (some (17, false))⟩,
   ⟨(some 20), (.mv (.t 5)), (some (17, false))⟩,
   ⟨(some 21), (.bin .mul 33 false true (.t 20) (.c (.val (.complex .f64 0 4607182418800017408)))), (some (17, false))⟩,
   ⟨(some 22), (.call (.c (.fn 15 [])) [(.t 19), (.t 21)]), (some (17, false))⟩,
   ⟨(some 23), (.mv (.t 0)), (some (17, false))⟩,
   ⟨(some 24), (.call (.c (.fn 13 [])) [(.t 23)]), (some (17, false))⟩,
   ⟨(some 25), (.mv (.t 5)), (some (17, false))⟩,
   ⟨(some 26), (.call (.c (.fn 15 [])) [(.t 24), (.t 25)]), (some (17, false))⟩,
   ⟨(some 27), (.bin .neq 4 false false (.t 22) (.t 26)), (some (17, false))⟩,
   ⟨(some 28), (.pick (.t 17) (.c (.val (.bool true))) (.t 27)), none⟩] [])
 (.cond (.t 28)
  (.seq
  (.reg false [
    ⟨(some 4), (.mv (.c (.val (.bool false)))), none⟩] [])
  .ret)
  .skip))
 (.seq
 (.reg false [
   ⟨(some 29), (.mv (.t 6)), none⟩,
   ⟨(some 30), (.call (.c (.fn 30 [])) [(.t 29)]), none⟩,
   ⟨(some 31), (.call (.c (.fn 30 [])) [(.t 30)]), none⟩,
   ⟨(some 32), (.call (.c (.fn 30 [])) [(.t 31)]), none⟩,
   ⟨(some 33), (.call (.c (.fn 13 [])) [(.t 32)]), none⟩,
   ⟨(some 34), (.mv (.t 0)), none⟩,
   ⟨(some 35), (.call (.c (.fn 13 [])) [(.t 34)]), none⟩,
   ⟨(some 36), (.call (.c (.fn 29 [])) [(.t 33), (.t 35)]), none⟩,
   ⟨(some 37), (.mv (.t 36)), none⟩,
   ⟨(some 38), (.mv (.t 6)), (some (37, true))⟩,
   ⟨(some 39), (.call (.c (.fn 13 [])) [(.t 38)]), (some (37, true))⟩,
   ⟨(some 40), (.call (.c (.fn 14 [])) [(.t 39)]), (some (37, true))⟩,
   ⟨(some 41), (.pick (.t 37) (.t 40) (.c (.val (.bool false)))), none⟩,
   ⟨(some 4), (.mv (.t 41)), none⟩] [])
 .ret)))))),
 [.tmp 4]⟩

def L10_0 : CC :=
 (.seq
 (.seq
 (.reg false [
   ⟨(some 9), (.mv (.t 5)), none⟩,
   ⟨(some 10), (.mv (.t 0)), none⟩,
   ⟨(some 11), (.len false (.t 10)), none⟩,
   ⟨(some 12), (.bin .lss 3 false false (.t 9) (.t 11)), none⟩,
   ⟨(some 13), (.mv (.t 12)), none⟩,
   ⟨(some 14), (.mv (.t 5)), (some (13, true))⟩,
   ⟨(some 15), (.bin .lss 3 false true (.t 14) (.c (.val (.int .i64 12)))), (some (13, true))⟩,
   ⟨(some 16), (.pick (.t 13) (.t 15) (.c (.val (.bool false)))), none⟩] [])
 (.cond (.t 16)
  .skip
  (.exit 0)))
 (.seq
 (.block 1
  (.seq
  (.reg false [
    ⟨(some 19), (.mv (.t 0)), none⟩,
    ⟨(some 20), (.mv (.t 5)), none⟩,
    ⟨(some 21), (.ias 4 (.t 19) (.t 20)), none⟩,
    ⟨(some 22), (.fad 0 (.t 21)), none⟩,
    ⟨(some 23), (.ld 1 false (.t 22)), none⟩,
    ⟨(some 24), (.cv 3 53 (.t 23)), none⟩,
    ⟨(some 25), (.bin .rem 53 false true (.t 24) (.c (.val (.int .u64 6)))), none⟩,
    ⟨(some 26), (.cv 53 3 (.t 25)), none⟩,
    ⟨(some 27), (.bin .add 3 true false (.c (.val (.int .i64 1))) (.t 26)), none⟩,
    ⟨(some 6), (.mv (.t 27)), none⟩] [])
  (.seq
  (.reg true [
    ⟨(some 28), (.mv (.t 0)), none⟩,
    ⟨(some 29), (.mv (.t 5)), none⟩,
    ⟨(some 30), (.ias 4 (.t 28) (.t 29)), none⟩,
    ⟨(some 31), (.fad 1 (.t 30)), none⟩,
    ⟨(some 32), (.ld 1 false (.t 31)), none⟩,
    ⟨(some 33), (.mv (.t 0)), none⟩,
    ⟨(some 34), (.mv (.t 5)), none⟩,
    ⟨(some 35), (.ias 4 (.t 33) (.t 34)), none⟩,
    ⟨(some 36), (.fad 2 (.t 35)), none⟩,
    ⟨(some 37), (.ld 1 false (.t 36)), none⟩,
    ⟨(some 38), (.build [(.val (.int .i64 0)), (.val (.int .i64 0))] [(0, 1, (.t 32)), (1, 1, (.t 37))]), none⟩,
    ⟨(some 39), (.call (.c (.fn 11 [])) [(.t 38)]), none⟩,
    ⟨(some 7), (.alloc [(.val (.int .i64 0)), (.val (.int .i64 0))]), none⟩,
    ⟨none, (.st 2 (.t 7) (.t 39)), none⟩] [(4, 12), (9, 12), (11, 12)])
  (.seq
  (.seq
  (.reg false [
    ⟨(some 40), (.mv (.t 6)), none⟩,
    ⟨(some 41), (.bin .eql 3 false true (.t 40) (.c (.val (.int .i64 4)))), none⟩,
    ⟨(some 42), (.mv (.t 41)), none⟩,
    ⟨(some 43), (.mv (.t 4)), (some (42, true))⟩,
    ⟨(some 44), (.bin .lss 3 false true (.t 43) (.c (.val (.int .i64 1)))), (some (42, true))⟩,
    ⟨(some 45), (.pick (.t 42) (.t 44) (.c (.val (.bool false)))), none⟩,
    ⟨(some 46), (.mv (.t 45)), none⟩,
    ⟨(some 47), (.mv (.t 6)), (some (46, false))⟩,
    ⟨(some 48), (.bin .gtr 3 false true (.t 47) (.c (.val (.int .i64 4)))), (some (46, false))⟩,
    ⟨(some 49), (.mv (.t 48)), (some (46, false))⟩,
    ⟨(some 50), (.mv (.t 4)), (some (49, true))⟩,
    ⟨(some 51), (.bin .lss 3 false true (.t 50) (.c (.val (.int .i64 2)))), (some (49, true))⟩,
    ⟨(some 52), (.pick (.t 49) (.t 51) (.c (.val (.bool false)))), (some (46, false))⟩,
    ⟨(some 53), (.pick (.t 46) (.c (.val (.bool true))) (.t 52)), none⟩] [])
  (.cond (.t 53)
   (.reg false [
     ⟨(some 6), (.mv (.c (.val (.int .i64 2)))), none⟩] [])
   .skip))
  (.seq
  (.reg false [
    ⟨(some 54), (.mv (.t 6)), none⟩,
    ⟨(some 55), (.build [(.val (.int .i64 0)), (.val (.int .i64 0)), (.val (.int .i64 0)), (.val (.int .i64 0))] [(0, 1, (.t 54))]), none⟩,
    ⟨(some 8), (.alloc [(.val (.int .i64 0)), (.val (.int .i64 0)), (.val (.int .i64 0)), (.val (.int .i64 0))]), none⟩,
    ⟨none, (.st 4 (.t 8) (.t 55)), none⟩] [])
  (.seq
  (.seq
  (.reg false [
    ⟨(some 56), (.mv (.t 6)), none⟩,
    ⟨(some 57), (.bin .eql 3 false true (.t 56) (.c (.val (.int .i64 2)))), none⟩] [])
  (.cond (.t 57)
   (.reg true [
     ⟨(some 58), (.fad 0 (.t 7)), none⟩,
     ⟨(some 59), (.ld 1 false (.t 58)), none⟩,
     ⟨(some 60), (.fad 1 (.t 7)), none⟩,
     ⟨(some 61), (.ld 1 false (.t 60)), none⟩,
     ⟨(some 62), (.mv (.t 0)), none⟩,
     ⟨(some 63), (.mv (.t 5)), none⟩,
     ⟨(some 64), (.ias 4 (.t 62) (.t 63)), none⟩,
     ⟨(some 65), (.fad 3 (.t 64)), none⟩,
     ⟨(some 66), (.ld 1 false (.t 65)), none⟩,
     ⟨(some 67), (.cv 3 53 (.t 66)), none⟩,
     ⟨(some 68), (.bin .rem 53 false true (.t 67) (.c (.val (.int .u64 2001)))), none⟩,
     ⟨(some 69), (.cv 53 3 (.t 68)), none⟩,
     ⟨(some 70), (.build [(.val (.int .i64 0)), (.val (.int .i64 0)), (.val (.int .i64 0)), (.val (.int .i64 0))] [(0, 1, (.c (.val (.int .i64 2)))), (1, 1, (.t 59)), (2, 1, (.t 61)), (3, 1, (.t 69))]), none⟩,
     ⟨none, (.st 4 (.t 8) (.t 70)), none⟩] [])
   .skip))
  (.seq
  (.seq
  (.reg false [
    ⟨(some 71), (.mv (.t 6)), none⟩,
    ⟨(some 72), (.bin .eql 3 false true (.t 71) (.c (.val (.int .i64 3)))), none⟩] [])
  (.cond (.t 72)
   (.reg true [
     ⟨(some 73), (.fad 0 (.t 7)), none⟩,
     ⟨(some 74), (.ld 1 false (.t 73)), none⟩,
     ⟨(some 75), (.fad 1 (.t 7)), none⟩,
     ⟨(some 76), (.ld 1 false (.t 75)), none⟩,
     ⟨(some 77), (.mv (.t 0)), none⟩,
     ⟨(some 78), (.mv (.t 5)), none⟩,
     ⟨(some 79), (.ias 4 (.t 77) (.t 78)), none⟩,
     ⟨(some 80), (.fad 3 (.t 79)), none⟩,
     ⟨(some 81), (.ld 1 false (.t 80)), none⟩,
     ⟨(some 82), (.cv 3 53 (.t 81)), none⟩,
     ⟨(some 83), (.bin .rem 53 false true (.t 82) (.c (.val (.int .u64 4000001)))), none⟩,
     ⟨(some 84), (.cv 53 3 (.t 83)), none⟩,
     ⟨(some 85), (.bin .sub 3 false true (.t 84) (.c (.val (.int .i64 2000000)))), none⟩,
     ⟨(some 86), (.build [(.val (.int .i64 0)), (.val (.int .i64 0)), (.val (.int .i64 0)), (.val (.int .i64 0))] [(0, 1, (.c (.val (.int .i64 3)))), (1, 1, (.t 74)), (2, 1, (.t 76)), (3, 1, (.t 85))]), none⟩,
     ⟨none, (.st 4 (.t 8) (.t 86)), none⟩] [])
   .skip))
  (.seq
  (.seq
  (.reg false [
    ⟨(some 87), (.mv (.t 6)), none⟩,
    ⟨(some 88), (.bin .leq 3 false true (.t 87) (.c (.val (.int .i64 3)))), none⟩] [])
  (.cond (.t 88)
   (.reg false [
     ⟨(some 89), (.mv (.t 4)), none⟩,
     ⟨(some 90), (.bin .add 3 false true (.t 89) (.c (.val (.int .i64 1)))), none⟩,
     ⟨(some 4), (.mv (.t 90)), none⟩] [])
   .skip))
  (.seq
  (.seq
  (.reg false [
    ⟨(some 91), (.mv (.t 6)), none⟩,
    ⟨(some 92), (.bin .gtr 3 false true (.t 91) (.c (.val (.int .i64 4)))), none⟩] [])
  (.cond (.t 92)
   (.reg false [
     ⟨(some 93), (.mv (.t 4)), none⟩,
     ⟨(some 94), (.bin .sub 3 false true (.t 93) (.c (.val (.int .i64 1)))), none⟩,
     ⟨(some 4), (.mv (.t 94)), none⟩] [])
   .skip))
  (.reg false [
    ⟨(some 95), (.mv (.t 3)), none⟩,
    ⟨(some 96), (.ld 4 true (.t 8)), none⟩,
    ⟨(some 97), (.bsl 4 1 [(.val (.int .i64 0)), (.val (.int .i64 0)), (.val (.int .i64 0)), (.val (.int .i64 0))] [(0, 4, (.t 96))]), none⟩,
    ⟨(some 98), (.app 4 (.t 95) (.t 97)), none⟩,
    ⟨(some 3), (.mv (.t 98)), none⟩] []))))))))))
 (.reg false [
   ⟨(some 17), (.mv (.t 5)), none⟩,
   ⟨(some 18), (.bin .add 3 false true (.t 17) (.c (.val (.int .i64 1)))), none⟩,
   ⟨(some 5), (.mv (.t 18)), none⟩] [])))

def L10_1 : CC :=
 (.seq
 (.seq
 (.reg false [
   ⟨(some 103), (.mv (.t 4)), none⟩,
   ⟨(some 104), (.bin .gtr 3 false true (.t 103) (.c (.val (.int .i64 1)))), none⟩] [])
 (.cond (.t 104)
  .skip
  (.exit 2)))
 (.seq
 (.block 3
  (.reg false [
    ⟨(some 107), (.mv (.t 3)), none⟩,
    ⟨(some 108), (.build [(.val (.int .i64 0)), (.val (.int .i64 0)), (.val (.int .i64 0)), (.val (.int .i64 0))] [(0, 1, (.c (.val (.int .i64 6))))]), none⟩,
    ⟨(some 109), (.bsl 4 1 [(.val (.int .i64 0)), (.val (.int .i64 0)), (.val (.int .i64 0)), (.val (.int .i64 0))] [(0, 4, (.t 108))]), none⟩,
    ⟨(some 110), (.app 4 (.t 107) (.t 109)), none⟩,
    ⟨(some 3), (.mv (.t 110)), none⟩] []))
 (.reg false [
   ⟨(some 105), (.mv (.t 4)), none⟩,
   ⟨(some 106), (.bin .sub 3 false true (.t 105) (.c (.val (.int .i64 1)))), none⟩,
   ⟨(some 4), (.mv (.t 106)), none⟩] [])))

/-- cenotaph/cenotaphref05.Fix -/
def c10 : CF := ⟨
 (.seq
 (.reg false [
   ⟨(some 2), (.mv (.c (.im [] true))), none⟩] [])
 (.seq
 (.reg false [
   ⟨(some 3), (.mv (.c (.im [] true))), none⟩] [])
 (.seq
 (.reg false [
   ⟨(some 4), (.mv (.c (.val (.int .i64 0)))), none⟩] [])
 (.seq
 (.seq
 (.reg false [
   ⟨(some 5), (.mv (.c (.val (.int .i64 0)))), none⟩] [])
 (.block 0
  (.loop L10_0)))
 (.seq
 (.seq
 (.reg false [
   ⟨(some 99), (.mv (.t 4)), none⟩,
   ⟨(some 100), (.bin .eql 3 false true (.t 99) (.c (.val (.int .i64 0)))), none⟩] [])
 (.cond (.t 100)
  (.seq
  (.reg false [
    ⟨(some 101), (.build [(.val (.int .i64 0)), (.val (.int .i64 0)), (.val (.int .i64 0)), (.val (.int .i64 0))] [(0, 1, (.c (.val (.int .i64 1))))]), none⟩,
    ⟨(some 102), (.bsl 4 1 [(.val (.int .i64 0)), (.val (.int .i64 0)), (.val (.int .i64 0)), (.val (.int .i64 0))] [(0, 4, (.t 101))]), none⟩,
    ⟨(some 2), (.mv (.t 102)), none⟩] [])
  .ret)
  .skip))
 (.seq
 (.block 2
  (.loop L10_1))
 (.seq
 (.reg false [
   ⟨(some 111), (.mv (.t 3)), none⟩,
   ⟨(some 2), (.mv (.t 111)), none⟩] [])
 .ret))))))),
 [.tmp 2]⟩

/-- cenotaph/cenotaphref05.Spot -/
def c11 : CF := ⟨
 (.seq
 (.reg false [
   ⟨(some 1), (.box (.t 0)), none⟩,
   ⟨(some 2), (.alloc [(.val (.int .i64 0)), (.val (.int .i64 0))]), none⟩] [])
 (.seq
 (.reg false [
   ⟨(some 3), (.fad 0 (.t 1)), none⟩,
   ⟨(some 4), (.ld 1 false (.t 3)), none⟩,
   ⟨(some 5), (.cv 3 53 (.t 4)), none⟩,
   ⟨(some 6), (.bin .rem 53 false true (.t 5) (.c (.val (.int .u64 2001)))), none⟩,
   ⟨(some 7), (.cv 53 3 (.t 6)), none⟩,
   ⟨(some 8), (.bin .sub 3 false true (.t 7) (.c (.val (.int .i64 1000)))), none⟩,
   ⟨(some 9), (.fad 1 (.t 1)), none⟩,
   ⟨(some 10), (.ld 1 false (.t 9)), none⟩,
   ⟨(some 11), (.cv 3 53 (.t 10)), none⟩,
   ⟨(some 12), (.bin .rem 53 false true (.t 11) (.c (.val (.int .u64 2001)))), none⟩,
   ⟨(some 13), (.cv 53 3 (.t 12)), none⟩,
   ⟨(some 14), (.bin .sub 3 false true (.t 13) (.c (.val (.int .i64 1000)))), none⟩,
   ⟨(some 15), (.build [(.val (.int .i64 0)), (.val (.int .i64 0))] [(0, 1, (.t 8)), (1, 1, (.t 14))]), none⟩,
   ⟨none, (.st 2 (.t 2) (.t 15)), none⟩] [])
 .ret)),
 [.cell 2 2 true]⟩

/-- cenotaph/cenotaphlaw05.told -/
def c12 : CF := ⟨
 (.seq
 (.reg false [
   ⟨(some 0), (.mv (.c (.val (.bool false)))), none⟩] [])
 (.seq
 (.reg false [
   ⟨(some 4), (.call (.c (.fn 23 [])) [(.c (.val (.string ⟨#[100, 105, 115, 99, 32, 48, 32, 48, 32, 53, 44, 104, 97, 108, 102, 32, 49, 32, 48, 32, 51, 44, 97, 110, 100]⟩)))]), none⟩,
   ⟨(some 3), (.mv (.t 4)), none⟩,
   ⟨(some 5), (.ext (.t 3) 0), none⟩,
   ⟨(some 6), (.ext (.t 3) 1), none⟩,
   ⟨(some 1), (.mv (.t 5)), none⟩,
   ⟨(some 2), (.mv (.t 6)), none⟩] [])
 (.seq
 (.reg false [
   ⟨(some 7), (.mv (.t 2)), none⟩,
   ⟨(some 8), (.mv (.t 7)), none⟩,
   ⟨(some 9), (.mv (.t 1)), (some (8, true))⟩,
   ⟨(some 10), (.call (.c (.fn 15 [])) [(.t 9), (.c (.val (.complex .f64 4613937818241073152 4616189618054758400)))]), (some (8, true))⟩,
   ⟨(some 11), (.pick (.t 8) (.t 10) (.c (.val (.bool false)))), none⟩,
   ⟨(some 12), (.mv (.t 11)), none⟩,
   ⟨(some 13), (.mv (.t 1)), (some (12, true))⟩,
   ⟨(some 14), (.call (.c (.fn 15 [])) [(.t 13), (.c (.val (.complex .f64 4616189618054758400 4616189618054758400)))]), (some (12, true))⟩,
   ⟨(some 15), (.un .not (.t 14)), (some (12, true))⟩,
   ⟨(some 16), (.pick (.t 12) (.t 15) (.c (.val (.bool false)))), none⟩,
   ⟨(some 17), (.mv (.t 16)), none⟩,
   ⟨(some 18), (.mv (.t 1)), (some (17, true))⟩,
   ⟨(some 19), (.call (.c (.fn 15 [])) [(.t 18), (.c (.val (.complex .f64 4611686018427387904 0)))]), (some (17, true))⟩,
   ⟨(some 20), (.un .not (.t 19)), (some (17, true))⟩,
   ⟨(some 21), (.pick (.t 17) (.t 20) (.c (.val (.bool false)))), none⟩,
   ⟨(some 22), (.mv (.t 21)), none⟩,
   ⟨(some 23), (.call (.c (.fn 22 [])) []), (some (22, true))⟩,
   ⟨(some 24), (.call (.c (.fn 15 [])) [(.t 23), (.c (.val (.complex .f64 13875379345695965184 4652007308841189376)))]), (some (22, true))⟩,
   ⟨(some 25), (.pick (.t 22) (.t 24) (.c (.val (.bool false)))), none⟩,
   ⟨(some 26), (.mv (.t 25)), none⟩,
   ⟨(some 27), (.mv (.t 1)), (some (26, true))⟩,
   ⟨(some 28), (.call (.c (.fn 25 [])) [(.t 27)]), (some (26, true))⟩,
   ⟨(some 29), (.bin .eql 9 false true (.t 28) (.c (.val (.string ⟨#[100, 105, 115, 99, 32, 48, 32, 48, 32, 53, 44, 104, 97, 108, 102, 32, 49, 32, 48, 32, 51, 44, 97, 110, 100]⟩)))), (some (26, true))⟩,
   ⟨(some 30), (.pick (.t 26) (.t 29) (.c (.val (.bool false)))), none⟩,
   ⟨(some 0), (.mv (.t 30)), none⟩] [])
 .ret))),
 [.tmp 0]⟩

def L13_0 : CC :=
 (.seq
 (.seq
 (.reg false [
   ⟨(some 5), (.mv (.t 4)), none⟩,
   ⟨(some 6), (.mv (.t 0)), none⟩,
   ⟨(some 7), (.len false (.t 6)), none⟩,
   ⟨(some 8), (.bin .lss 3 false false (.t 5) (.t 7)), none⟩] [])
 (.cond (.t 8)
  .skip
  (.exit 0)))
 (.seq
 (.block 1
  (.reg true [
    ⟨(some 11), (.mv (.t 3)), none⟩,
    ⟨(some 12), (.mv (.t 0)), none⟩,
    ⟨(some 13), (.mv (.t 4)), none⟩,
    ⟨(some 14), (.ias 4 (.t 12) (.t 13)), none⟩,
    ⟨(some 15), (.fad 0 (.t 14)), none⟩,
    ⟨(some 16), (.ld 1 false (.t 15)), none⟩,
    ⟨(some 17), (.mv (.t 0)), none⟩,
    ⟨(some 18), (.mv (.t 4)), none⟩,
    ⟨(some 19), (.ias 4 (.t 17) (.t 18)), none⟩,
    ⟨(some 20), (.fad 1 (.t 19)), none⟩,
    ⟨(some 21), (.ld 1 false (.t 20)), none⟩,
    ⟨(some 22), (.mv (.t 0)), none⟩,
    ⟨(some 23), (.mv (.t 4)), none⟩,
    ⟨(some 24), (.ias 4 (.t 22) (.t 23)), none⟩,
    ⟨(some 25), (.fad 2 (.t 24)), none⟩,
    ⟨(some 26), (.ld 1 false (.t 25)), none⟩,
    ⟨(some 27), (.build [(.val (.int .i64 0)), (.val (.int .i64 0))] [(0, 1, (.t 21)), (1, 1, (.t 26))]), none⟩,
    ⟨(some 28), (.call (.c (.fn 16 [])) [(.t 27)]), none⟩,
    ⟨(some 29), (.mv (.t 0)), none⟩,
    ⟨(some 30), (.mv (.t 4)), none⟩,
    ⟨(some 31), (.ias 4 (.t 29) (.t 30)), none⟩,
    ⟨(some 32), (.fad 3 (.t 31)), none⟩,
    ⟨(some 33), (.ld 1 false (.t 32)), none⟩,
    ⟨(some 34), (.cv 3 41 (.t 33)), none⟩,
    ⟨(some 35), (.build [(.val (.int .i64 0)), (.val (.complex .f64 0 0)), (.val (.float .f64 0))] [(0, 1, (.t 16)), (1, 1, (.t 28)), (2, 1, (.t 34))]), none⟩,
    ⟨(some 36), (.bsl 3 1 [(.val (.int .i64 0)), (.val (.complex .f64 0 0)), (.val (.float .f64 0))] [(0, 3, (.t 35))]), none⟩,
    ⟨(some 37), (.app 3 (.t 11) (.t 36)), none⟩,
    ⟨(some 3), (.mv (.t 37)), none⟩] [(5, 17), (17, 22)]))
 (.reg false [
   ⟨(some 9), (.mv (.t 4)), none⟩,
   ⟨(some 10), (.bin .add 3 false true (.t 9) (.c (.val (.int .i64 1)))), none⟩,
   ⟨(some 4), (.mv (.t 10)), none⟩] [])))

/-- cenotaph/cenotaphlaw05.To -/
def c13 : CF := ⟨
 (.seq
 (.reg false [
   ⟨(some 2), (.mv (.c (.im [] true))), none⟩] [])
 (.seq
 (.reg false [
   ⟨(some 3), (.mv (.c (.im [] true))), none⟩] [])
 (.seq
 (.seq
 (.reg false [
   ⟨(some 4), (.mv (.c (.val (.int .i64 0)))), none⟩] [])
 (.block 0
  (.loop L13_0)))
 (.seq
 (.reg false [
   ⟨(some 38), (.mv (.t 3)), none⟩,
   ⟨(some 2), (.mv (.t 38)), none⟩] [])
 .ret)))),
 [.tmp 2]⟩

def L14_0 : CC :=
 (.seq
 (.reg false [
   ⟨(some 12), (.bin .lss 3 false false (.t 11) (.t 10)), none⟩] [])
 (.seq
 (.cond (.t 12)
  .skip
  (.exit 0))
 (.seq
 (.block 1
  (.seq
  (.reg false [
    ⟨(some 13), (.ias 3 (.t 9) (.t 11)), none⟩,
    ⟨(some 14), (.ld 3 true (.t 13)), none⟩,
    ⟨(some 5), (.alloc [(.val (.int .i64 0)), (.val (.complex .f64 0 0)), (.val (.float .f64 0))]), none⟩,
    ⟨none, (.st 3 (.t 5) (.t 14)), none⟩] [])
  (.seq
  (.seq
  (.reg false [
    ⟨(some 15), (.ld 3 true (.t 5)), none⟩,
    ⟨(some 16), (.call (.c (.fn 31 [])) [(.t 15)]), none⟩,
    ⟨(some 17), (.un .not (.t 16)), none⟩,
    ⟨(some 18), (.mv (.t 17)), none⟩,
    ⟨(some 19), (.mv (.t 3)), (some (18, false))⟩,
    ⟨(some 20), (.ld 3 true (.t 5)), (some (18, false))⟩,
    ⟨(some 21), (.call (.c (.fn 32 [])) [(.t 20)]), (some (18, false))⟩,
    ⟨(some 22), (.bin .lss 3 false false (.t 19) (.t 21)), (some (18, false))⟩,
    ⟨(some 23), (.pick (.t 18) (.c (.val (.bool true))) (.t 22)), none⟩] [])
  (.cond (.t 23)
   (.seq
   (.reg false [
     ⟨(some 2), (.mv (.c (.val (.bool false)))), none⟩] [])
   .ret)
   .skip))
  (.reg false [
    ⟨(some 24), (.mv (.t 3)), none⟩,
    ⟨(some 25), (.ld 3 true (.t 5)), none⟩,
    ⟨(some 26), (.call (.c (.fn 32 [])) [(.t 25)]), none⟩,
    ⟨(some 27), (.bin .sub 3 true false (.c (.val (.int .i64 1))) (.t 26)), none⟩,
    ⟨(some 28), (.bin .add 3 false false (.t 24) (.t 27)), none⟩,
    ⟨(some 3), (.mv (.t 28)), none⟩] []))))
 (.reg false [
   ⟨(some 29), (.bin .add 3 false true (.t 11) (.c (.val (.int .i64 1)))), none⟩,
   ⟨(some 11), (.mv (.t 29)), none⟩] []))))

/-- cenotaph/zone.Right -/
def c14 : CF := ⟨
 (.seq
 (.reg false [
   ⟨(some 2), (.mv (.c (.val (.bool false)))), none⟩] [])
 (.seq
 (.seq
 (.reg false [
   ⟨(some 6), (.mv (.t 0)), none⟩,
   ⟨(some 7), (.len false (.t 6)), none⟩,
   ⟨(some 8), (.bin .gtr 3 false true (.t 7) (.c (.val (.int .i64 32)))), none⟩] [])
 (.cond (.t 8)
  (.seq
  (.reg false [
    ⟨(some 2), (.mv (.c (.val (.bool false)))), none⟩] [])
  .ret)
  .skip))
 (.seq
 (.reg false [
   ⟨(some 3), (.mv (.c (.val (.int .i64 0)))), none⟩] [])
 (.seq
 (.seq
 (.reg false [
   ⟨(some 9), (.mv (.t 0)), none⟩,
   ⟨(some 10), (.len false (.t 9)), none⟩,
   ⟨(some 11), (.mv (.c (.val (.int .i64 0)))), none⟩] [])
 (.block 0
  (.loop L14_0)))
 (.seq
 (.reg false [
   ⟨(some 30), (.mv (.t 3)), none⟩,
   ⟨(some 31), (.bin .eql 3 false true (.t 30) (.c (.val (.int .i64 1)))), none⟩,
   ⟨(some 2), (.mv (.t 31)), none⟩] [])
 .ret))))),
 [.tmp 2]⟩

def L15_0 : CC :=
 (.seq
 (.reg false [
   ⟨(some 20), (.bin .lss 3 false false (.t 19) (.t 18)), none⟩] [])
 (.seq
 (.cond (.t 20)
  .skip
  (.exit 0))
 (.seq
 (.block 1
  (.seq
  (.reg false [
    ⟨(some 21), (.ias 3 (.t 17) (.t 19)), none⟩,
    ⟨(some 22), (.ld 3 true (.t 21)), none⟩,
    ⟨(some 7), (.alloc [(.val (.int .i64 0)), (.val (.complex .f64 0 0)), (.val (.float .f64 0))]), none⟩,
    ⟨none, (.st 3 (.t 7) (.t 22)), none⟩] [])
  (.seq
  (.reg false [
    ⟨(some 23), (.mv (.t 5)), none⟩,
    ⟨(some 24), (.len false (.t 23)), none⟩,
    ⟨(some 25), (.ld 3 true (.t 7)), none⟩,
    ⟨(some 26), (.call (.c (.fn 32 [])) [(.t 25)]), none⟩,
    ⟨(some 27), (.bin .sub 3 false false (.t 24) (.t 26)), none⟩,
    ⟨(some 8), (.mv (.t 27)), none⟩] [])
  (.reg true [
    ⟨(some 28), (.mv (.t 5)), none⟩,
    ⟨(some 29), (.mv (.t 8)), none⟩,
    ⟨(some 30), (.slc 1 (.t 28) none (some (.t 29)) none), none⟩,
    ⟨(some 31), (.ld 3 true (.t 7)), none⟩,
    ⟨(some 32), (.mv (.t 1)), none⟩,
    ⟨(some 33), (.mv (.t 5)), none⟩,
    ⟨(some 34), (.mv (.t 8)), none⟩,
    ⟨(some 35), (.slc 1 (.t 33) (some (.t 34)) none none), none⟩,
    ⟨(some 36), (.call (.c (.fn 33 [])) [(.t 31), (.t 32), (.t 35)]), none⟩,
    ⟨(some 37), (.bsl 1 1 [(.val (.bool false))] [(0, 1, (.t 36))]), none⟩,
    ⟨(some 38), (.app 1 (.t 30) (.t 37)), none⟩,
    ⟨(some 5), (.mv (.t 38)), none⟩] [(2, 8), (2, 9)]))))
 (.reg false [
   ⟨(some 39), (.bin .add 3 false true (.t 19) (.c (.val (.int .i64 1)))), none⟩,
   ⟨(some 19), (.mv (.t 39)), none⟩] []))))

/-- cenotaph/zone.Has -/
def c15 : CF := ⟨
 (.seq
 (.reg false [
   ⟨(some 4), (.mv (.c (.val (.bool false)))), none⟩] [])
 (.seq
 (.seq
 (.reg false [
   ⟨(some 9), (.mv (.t 0)), none⟩,
   ⟨(some 10), (.call (.c (.fn 14 [])) [(.t 9)]), none⟩,
   ⟨(some 11), (.un .not (.t 10)), none⟩,
   ⟨(some 12), (.mv (.t 11)), none⟩,
   ⟨(some 13), (.mv (.t 1)), (some (12, false))⟩,
   ⟨(some 14), (.call (.c (.fn 18 [])) [(.t 13)]), (some (12, false))⟩,
   ⟨(some 15), (.un .not (.t 14)), (some (12, false))⟩,
   ⟨(some 16), (.pick (.t 12) (.c (.val (.bool true))) (.t 15)), none⟩] [])
 (.cond (.t 16)
  (.seq
  (.reg false [
    ⟨(some 4), (.mv (.c (.val (.bool false)))), none⟩] [])
  .ret)
  .skip))
 (.seq
 (.reg false [
   ⟨(some 5), (.mv (.c (.im [] true))), none⟩] [])
 (.seq
 (.seq
 (.reg false [
   ⟨(some 17), (.mv (.t 0)), none⟩,
   ⟨(some 18), (.len false (.t 17)), none⟩,
   ⟨(some 19), (.mv (.c (.val (.int .i64 0)))), none⟩] [])
 (.block 0
  (.loop L15_0)))
 (.seq
 (.reg false [
   ⟨(some 40), (.mv (.t 5)), none⟩,
   ⟨(some 41), (.ias 1 (.t 40) (.c (.val (.int .i64 0)))), none⟩,
   ⟨(some 42), (.ld 1 false (.t 41)), none⟩,
   ⟨(some 4), (.mv (.t 42)), none⟩] [])
 .ret))))),
 [.tmp 4]⟩

/-- cenotaph/cenotaphlaw05.Spot -/
def c16 : CF := ⟨
 (.seq
 (.reg false [
   ⟨(some 1), (.box (.t 0)), none⟩,
   ⟨(some 2), (.mv (.c (.val (.complex .f64 0 0)))), none⟩] [])
 (.seq
 (.reg false [
   ⟨(some 3), (.fad 0 (.t 1)), none⟩,
   ⟨(some 4), (.ld 1 false (.t 3)), none⟩,
   ⟨(some 5), (.cv 3 41 (.t 4)), none⟩,
   ⟨(some 6), (.fad 1 (.t 1)), none⟩,
   ⟨(some 7), (.ld 1 false (.t 6)), none⟩,
   ⟨(some 8), (.cv 3 41 (.t 7)), none⟩,
   ⟨(some 9), (.fun_ .complex #[41, 41] 33 [(.t 5), (.t 8)]), none⟩,
   ⟨(some 2), (.mv (.t 9)), none⟩] [])
 .ret)),
 [.tmp 2]⟩

def L17_0 : CC :=
 (.seq
 (.seq
 (.reg false [
   ⟨(some 17), (.mv (.t 6)), none⟩,
   ⟨(some 18), (.mv (.t 0)), none⟩,
   ⟨(some 19), (.len false (.t 18)), none⟩,
   ⟨(some 20), (.bin .lss 3 false false (.t 17) (.t 19)), none⟩] [])
 (.cond (.t 20)
  .skip
  (.exit 0)))
 (.seq
 (.block 1
  (.seq
  (.reg false [
    ⟨(some 23), (.mv (.t 0)), none⟩,
    ⟨(some 24), (.mv (.t 6)), none⟩,
    ⟨(some 25), (.ias 4 (.t 23) (.t 24)), none⟩,
    ⟨(some 26), (.ld 4 true (.t 25)), none⟩,
    ⟨(some 7), (.alloc [(.val (.int .i64 0)), (.val (.int .i64 0)), (.val (.int .i64 0)), (.val (.int .i64 0))]), none⟩,
    ⟨none, (.st 4 (.t 7) (.t 26)), none⟩] [])
  (.seq
  (.reg false [
    ⟨(some 27), (.mv (.t 5)), none⟩,
    ⟨(some 28), (.len false (.t 27)), none⟩,
    ⟨(some 8), (.mv (.t 28)), none⟩] [])
  (.seq
  (.reg false [
    ⟨(some 29), (.fad 0 (.t 7)), none⟩,
    ⟨(some 30), (.ld 1 false (.t 29)), none⟩] [])
  (.block 2
   (.seq
   (.reg false [
     ⟨(some 32), (.bin .eql 3 false true (.t 30) (.c (.val (.int .i64 1)))), none⟩,
     ⟨(some 31), (.mv (.t 32)), none⟩] [])
   (.cond (.t 31)
    (.reg false [
      ⟨(some 33), (.mv (.t 5)), none⟩,
      ⟨(some 34), (.bsl 1 1 [(.val (.bool false))] [(0, 1, (.c (.val (.bool true))))]), none⟩,
      ⟨(some 35), (.app 1 (.t 33) (.t 34)), none⟩,
      ⟨(some 5), (.mv (.t 35)), none⟩] [])
    (.seq
    (.reg false [
      ⟨(some 37), (.bin .eql 3 false true (.t 30) (.c (.val (.int .i64 2)))), none⟩,
      ⟨(some 36), (.mv (.t 37)), none⟩] [])
    (.cond (.t 36)
     (.reg false [
       ⟨(some 38), (.mv (.t 5)), none⟩,
       ⟨(some 39), (.fad 0 (.t 3)), none⟩,
       ⟨(some 40), (.ld 1 false (.t 39)), none⟩,
       ⟨(some 41), (.fad 1 (.t 7)), none⟩,
       ⟨(some 42), (.ld 1 false (.t 41)), none⟩,
       ⟨(some 43), (.bin .sub 3 false false (.t 40) (.t 42)), none⟩,
       ⟨(some 44), (.fad 0 (.t 3)), none⟩,
       ⟨(some 45), (.ld 1 false (.t 44)), none⟩,
       ⟨(some 46), (.fad 1 (.t 7)), none⟩,
       ⟨(some 47), (.ld 1 false (.t 46)), none⟩,
       ⟨(some 48), (.bin .sub 3 false false (.t 45) (.t 47)), none⟩,
       ⟨(some 49), (.bin .mul 3 false false (.t 43) (.t 48)), none⟩,
       ⟨(some 50), (.fad 1 (.t 3)), none⟩,
       ⟨(some 51), (.ld 1 false (.t 50)), none⟩,
       ⟨(some 52), (.fad 2 (.t 7)), none⟩,
       ⟨(some 53), (.ld 1 false (.t 52)), none⟩,
       ⟨(some 54), (.bin .sub 3 false false (.t 51) (.t 53)), none⟩,
       ⟨(some 55), (.fad 1 (.t 3)), none⟩,
       ⟨(some 56), (.ld 1 false (.t 55)), none⟩,
       ⟨(some 57), (.fad 2 (.t 7)), none⟩,
       ⟨(some 58), (.ld 1 false (.t 57)), none⟩,
       ⟨(some 59), (.bin .sub 3 false false (.t 56) (.t 58)), none⟩,
       ⟨(some 60), (.bin .mul 3 false false (.t 54) (.t 59)), none⟩,
       ⟨(some 61), (.bin .add 3 false false (.t 49) (.t 60)), none⟩,
       ⟨(some 62), (.fad 3 (.t 7)), none⟩,
       ⟨(some 63), (.ld 1 false (.t 62)), none⟩,
       ⟨(some 64), (.fad 3 (.t 7)), none⟩,
       ⟨(some 65), (.ld 1 false (.t 64)), none⟩,
       ⟨(some 66), (.bin .mul 3 false false (.t 63) (.t 65)), none⟩,
       ⟨(some 67), (.bin .leq 3 false false (.t 61) (.t 66)), none⟩,
       ⟨(some 68), (.bsl 1 1 [(.val (.bool false))] [(0, 1, (.t 67))]), none⟩,
       ⟨(some 69), (.app 1 (.t 38) (.t 68)), none⟩,
       ⟨(some 5), (.mv (.t 69)), none⟩] [])
     (.seq
     (.reg false [
       ⟨(some 71), (.bin .eql 3 false true (.t 30) (.c (.val (.int .i64 3)))), none⟩,
       ⟨(some 70), (.mv (.t 71)), none⟩] [])
     (.cond (.t 70)
      (.reg false [
        ⟨(some 72), (.mv (.t 5)), none⟩,
        ⟨(some 73), (.fad 0 (.t 3)), none⟩,
        ⟨(some 74), (.ld 1 false (.t 73)), none⟩,
        ⟨(some 75), (.fad 1 (.t 7)), none⟩,
        ⟨(some 76), (.ld 1 false (.t 75)), none⟩,
        ⟨(some 77), (.bin .mul 3 false false (.t 74) (.t 76)), none⟩,
        ⟨(some 78), (.fad 1 (.t 3)), none⟩,
        ⟨(some 79), (.ld 1 false (.t 78)), none⟩,
        ⟨(some 80), (.fad 2 (.t 7)), none⟩,
        ⟨(some 81), (.ld 1 false (.t 80)), none⟩,
        ⟨(some 82), (.bin .mul 3 false false (.t 79) (.t 81)), none⟩,
        ⟨(some 83), (.bin .add 3 false false (.t 77) (.t 82)), none⟩,
        ⟨(some 84), (.fad 3 (.t 7)), none⟩,
        ⟨(some 85), (.ld 1 false (.t 84)), none⟩,
        ⟨(some 86), (.bin .geq 3 false false (.t 83) (.t 85)), none⟩,
        ⟨(some 87), (.bsl 1 1 [(.val (.bool false))] [(0, 1, (.t 86))]), none⟩,
        ⟨(some 88), (.app 1 (.t 72) (.t 87)), none⟩,
        ⟨(some 5), (.mv (.t 88)), none⟩] [])
      (.seq
      (.reg false [
        ⟨(some 90), (.bin .eql 3 false true (.t 30) (.c (.val (.int .i64 4)))), none⟩,
        ⟨(some 89), (.mv (.t 90)), none⟩] [])
      (.cond (.t 89)
       (.reg false [
         ⟨(some 91), (.mv (.t 5)), none⟩,
         ⟨(some 92), (.mv (.t 8)), none⟩,
         ⟨(some 93), (.bin .sub 3 false true (.t 92) (.c (.val (.int .i64 1)))), none⟩,
         ⟨(some 94), (.mv (.t 5)), none⟩,
         ⟨(some 95), (.mv (.t 8)), none⟩,
         ⟨(some 96), (.bin .sub 3 false true (.t 95) (.c (.val (.int .i64 1)))), none⟩,
         ⟨(some 97), (.ias 1 (.t 94) (.t 96)), none⟩,
         ⟨(some 98), (.ld 1 false (.t 97)), none⟩,
         ⟨(some 99), (.un .not (.t 98)), none⟩,
         ⟨(some 100), (.ias 1 (.t 91) (.t 93)), none⟩,
         ⟨none, (.st 1 (.t 100) (.t 99)), none⟩] [])
       (.seq
       (.reg false [
         ⟨(some 102), (.bin .eql 3 false true (.t 30) (.c (.val (.int .i64 5)))), none⟩,
         ⟨(some 101), (.mv (.t 102)), none⟩] [])
       (.cond (.t 101)
        (.reg true [
          ⟨(some 103), (.mv (.t 5)), none⟩,
          ⟨(some 104), (.mv (.t 8)), none⟩,
          ⟨(some 105), (.bin .sub 3 false true (.t 104) (.c (.val (.int .i64 2)))), none⟩,
          ⟨(some 106), (.slc 1 (.t 103) none (some (.t 105)) none), none⟩,
          ⟨(some 107), (.mv (.t 5)), none⟩,
          ⟨(some 108), (.mv (.t 8)), none⟩,
          ⟨(some 109), (.bin .sub 3 false true (.t 108) (.c (.val (.int .i64 2)))), none⟩,
          ⟨(some 110), (.ias 1 (.t 107) (.t 109)), none⟩,
          ⟨(some 111), (.ld 1 false (.t 110)), none⟩,
          ⟨(some 112), (.mv (.t 111)), none⟩,
          ⟨(some 113), (.mv (.t 5)), (some (112, true))⟩,
          ⟨(some 114), (.mv (.t 8)), (some (112, true))⟩,
          ⟨(some 115), (.bin .sub 3 false true (.t 114) (.c (.val (.int .i64 1)))), (some (112, true))⟩,
          ⟨(some 116), (.ias 1 (.t 113) (.t 115)), (some (112, true))⟩,
          ⟨(some 117), (.ld 1 false (.t 116)), (some (112, true))⟩,
          ⟨(some 118), (.pick (.t 112) (.t 117) (.c (.val (.bool false)))), none⟩,
          ⟨(some 119), (.bsl 1 1 [(.val (.bool false))] [(0, 1, (.t 118))]), none⟩,
          ⟨(some 120), (.app 1 (.t 106) (.t 119)), none⟩,
          ⟨(some 5), (.mv (.t 120)), none⟩] [(3, 16)])
        (.seq
        (.reg false [
          ⟨(some 122), (.bin .eql 3 false true (.t 30) (.c (.val (.int .i64 6)))), none⟩,
          ⟨(some 121), (.mv (.t 122)), none⟩] [])
        (.cond (.t 121)
         (.reg true [
           ⟨(some 123), (.mv (.t 5)), none⟩,
           ⟨(some 124), (.mv (.t 8)), none⟩,
           ⟨(some 125), (.bin .sub 3 false true (.t 124) (.c (.val (.int .i64 2)))), none⟩,
           ⟨(some 126), (.slc 1 (.t 123) none (some (.t 125)) none), none⟩,
           ⟨(some 127), (.mv (.t 5)), none⟩,
           ⟨(some 128), (.mv (.t 8)), none⟩,
           ⟨(some 129), (.bin .sub 3 false true (.t 128) (.c (.val (.int .i64 2)))), none⟩,
           ⟨(some 130), (.ias 1 (.t 127) (.t 129)), none⟩,
           ⟨(some 131), (.ld 1 false (.t 130)), none⟩,
           ⟨(some 132), (.mv (.t 131)), none⟩,
           ⟨(some 133), (.mv (.t 5)), (some (132, false))⟩,
           ⟨(some 134), (.mv (.t 8)), (some (132, false))⟩,
           ⟨(some 135), (.bin .sub 3 false true (.t 134) (.c (.val (.int .i64 1)))), (some (132, false))⟩,
           ⟨(some 136), (.ias 1 (.t 133) (.t 135)), (some (132, false))⟩,
           ⟨(some 137), (.ld 1 false (.t 136)), (some (132, false))⟩,
           ⟨(some 138), (.pick (.t 132) (.c (.val (.bool true))) (.t 137)), none⟩,
           ⟨(some 139), (.bsl 1 1 [(.val (.bool false))] [(0, 1, (.t 138))]), none⟩,
           ⟨(some 140), (.app 1 (.t 126) (.t 139)), none⟩,
           ⟨(some 5), (.mv (.t 140)), none⟩] [(3, 16)])
         .skip)))))))))))))))))
 (.reg false [
   ⟨(some 21), (.mv (.t 6)), none⟩,
   ⟨(some 22), (.bin .add 3 false true (.t 21) (.c (.val (.int .i64 1)))), none⟩,
   ⟨(some 6), (.mv (.t 22)), none⟩] [])))

/-- cenotaph/cenotaphref05.Has -/
def c17 : CF := ⟨
 (.seq
 (.reg false [
   ⟨(some 3), (.box (.t 1)), none⟩,
   ⟨(some 4), (.mv (.c (.val (.bool false)))), none⟩] [])
 (.seq
 (.seq
 (.reg false [
   ⟨(some 9), (.mv (.t 0)), none⟩,
   ⟨(some 10), (.call (.c (.fn 27 [])) [(.t 9)]), none⟩,
   ⟨(some 11), (.un .not (.t 10)), none⟩,
   ⟨(some 12), (.mv (.t 11)), none⟩,
   ⟨(some 13), (.ld 2 true (.t 3)), (some (12, false))⟩,
   ⟨(some 14), (.call (.c (.fn 19 [])) [(.t 13)]), (some (12, false))⟩,
   ⟨(some 15), (.un .not (.t 14)), (some (12, false))⟩,
   ⟨(some 16), (.pick (.t 12) (.c (.val (.bool true))) (.t 15)), none⟩] [])
 (.cond (.t 16)
  (.seq
  (.reg false [
    ⟨(some 4), (.mv (.c (.val (.bool false)))), none⟩] [])
  .ret)
  .skip))
 (.seq
 (.reg false [
   ⟨(some 5), (.mv (.c (.im [] true))), none⟩] [])
 (.seq
 (.seq
 (.reg false [
   ⟨(some 6), (.mv (.c (.val (.int .i64 0)))), none⟩] [])
 (.block 0
  (.loop L17_0)))
 (.seq
 (.reg false [
   ⟨(some 141), (.mv (.t 5)), none⟩,
   ⟨(some 142), (.ias 1 (.t 141) (.c (.val (.int .i64 0)))), none⟩,
   ⟨(some 143), (.ld 1 false (.t 142)), none⟩,
   ⟨(some 4), (.mv (.t 143)), none⟩] [])
 .ret))))),
 [.tmp 4]⟩

/-- cenotaph/zone.Whole -/
def c18 : CF := ⟨
 (.seq
 (.reg false [
   ⟨(some 2), (.mv (.c (.val (.bool false)))), none⟩] [])
 (.seq
 (.reg false [
   ⟨(some 3), (.mv (.t 0)), none⟩,
   ⟨(some 4), (.fun_ .real #[33] 41 [(.t 3)]), none⟩,
   ⟨(some 5), (.call (.c (.fn 34 [])) [(.t 4), (.c (.val (.float .f64 13875379345695965184))), (.c (.val (.float .f64 4652007308841189376)))]), none⟩,
   ⟨(some 6), (.mv (.t 5)), none⟩,
   ⟨(some 7), (.mv (.t 0)), (some (6, true))⟩,
   ⟨(some 8), (.fun_ .imag #[33] 41 [(.t 7)]), (some (6, true))⟩,
   ⟨(some 9), (.call (.c (.fn 34 [])) [(.t 8), (.c (.val (.float .f64 13875379345695965184))), (.c (.val (.float .f64 4652007308841189376)))]), (some (6, true))⟩,
   ⟨(some 10), (.pick (.t 6) (.t 9) (.c (.val (.bool false)))), none⟩,
   ⟨(some 2), (.mv (.t 10)), none⟩] [])
 .ret)),
 [.tmp 2]⟩

/-- cenotaph/cenotaphref05.Whole -/
def c19 : CF := ⟨
 (.seq
 (.reg false [
   ⟨(some 1), (.box (.t 0)), none⟩,
   ⟨(some 2), (.mv (.c (.val (.bool false)))), none⟩] [])
 (.seq
 (.reg false [
   ⟨(some 3), (.fad 0 (.t 1)), none⟩,
   ⟨(some 4), (.ld 1 false (.t 3)), none⟩,
   ⟨(some 5), (.call (.c (.fn 35 [])) [(.t 4), (.c (.val (.int .i64 1000)))]), none⟩,
   ⟨(some 6), (.mv (.t 5)), none⟩,
   ⟨(some 7), (.fad 1 (.t 1)), (some (6, true))⟩,
   ⟨(some 8), (.ld 1 false (.t 7)), (some (6, true))⟩,
   ⟨(some 9), (.call (.c (.fn 35 [])) [(.t 8), (.c (.val (.int .i64 1000)))]), (some (6, true))⟩,
   ⟨(some 10), (.pick (.t 6) (.t 9) (.c (.val (.bool false)))), none⟩,
   ⟨(some 2), (.mv (.t 10)), none⟩] [])
 .ret)),
 [.tmp 2]⟩

def L20_0 : CC :=
 (.seq
 (.seq
 (.reg false [
   ⟨(some 11), (.mv (.t 5)), none⟩,
   ⟨(some 12), (.mv (.t 0)), none⟩,
   ⟨(some 13), (.len false (.t 12)), none⟩,
   ⟨(some 14), (.bin .lss 3 false false (.t 11) (.t 13)), none⟩] [])
 (.cond (.t 14)
  .skip
  (.exit 0)))
 (.seq
 (.block 1
  (.seq
  (.reg true [
    ⟨(some 17), (.mv (.t 0)), none⟩,
    ⟨(some 18), (.mv (.t 5)), none⟩,
    ⟨(some 19), (.ias 4 (.t 17) (.t 18)), none⟩,
    ⟨(some 20), (.ld 4 true (.t 19)), none⟩,
    ⟨(some 21), (.mv (.t 1)), none⟩,
    ⟨(some 22), (.mv (.t 5)), none⟩,
    ⟨(some 23), (.ias 4 (.t 21) (.t 22)), none⟩,
    ⟨(some 24), (.ld 4 true (.t 23)), none⟩,
    ⟨(some 25), (.bin .neq 59 false false (.t 20) (.t 24)), none⟩] [])
  (.cond (.t 25)
   (.seq
   (.reg false [
     ⟨(some 4), (.mv (.c (.val (.bool false)))), none⟩] [])
   .ret)
   .skip)))
 (.reg false [
   ⟨(some 15), (.mv (.t 5)), none⟩,
   ⟨(some 16), (.bin .add 3 false true (.t 15) (.c (.val (.int .i64 1)))), none⟩,
   ⟨(some 5), (.mv (.t 16)), none⟩] [])))

/-- cenotaph/cenotaphref05.Same -/
def c20 : CF := ⟨
 (.seq
 (.reg false [
   ⟨(some 4), (.mv (.c (.val (.bool false)))), none⟩] [])
 (.seq
 (.seq
 (.reg false [
   ⟨(some 6), (.mv (.t 0)), none⟩,
   ⟨(some 7), (.len false (.t 6)), none⟩,
   ⟨(some 8), (.mv (.t 1)), none⟩,
   ⟨(some 9), (.len false (.t 8)), none⟩,
   ⟨(some 10), (.bin .neq 3 false false (.t 7) (.t 9)), none⟩] [])
 (.cond (.t 10)
  (.seq
  (.reg false [
    ⟨(some 4), (.mv (.c (.val (.bool false)))), none⟩] [])
  .ret)
  .skip))
 (.seq
 (.seq
 (.reg false [
   ⟨(some 5), (.mv (.c (.val (.int .i64 0)))), none⟩] [])
 (.block 0
  (.loop L20_0)))
 (.seq
 (.reg false [
   ⟨(some 4), (.mv (.c (.val (.bool true)))), none⟩] [])
 .ret)))),
 [.tmp 4]⟩

def L21_0 : CC :=
 (.seq
 (.seq
 (.reg false [
   ⟨(some 6), (.mv (.t 4)), none⟩,
   ⟨(some 7), (.mv (.t 0)), none⟩,
   ⟨(some 8), (.len false (.t 7)), none⟩,
   ⟨(some 9), (.bin .lss 3 false false (.t 6) (.t 8)), none⟩] [])
 (.cond (.t 9)
  .skip
  (.exit 0)))
 (.seq
 (.block 1
  (.seq
  (.reg false [
    ⟨(some 12), (.mv (.t 0)), none⟩,
    ⟨(some 13), (.mv (.t 4)), none⟩,
    ⟨(some 14), (.ias 3 (.t 12) (.t 13)), none⟩,
    ⟨(some 15), (.fad 1 (.t 14)), none⟩,
    ⟨(some 16), (.ld 1 false (.t 15)), none⟩,
    ⟨(some 17), (.call (.c (.fn 36 [])) [(.t 16)]), none⟩,
    ⟨(some 5), (.alloc [(.val (.int .i64 0)), (.val (.int .i64 0))]), none⟩,
    ⟨none, (.st 2 (.t 5) (.t 17)), none⟩] [])
  (.reg true [
    ⟨(some 18), (.mv (.t 3)), none⟩,
    ⟨(some 19), (.mv (.t 0)), none⟩,
    ⟨(some 20), (.mv (.t 4)), none⟩,
    ⟨(some 21), (.ias 3 (.t 19) (.t 20)), none⟩,
    ⟨(some 22), (.fad 0 (.t 21)), none⟩,
    ⟨(some 23), (.ld 1 false (.t 22)), none⟩,
    ⟨(some 24), (.fad 0 (.t 5)), none⟩,
    ⟨(some 25), (.ld 1 false (.t 24)), none⟩,
    ⟨(some 26), (.fad 1 (.t 5)), none⟩,
    ⟨(some 27), (.ld 1 false (.t 26)), none⟩,
    ⟨(some 28), (.mv (.t 0)), none⟩,
    ⟨(some 29), (.mv (.t 4)), none⟩,
    ⟨(some 30), (.ias 3 (.t 28) (.t 29)), none⟩,
    ⟨(some 31), (.fad 2 (.t 30)), none⟩,
    ⟨(some 32), (.ld 1 false (.t 31)), none⟩,
    ⟨(some 33), (.cv 41 3 (.t 32)), none⟩,
    ⟨(some 34), (.build [(.val (.int .i64 0)), (.val (.int .i64 0)), (.val (.int .i64 0)), (.val (.int .i64 0))] [(0, 1, (.t 23)), (1, 1, (.t 25)), (2, 1, (.t 27)), (3, 1, (.t 33))]), none⟩,
    ⟨(some 35), (.bsl 4 1 [(.val (.int .i64 0)), (.val (.int .i64 0)), (.val (.int .i64 0)), (.val (.int .i64 0))] [(0, 4, (.t 34))]), none⟩,
    ⟨(some 36), (.app 4 (.t 18) (.t 35)), none⟩,
    ⟨(some 3), (.mv (.t 36)), none⟩] [])))
 (.reg false [
   ⟨(some 10), (.mv (.t 4)), none⟩,
   ⟨(some 11), (.bin .add 3 false true (.t 10) (.c (.val (.int .i64 1)))), none⟩,
   ⟨(some 4), (.mv (.t 11)), none⟩] [])))

/-- cenotaph/cenotaphlaw05.From -/
def c21 : CF := ⟨
 (.seq
 (.reg false [
   ⟨(some 2), (.mv (.c (.im [] true))), none⟩] [])
 (.seq
 (.reg false [
   ⟨(some 3), (.mv (.c (.im [] true))), none⟩] [])
 (.seq
 (.seq
 (.reg false [
   ⟨(some 4), (.mv (.c (.val (.int .i64 0)))), none⟩] [])
 (.block 0
  (.loop L21_0)))
 (.seq
 (.reg false [
   ⟨(some 37), (.mv (.t 3)), none⟩,
   ⟨(some 2), (.mv (.t 37)), none⟩] [])
 .ret)))),
 [.tmp 2]⟩

/-- cenotaph/zone.Everywhere -/
def c22 : CF := ⟨
 (.seq
 (.reg false [
   ⟨(some 0), (.mv (.c (.im [] true))), none⟩] [])
 (.seq
 (.reg false [
   ⟨(some 1), (.build [(.val (.int .i64 0)), (.val (.complex .f64 0 0)), (.val (.float .f64 0))] [(0, 1, (.c (.val (.int .i64 1))))]), none⟩,
   ⟨(some 2), (.bsl 3 1 [(.val (.int .i64 0)), (.val (.complex .f64 0 0)), (.val (.float .f64 0))] [(0, 3, (.t 1))]), none⟩,
   ⟨(some 0), (.mv (.t 2)), none⟩] [])
 .ret)),
 [.tmp 0]⟩

def L23_0 : CC :=
 (.seq
 (.reg false [
   ⟨(some 11), (.bin .lss 3 false false (.t 10) (.t 9)), none⟩] [])
 (.seq
 (.cond (.t 11)
  .skip
  (.exit 0))
 (.seq
 (.block 1
  (.seq
  (.reg false [
    ⟨(some 12), (.ias 1 (.t 8) (.t 10)), none⟩,
    ⟨(some 13), (.ld 1 false (.t 12)), none⟩,
    ⟨(some 6), (.mv (.t 13)), none⟩] [])
  (.reg false [
    ⟨(some 14), (.mv (.t 4)), none⟩,
    ⟨(some 15), (.mv (.t 6)), none⟩,
    ⟨(some 16), (.call (.c (.fn 38 [])) [(.t 15)]), none⟩,
    ⟨(some 17), (.bsl 3 1 [(.val (.int .i64 0)), (.val (.complex .f64 0 0)), (.val (.float .f64 0))] [(0, 3, (.t 16))]), none⟩,
    ⟨(some 18), (.app 3 (.t 14) (.t 17)), none⟩,
    ⟨(some 4), (.mv (.t 18)), none⟩] [])))
 (.reg false [
   ⟨(some 19), (.bin .add 3 false true (.t 10) (.c (.val (.int .i64 1)))), none⟩,
   ⟨(some 10), (.mv (.t 19)), none⟩] []))))

/-- cenotaph/zone.Parse -/
def c23 : CF := ⟨
 (.seq
 (.reg false [
   ⟨(some 2), (.mv (.c (.im [] true))), none⟩,
   ⟨(some 3), (.mv (.c (.val (.bool false)))), none⟩] [])
 (.seq
 (.reg false [
   ⟨(some 4), (.mv (.c (.im [] true))), none⟩] [])
 (.seq
 (.seq
 (.reg false [
   ⟨(some 7), (.mv (.t 0)), none⟩,
   ⟨(some 8), (.call (.c (.fn 37 [])) [(.t 7), (.c (.val (.string ⟨#[44]⟩)))]), none⟩,
   ⟨(some 9), (.len false (.t 8)), none⟩,
   ⟨(some 10), (.mv (.c (.val (.int .i64 0)))), none⟩] [])
 (.block 0
  (.loop L23_0)))
 (.seq
 (.seq
 (.reg false [
   ⟨(some 20), (.mv (.t 4)), none⟩,
   ⟨(some 21), (.call (.c (.fn 25 [])) [(.t 20)]), none⟩,
   ⟨(some 22), (.mv (.t 0)), none⟩,
   ⟨(some 23), (.bin .neq 9 false false (.t 21) (.t 22)), none⟩,
   ⟨(some 24), (.mv (.t 23)), none⟩,
   ⟨(some 25), (.mv (.t 0)), (some (24, false))⟩,
   ⟨(some 26), (.bin .eql 9 false true (.t 25) (.c (.val (.string ⟨#[]⟩)))), (some (24, false))⟩,
   ⟨(some 27), (.pick (.t 24) (.c (.val (.bool true))) (.t 26)), none⟩] [])
 (.cond (.t 27)
  (.seq
  (.reg false [
    ⟨(some 2), (.mv (.c (.im [] true))), none⟩,
    ⟨(some 3), (.mv (.c (.val (.bool false)))), none⟩] [])
  .ret)
  .skip))
 (.seq
 (.reg false [
   ⟨(some 28), (.mv (.t 4)), none⟩,
   ⟨(some 2), (.mv (.t 28)), none⟩,
   ⟨(some 3), (.mv (.c (.val (.bool true)))), none⟩] [])
 .ret))))),
 [.tmp 2, .tmp 3]⟩

def L24_0 : CC :=
 (.seq
 (.seq
 (.reg false [
   ⟨(some 32), (.mv (.t 10)), none⟩,
   ⟨(some 33), (.mv (.t 4)), none⟩,
   ⟨(some 34), (.len false (.t 33)), none⟩,
   ⟨(some 35), (.bin .lss 3 false false (.t 32) (.t 34)), none⟩] [])
 (.cond (.t 35)
  .skip
  (.exit 2)))
 (.seq
 (.block 3
  (.seq
  (.reg true [
    ⟨(some 38), (.mv (.t 4)), none⟩,
    ⟨(some 39), (.mv (.t 10)), none⟩,
    ⟨(some 40), (.ias 1 (.t 38) (.t 39)), none⟩,
    ⟨(some 41), (.ld 1 false (.t 40)), none⟩,
    ⟨(some 42), (.mv (.t 8)), none⟩,
    ⟨(some 43), (.ias 1 (.t 42) (.c (.val (.int .i64 0)))), none⟩,
    ⟨(some 44), (.ld 1 false (.t 43)), none⟩,
    ⟨(some 45), (.bin .eql 9 false false (.t 41) (.t 44)), none⟩] [])
  (.cond (.t 45)
   (.reg false [
     ⟨(some 46), (.mv (.t 10)), none⟩,
     ⟨(some 47), (.fad 0 (.t 9)), none⟩,
     ⟨none, (.st 1 (.t 47) (.t 46)), none⟩] [])
   .skip)))
 (.reg false [
   ⟨(some 36), (.mv (.t 10)), none⟩,
   ⟨(some 37), (.bin .add 3 false true (.t 36) (.c (.val (.int .i64 1)))), none⟩,
   ⟨(some 10), (.mv (.t 37)), none⟩] [])))

def L24_1 : CC :=
 (.seq
 (.seq
 (.reg false [
   ⟨(some 20), (.mv (.t 7)), none⟩,
   ⟨(some 21), (.mv (.t 6)), none⟩,
   ⟨(some 22), (.len false (.t 21)), none⟩,
   ⟨(some 23), (.bin .lss 3 false false (.t 20) (.t 22)), none⟩] [])
 (.cond (.t 23)
  .skip
  (.exit 0)))
 (.seq
 (.block 1
  (.seq
  (.reg false [
    ⟨(some 26), (.mv (.t 6)), none⟩,
    ⟨(some 27), (.mv (.t 7)), none⟩,
    ⟨(some 28), (.ias 1 (.t 26) (.t 27)), none⟩,
    ⟨(some 29), (.ld 1 false (.t 28)), none⟩,
    ⟨(some 30), (.call (.c (.fn 39 [])) [(.t 29), (.c (.val (.int .u8 32)))]), none⟩,
    ⟨(some 8), (.mv (.t 30)), none⟩] [])
  (.seq
  (.reg false [
    ⟨(some 31), (.build [(.val (.int .i64 0)), (.val (.int .i64 0)), (.val (.int .i64 0)), (.val (.int .i64 0))] []), none⟩,
    ⟨(some 9), (.alloc [(.val (.int .i64 0)), (.val (.int .i64 0)), (.val (.int .i64 0)), (.val (.int .i64 0))]), none⟩,
    ⟨none, (.st 4 (.t 9) (.t 31)), none⟩] [])
  (.seq
  (.seq
  (.reg false [
    ⟨(some 10), (.mv (.c (.val (.int .i64 1)))), none⟩] [])
  (.block 2
   (.loop L24_0)))
  (.seq
  (.seq
  (.reg false [
    ⟨(some 48), (.fad 0 (.t 9)), none⟩,
    ⟨(some 49), (.ld 1 false (.t 48)), none⟩,
    ⟨(some 50), (.bin .eql 3 false true (.t 49) (.c (.val (.int .i64 2)))), none⟩,
    ⟨(some 51), (.mv (.t 50)), none⟩,
    ⟨(some 52), (.fad 0 (.t 9)), (some (51, false))⟩,
    ⟨(some 53), (.ld 1 false (.t 52)), (some (51, false))⟩,
    ⟨(some 54), (.bin .eql 3 false true (.t 53) (.c (.val (.int .i64 3)))), (some (51, false))⟩,
    ⟨(some 55), (.pick (.t 51) (.c (.val (.bool true))) (.t 54)), none⟩] [])
  (.cond (.t 55)
   (.seq
   (.seq
   (.reg false [
     ⟨(some 56), (.mv (.t 8)), none⟩,
     ⟨(some 57), (.len false (.t 56)), none⟩,
     ⟨(some 58), (.bin .neq 3 false true (.t 57) (.c (.val (.int .i64 4)))), none⟩] [])
   (.cond (.t 58)
    (.seq
    (.reg false [
      ⟨(some 2), (.mv (.c (.im [] true))), none⟩,
      ⟨(some 3), (.mv (.c (.val (.bool false)))), none⟩] [])
    .ret)
    .skip))
   (.seq
   (.reg false [
     ⟨(some 60), (.mv (.t 8)), none⟩,
     ⟨(some 61), (.ias 1 (.t 60) (.c (.val (.int .i64 1)))), none⟩,
     ⟨(some 62), (.ld 1 false (.t 61)), none⟩,
     ⟨(some 63), (.call (.c (.fn 40 [])) [(.t 62)]), none⟩,
     ⟨(some 59), (.mv (.t 63)), none⟩,
     ⟨(some 64), (.ext (.t 59) 0), none⟩,
     ⟨(some 65), (.ext (.t 59) 1), none⟩,
     ⟨(some 11), (.mv (.t 64)), none⟩,
     ⟨(some 12), (.mv (.t 65)), none⟩] [])
   (.seq
   (.reg false [
     ⟨(some 67), (.mv (.t 8)), none⟩,
     ⟨(some 68), (.ias 1 (.t 67) (.c (.val (.int .i64 2)))), none⟩,
     ⟨(some 69), (.ld 1 false (.t 68)), none⟩,
     ⟨(some 70), (.call (.c (.fn 40 [])) [(.t 69)]), none⟩,
     ⟨(some 66), (.mv (.t 70)), none⟩,
     ⟨(some 71), (.ext (.t 66) 0), none⟩,
     ⟨(some 72), (.ext (.t 66) 1), none⟩,
     ⟨(some 13), (.mv (.t 71)), none⟩,
     ⟨(some 14), (.mv (.t 72)), none⟩] [])
   (.seq
   (.reg false [
     ⟨(some 74), (.mv (.t 8)), none⟩,
     ⟨(some 75), (.ias 1 (.t 74) (.c (.val (.int .i64 3)))), none⟩,
     ⟨(some 76), (.ld 1 false (.t 75)), none⟩,
     ⟨(some 77), (.call (.c (.fn 40 [])) [(.t 76)]), none⟩,
     ⟨(some 73), (.mv (.t 77)), none⟩,
     ⟨(some 78), (.ext (.t 73) 0), none⟩,
     ⟨(some 79), (.ext (.t 73) 1), none⟩,
     ⟨(some 15), (.mv (.t 78)), none⟩,
     ⟨(some 16), (.mv (.t 79)), none⟩] [])
   (.seq
   (.seq
   (.reg false [
     ⟨(some 80), (.mv (.t 12)), none⟩,
     ⟨(some 81), (.un .not (.t 80)), none⟩,
     ⟨(some 82), (.mv (.t 81)), none⟩,
     ⟨(some 83), (.mv (.t 14)), (some (82, false))⟩,
     ⟨(some 84), (.un .not (.t 83)), (some (82, false))⟩,
     ⟨(some 85), (.pick (.t 82) (.c (.val (.bool true))) (.t 84)), none⟩,
     ⟨(some 86), (.mv (.t 85)), none⟩,
     ⟨(some 87), (.mv (.t 16)), (some (86, false))⟩,
     ⟨(some 88), (.un .not (.t 87)), (some (86, false))⟩,
     ⟨(some 89), (.pick (.t 86) (.c (.val (.bool true))) (.t 88)), none⟩] [])
   (.cond (.t 89)
    (.seq
    (.reg false [
      ⟨(some 2), (.mv (.c (.im [] true))), none⟩,
      ⟨(some 3), (.mv (.c (.val (.bool false)))), none⟩] [])
    .ret)
    .skip))
   (.reg false [
     ⟨(some 90), (.mv (.t 11)), none⟩,
     ⟨(some 91), (.mv (.t 13)), none⟩,
     ⟨(some 92), (.mv (.t 15)), none⟩,
     ⟨(some 93), (.fad 1 (.t 9)), none⟩,
     ⟨none, (.st 1 (.t 93) (.t 90)), none⟩,
     ⟨(some 94), (.fad 2 (.t 9)), none⟩,
     ⟨none, (.st 1 (.t 94) (.t 91)), none⟩,
     ⟨(some 95), (.fad 3 (.t 9)), none⟩,
     ⟨none, (.st 1 (.t 95) (.t 92)), none⟩] []))))))
   (.seq
   (.reg false [
     ⟨(some 96), (.mv (.t 8)), none⟩,
     ⟨(some 97), (.len false (.t 96)), none⟩,
     ⟨(some 98), (.bin .neq 3 false true (.t 97) (.c (.val (.int .i64 1)))), none⟩] [])
   (.cond (.t 98)
    (.seq
    (.reg false [
      ⟨(some 2), (.mv (.c (.im [] true))), none⟩,
      ⟨(some 3), (.mv (.c (.val (.bool false)))), none⟩] [])
    .ret)
    .skip))))
  (.reg false [
    ⟨(some 99), (.mv (.t 5)), none⟩,
    ⟨(some 100), (.ld 4 true (.t 9)), none⟩,
    ⟨(some 101), (.bsl 4 1 [(.val (.int .i64 0)), (.val (.int .i64 0)), (.val (.int .i64 0)), (.val (.int .i64 0))] [(0, 4, (.t 100))]), none⟩,
    ⟨(some 102), (.app 4 (.t 99) (.t 101)), none⟩,
    ⟨(some 5), (.mv (.t 102)), none⟩] []))))))
 (.reg false [
   ⟨(some 24), (.mv (.t 7)), none⟩,
   ⟨(some 25), (.bin .add 3 false true (.t 24) (.c (.val (.int .i64 1)))), none⟩,
   ⟨(some 7), (.mv (.t 25)), none⟩] [])))

/-- cenotaph/cenotaphref05.Parse -/
def c24 : CF := ⟨
 (.seq
 (.reg false [
   ⟨(some 2), (.mv (.c (.im [] true))), none⟩,
   ⟨(some 3), (.mv (.c (.val (.bool false)))), none⟩] [])
 (.seq
 (.reg false [
   ⟨(some 17), (.bsl 1 7 [(.val (.string ⟨#[]⟩)), (.val (.string ⟨#[]⟩)), (.val (.string ⟨#[]⟩)), (.val (.string ⟨#[]⟩)), (.val (.string ⟨#[]⟩)), (.val (.string ⟨#[]⟩)), (.val (.string ⟨#[]⟩))] [(0, 1, (.c (.val (.string ⟨#[]⟩)))), (1, 1, (.c (.val (.string ⟨#[97, 108, 108]⟩)))), (2, 1, (.c (.val (.string ⟨#[100, 105, 115, 99]⟩)))), (3, 1, (.c (.val (.string ⟨#[104, 97, 108, 102]⟩)))), (4, 1, (.c (.val (.string ⟨#[110, 111, 116]⟩)))), (5, 1, (.c (.val (.string ⟨#[97, 110, 100]⟩)))), (6, 1, (.c (.val (.string ⟨#[111, 114]⟩))))]), none⟩,
   ⟨(some 4), (.mv (.t 17)), none⟩] [])
 (.seq
 (.reg false [
   ⟨(some 5), (.mv (.c (.im [] true))), none⟩] [])
 (.seq
 (.reg false [
   ⟨(some 18), (.mv (.t 0)), none⟩,
   ⟨(some 19), (.call (.c (.fn 39 [])) [(.t 18), (.c (.val (.int .u8 44)))]), none⟩,
   ⟨(some 6), (.mv (.t 19)), none⟩] [])
 (.seq
 (.seq
 (.reg false [
   ⟨(some 7), (.mv (.c (.val (.int .i64 0)))), none⟩] [])
 (.block 0
  (.loop L24_1)))
 (.seq
 (.seq
 (.reg false [
   ⟨(some 103), (.mv (.t 5)), none⟩,
   ⟨(some 104), (.call (.c (.fn 27 [])) [(.t 103)]), none⟩,
   ⟨(some 105), (.un .not (.t 104)), none⟩] [])
 (.cond (.t 105)
  (.seq
  (.reg false [
    ⟨(some 2), (.mv (.c (.im [] true))), none⟩,
    ⟨(some 3), (.mv (.c (.val (.bool false)))), none⟩] [])
  .ret)
  .skip))
 (.seq
 (.reg false [
   ⟨(some 106), (.mv (.t 5)), none⟩,
   ⟨(some 2), (.mv (.t 106)), none⟩,
   ⟨(some 3), (.mv (.c (.val (.bool true)))), none⟩] [])
 .ret))))))),
 [.tmp 2, .tmp 3]⟩

def L25_0 : CC :=
 (.seq
 (.reg false [
   ⟨(some 13), (.bin .lss 3 false false (.t 12) (.t 11)), none⟩] [])
 (.seq
 (.cond (.t 13)
  .skip
  (.exit 0))
 (.seq
 (.block 1
  (.seq
  (.reg false [
    ⟨(some 14), (.ias 3 (.t 10) (.t 12)), none⟩,
    ⟨(some 15), (.ld 3 true (.t 14)), none⟩,
    ⟨(some 5), (.alloc [(.val (.int .i64 0)), (.val (.complex .f64 0 0)), (.val (.float .f64 0))]), none⟩,
    ⟨none, (.st 3 (.t 5) (.t 15)), none⟩] [])
  (.seq
  (.reg true [
    ⟨(some 16), (.call (.c (.fn 41 [])) []), none⟩,
    ⟨(some 17), (.fad 0 (.t 5)), none⟩,
    ⟨(some 18), (.ld 1 false (.t 17)), none⟩,
    ⟨(some 19), (.ias 1 (.t 16) (.t 18)), none⟩,
    ⟨(some 20), (.ld 1 false (.t 19)), none⟩,
    ⟨(some 6), (.mv (.t 20)), none⟩] [(0, 2)])
  (.seq
  (.seq
  (.reg false [
    ⟨(some 21), (.fad 0 (.t 5)), none⟩,
    ⟨(some 22), (.ld 1 false (.t 21)), none⟩,
    ⟨(some 23), (.bin .eql 3 false true (.t 22) (.c (.val (.int .i64 2)))), none⟩,
    ⟨(some 24), (.mv (.t 23)), none⟩,
    ⟨(some 25), (.fad 0 (.t 5)), (some (24, false))⟩,
    ⟨(some 26), (.ld 1 false (.t 25)), (some (24, false))⟩,
    ⟨(some 27), (.bin .eql 3 false true (.t 26) (.c (.val (.int .i64 3)))), (some (24, false))⟩,
    ⟨(some 28), (.pick (.t 24) (.c (.val (.bool true))) (.t 27)), none⟩] [])
  (.cond (.t 28)
   (.reg true [
     ⟨(some 29), (.mv (.t 6)), none⟩,
     ⟨(some 30), (.fad 1 (.t 5)), none⟩,
     ⟨(some 31), (.ld 1 false (.t 30)), none⟩,
     ⟨(some 32), (.fun_ .real #[33] 41 [(.t 31)]), none⟩,
     ⟨(some 33), (.call (.c (.fn 43 [])) [(.t 32)]), none⟩,
     ⟨(some 34), (.fad 1 (.t 5)), none⟩,
     ⟨(some 35), (.ld 1 false (.t 34)), none⟩,
     ⟨(some 36), (.fun_ .imag #[33] 41 [(.t 35)]), none⟩,
     ⟨(some 37), (.call (.c (.fn 43 [])) [(.t 36)]), none⟩,
     ⟨(some 38), (.fad 2 (.t 5)), none⟩,
     ⟨(some 39), (.ld 1 false (.t 38)), none⟩,
     ⟨(some 40), (.call (.c (.fn 43 [])) [(.t 39)]), none⟩,
     ⟨(some 41), (.bsl 1 4 [(.val (.string ⟨#[]⟩)), (.val (.string ⟨#[]⟩)), (.val (.string ⟨#[]⟩)), (.val (.string ⟨#[]⟩))] [(0, 1, (.t 29)), (1, 1, (.t 33)), (2, 1, (.t 37)), (3, 1, (.t 40))]), none⟩,
     ⟨(some 42), (.call (.c (.fn 42 [])) [(.t 41), (.c (.val (.string ⟨#[32]⟩)))]), none⟩,
     ⟨(some 6), (.mv (.t 42)), none⟩] [(4, 6), (4, 10), (8, 10)])
   .skip))
  (.reg false [
    ⟨(some 43), (.mv (.t 3)), none⟩,
    ⟨(some 44), (.mv (.t 6)), none⟩,
    ⟨(some 45), (.bsl 1 1 [(.val (.string ⟨#[]⟩))] [(0, 1, (.t 44))]), none⟩,
    ⟨(some 46), (.app 1 (.t 43) (.t 45)), none⟩,
    ⟨(some 3), (.mv (.t 46)), none⟩] [])))))
 (.reg false [
   ⟨(some 47), (.bin .add 3 false true (.t 12) (.c (.val (.int .i64 1)))), none⟩,
   ⟨(some 12), (.mv (.t 47)), none⟩] []))))

/-- cenotaph/zone.Text -/
def c25 : CF := ⟨
 (.seq
 (.reg false [
   ⟨(some 2), (.mv (.c (.val (.string ⟨#[]⟩)))), none⟩] [])
 (.seq
 (.seq
 (.reg false [
   ⟨(some 7), (.mv (.t 0)), none⟩,
   ⟨(some 8), (.call (.c (.fn 14 [])) [(.t 7)]), none⟩,
   ⟨(some 9), (.un .not (.t 8)), none⟩] [])
 (.cond (.t 9)
  (.seq
  (.reg false [
    ⟨(some 2), (.mv (.c (.val (.string ⟨#[]⟩)))), none⟩] [])
  .ret)
  .skip))
 (.seq
 (.reg false [
   ⟨(some 3), (.mv (.c (.im [] true))), none⟩] [])
 (.seq
 (.seq
 (.reg false [
   ⟨(some 10), (.mv (.t 0)), none⟩,
   ⟨(some 11), (.len false (.t 10)), none⟩,
   ⟨(some 12), (.mv (.c (.val (.int .i64 0)))), none⟩] [])
 (.block 0
  (.loop L25_0)))
 (.seq
 (.reg false [
   ⟨(some 48), (.mv (.t 3)), none⟩,
   ⟨(some 49), (.call (.c (.fn 42 [])) [(.t 48), (.c (.val (.string ⟨#[44]⟩)))]), none⟩,
   ⟨(some 2), (.mv (.t 49)), none⟩] [])
 .ret))))),
 [.tmp 2]⟩

def L26_0 : CC :=
 (.seq
 (.seq
 (.reg false [
   ⟨(some 4), (.mv (.t 3)), none⟩,
   ⟨(some 5), (.mv (.t 0)), none⟩,
   ⟨(some 6), (.len false (.t 5)), none⟩,
   ⟨(some 7), (.bin .lss 3 false false (.t 4) (.t 6)), none⟩] [])
 (.cond (.t 7)
  .skip
  (.exit 0)))
 (.seq
 (.block 1
  (.seq
  (.reg false [
    ⟨(some 10), (.mv (.t 0)), none⟩,
    ⟨(some 11), (.mv (.t 3)), none⟩,
    ⟨(some 12), (.ias 4 (.t 10) (.t 11)), none⟩,
    ⟨(some 13), (.fad 1 (.t 12)), none⟩,
    ⟨(some 14), (.ld 1 false (.t 13)), none⟩,
    ⟨(some 15), (.bin .gtr 3 false true (.t 14) (.c (.val (.int .i64 1099511627776)))), none⟩,
    ⟨(some 16), (.mv (.t 15)), none⟩,
    ⟨(some 17), (.mv (.t 0)), (some (16, false))⟩,
    ⟨(some 18), (.mv (.t 3)), (some (16, false))⟩,
    ⟨(some 19), (.ias 4 (.t 17) (.t 18)), (some (16, false))⟩,
    ⟨(some 20), (.fad 1 (.t 19)), (some (16, false))⟩,
    ⟨(some 21), (.ld 1 false (.t 20)), (some (16, false))⟩,
    ⟨(some 22), (.bin .lss 3 false true (.t 21) (.c (.val (.int .i64 (-1099511627776))))), (some (16, false))⟩,
    ⟨(some 23), (.pick (.t 16) (.c (.val (.bool true))) (.t 22)), none⟩,
    ⟨(some 24), (.mv (.t 23)), none⟩,
    ⟨(some 25), (.mv (.t 0)), (some (24, false))⟩,
    ⟨(some 26), (.mv (.t 3)), (some (24, false))⟩,
    ⟨(some 27), (.ias 4 (.t 25) (.t 26)), (some (24, false))⟩,
    ⟨(some 28), (.fad 2 (.t 27)), (some (24, false))⟩,
    ⟨(some 29), (.ld 1 false (.t 28)), (some (24, false))⟩,
    ⟨(some 30), (.bin .gtr 3 false true (.t 29) (.c (.val (.int .i64 1099511627776)))), (some (24, false))⟩,
    ⟨(some 31), (.pick (.t 24) (.c (.val (.bool true))) (.t 30)), none⟩,
    ⟨(some 32), (.mv (.t 31)), none⟩,
    ⟨(some 33), (.mv (.t 0)), (some (32, false))⟩,
    ⟨(some 34), (.mv (.t 3)), (some (32, false))⟩,
    ⟨(some 35), (.ias 4 (.t 33) (.t 34)), (some (32, false))⟩,
    ⟨(some 36), (.fad 2 (.t 35)), (some (32, false))⟩,
    ⟨(some 37), (.ld 1 false (.t 36)), (some (32, false))⟩,
    ⟨(some 38), (.bin .lss 3 false true (.t 37) (.c (.val (.int .i64 (-1099511627776))))), (some (32, false))⟩,
    ⟨(some 39), (.pick (.t 32) (.c (.val (.bool true))) (.t 38)), none⟩,
    ⟨(some 40), (.mv (.t 39)), none⟩,
    ⟨(some 41), (.mv (.t 0)), (some (40, false))⟩,
    ⟨(some 42), (.mv (.t 3)), (some (40, false))⟩,
    ⟨(some 43), (.ias 4 (.t 41) (.t 42)), (some (40, false))⟩,
    ⟨(some 44), (.fad 3 (.t 43)), (some (40, false))⟩,
    ⟨(some 45), (.ld 1 false (.t 44)), (some (40, false))⟩,
    ⟨(some 46), (.bin .gtr 3 false true (.t 45) (.c (.val (.int .i64 1099511627776)))), (some (40, false))⟩,
    ⟨(some 47), (.pick (.t 40) (.c (.val (.bool true))) (.t 46)), none⟩,
    ⟨(some 48), (.mv (.t 47)), none⟩,
    ⟨(some 49), (.mv (.t 0)), (some (48, false))⟩,
    ⟨(some 50), (.mv (.t 3)), (some (48, false))⟩,
    ⟨(some 51), (.ias 4 (.t 49) (.t 50)), (some (48, false))⟩,
    ⟨(some 52), (.fad 3 (.t 51)), (some (48, false))⟩,
    ⟨(some 53), (.ld 1 false (.t 52)), (some (48, false))⟩,
    ⟨(some 54), (.bin .lss 3 false true (.t 53) (.c (.val (.int .i64 (-1099511627776))))), (some (48, false))⟩,
    ⟨(some 55), (.pick (.t 48) (.c (.val (.bool true))) (.t 54)), none⟩] [])
  (.cond (.t 55)
   (.seq
   (.reg false [
     ⟨(some 2), (.mv (.c (.val (.bool false)))), none⟩] [])
   .ret)
   .skip)))
 (.reg false [
   ⟨(some 8), (.mv (.t 3)), none⟩,
   ⟨(some 9), (.bin .add 3 false true (.t 8) (.c (.val (.int .i64 1)))), none⟩,
   ⟨(some 3), (.mv (.t 9)), none⟩] [])))

/-- cenotaph/cenotaphlaw05.few -/
def c26 : CF := ⟨
 (.seq
 (.reg false [
   ⟨(some 2), (.mv (.c (.val (.bool false)))), none⟩] [])
 (.seq
 (.seq
 (.reg false [
   ⟨(some 3), (.mv (.c (.val (.int .i64 0)))), none⟩] [])
 (.block 0
  (.loop L26_0)))
 (.seq
 (.reg false [
   ⟨(some 56), (.mv (.t 0)), none⟩,
   ⟨(some 57), (.len false (.t 56)), none⟩,
   ⟨(some 58), (.bin .leq 3 false true (.t 57) (.c (.val (.int .i64 40)))), none⟩,
   ⟨(some 2), (.mv (.t 58)), none⟩] [])
 .ret))),
 [.tmp 2]⟩

def L27_0 : CC :=
 (.seq
 (.seq
 (.reg false [
   ⟨(some 14), (.mv (.t 4)), none⟩,
   ⟨(some 15), (.mv (.t 0)), none⟩,
   ⟨(some 16), (.len false (.t 15)), none⟩,
   ⟨(some 17), (.bin .lss 3 false false (.t 14) (.t 16)), none⟩] [])
 (.cond (.t 17)
  .skip
  (.exit 0)))
 (.seq
 (.block 1
  (.seq
  (.reg false [
    ⟨(some 20), (.mv (.t 0)), none⟩,
    ⟨(some 21), (.mv (.t 4)), none⟩,
    ⟨(some 22), (.ias 4 (.t 20) (.t 21)), none⟩,
    ⟨(some 23), (.ld 4 true (.t 22)), none⟩,
    ⟨(some 5), (.alloc [(.val (.int .i64 0)), (.val (.int .i64 0)), (.val (.int .i64 0)), (.val (.int .i64 0))]), none⟩,
    ⟨none, (.st 4 (.t 5) (.t 23)), none⟩] [])
  (.seq
  (.reg false [
    ⟨(some 24), (.fad 0 (.t 5)), none⟩,
    ⟨(some 25), (.ld 1 false (.t 24)), none⟩] [])
  (.block 2
   (.seq
   (.reg false [
     ⟨(some 27), (.bin .eql 3 false true (.t 25) (.c (.val (.int .i64 2)))), none⟩,
     ⟨(some 26), (.mv (.t 27)), none⟩] [])
   (.cond (.t 26)
    (.seq
    (.seq
    (.reg false [
      ⟨(some 28), (.fad 1 (.t 5)), none⟩,
      ⟨(some 29), (.ld 1 false (.t 28)), none⟩,
      ⟨(some 30), (.fad 2 (.t 5)), none⟩,
      ⟨(some 31), (.ld 1 false (.t 30)), none⟩,
      ⟨(some 32), (.build [(.val (.int .i64 0)), (.val (.int .i64 0))] [(0, 1, (.t 29)), (1, 1, (.t 31))]), none⟩,
      ⟨(some 33), (.call (.c (.fn 19 [])) [(.t 32)]), none⟩,
      ⟨(some 34), (.un .not (.t 33)), none⟩,
      ⟨(some 35), (.mv (.t 34)), none⟩,
      ⟨(some 36), (.fad 3 (.t 5)), (some (35, false))⟩,
      ⟨(some 37), (.ld 1 false (.t 36)), (some (35, false))⟩,
      ⟨(some 38), (.bin .lss 3 false true (.t 37) (.c (.val (.int .i64 0)))), (some (35, false))⟩,
      ⟨(some 39), (.pick (.t 35) (.c (.val (.bool true))) (.t 38)), none⟩,
      ⟨(some 40), (.mv (.t 39)), none⟩,
      ⟨(some 41), (.fad 3 (.t 5)), (some (40, false))⟩,
      ⟨(some 42), (.ld 1 false (.t 41)), (some (40, false))⟩,
      ⟨(some 43), (.bin .gtr 3 false true (.t 42) (.c (.val (.int .i64 2000)))), (some (40, false))⟩,
      ⟨(some 44), (.pick (.t 40) (.c (.val (.bool true))) (.t 43)), none⟩] [])
    (.cond (.t 44)
     (.seq
     (.reg false [
       ⟨(some 2), (.mv (.c (.val (.bool false)))), none⟩] [])
     .ret)
     .skip))
    (.reg false [
      ⟨(some 45), (.mv (.t 3)), none⟩,
      ⟨(some 46), (.bin .add 3 false true (.t 45) (.c (.val (.int .i64 1)))), none⟩,
      ⟨(some 3), (.mv (.t 46)), none⟩] []))
    (.seq
    (.reg false [
      ⟨(some 48), (.bin .eql 3 false true (.t 25) (.c (.val (.int .i64 3)))), none⟩,
      ⟨(some 47), (.mv (.t 48)), none⟩] [])
    (.cond (.t 47)
     (.seq
     (.seq
     (.reg false [
       ⟨(some 49), (.fad 1 (.t 5)), none⟩,
       ⟨(some 50), (.ld 1 false (.t 49)), none⟩,
       ⟨(some 51), (.fad 2 (.t 5)), none⟩,
       ⟨(some 52), (.ld 1 false (.t 51)), none⟩,
       ⟨(some 53), (.build [(.val (.int .i64 0)), (.val (.int .i64 0))] [(0, 1, (.t 50)), (1, 1, (.t 52))]), none⟩,
       ⟨(some 54), (.call (.c (.fn 19 [])) [(.t 53)]), none⟩,
       ⟨(some 55), (.un .not (.t 54)), none⟩,
       ⟨(some 56), (.mv (.t 55)), none⟩,
       ⟨(some 57), (.fad 3 (.t 5)), (some (56, false))⟩,
       ⟨(some 58), (.ld 1 false (.t 57)), (some (56, false))⟩,
       ⟨(some 59), (.call (.c (.fn 35 [])) [(.t 58), (.c (.val (.int .i64 2000000)))]), (some (56, false))⟩,
       ⟨(some 60), (.un .not (.t 59)), (some (56, false))⟩,
       ⟨(some 61), (.pick (.t 56) (.c (.val (.bool true))) (.t 60)), none⟩] [])
     (.cond (.t 61)
      (.seq
      (.reg false [
        ⟨(some 2), (.mv (.c (.val (.bool false)))), none⟩] [])
      .ret)
      .skip))
     (.reg false [
       ⟨(some 62), (.mv (.t 3)), none⟩,
       ⟨(some 63), (.bin .add 3 false true (.t 62) (.c (.val (.int .i64 1)))), none⟩,
       ⟨(some 3), (.mv (.t 63)), none⟩] []))
     (.seq
     (.seq
     (.reg false [
       ⟨(some 65), (.bin .eql 3 false true (.t 25) (.c (.val (.int .i64 1)))), none⟩,
       ⟨(some 64), (.mv (.t 65)), none⟩] [])
     (.cond (.t 64)
      .skip
      (.seq
      (.reg false [
        ⟨(some 66), (.bin .eql 3 false true (.t 25) (.c (.val (.int .i64 4)))), none⟩,
        ⟨(some 64), (.mv (.t 66)), none⟩] [])
      (.cond (.t 64)
       .skip
       (.seq
       (.reg false [
         ⟨(some 67), (.bin .eql 3 false true (.t 25) (.c (.val (.int .i64 5)))), none⟩,
         ⟨(some 64), (.mv (.t 67)), none⟩] [])
       (.cond (.t 64)
        .skip
        (.reg false [
          ⟨(some 68), (.bin .eql 3 false true (.t 25) (.c (.val (.int .i64 6)))), none⟩,
          ⟨(some 64), (.mv (.t 68)), none⟩] [])))))))
     (.cond (.t 64)
      (.seq
      (.seq
      (.reg false [
        ⟨(some 69), (.fad 1 (.t 5)), none⟩,
        ⟨(some 70), (.ld 1 false (.t 69)), none⟩,
        ⟨(some 71), (.bin .neq 3 false true (.t 70) (.c (.val (.int .i64 0)))), none⟩,
        ⟨(some 72), (.mv (.t 71)), none⟩,
        ⟨(some 73), (.fad 2 (.t 5)), (some (72, false))⟩,
        ⟨(some 74), (.ld 1 false (.t 73)), (some (72, false))⟩,
        ⟨(some 75), (.bin .neq 3 false true (.t 74) (.c (.val (.int .i64 0)))), (some (72, false))⟩,
        ⟨(some 76), (.pick (.t 72) (.c (.val (.bool true))) (.t 75)), none⟩,
        ⟨(some 77), (.mv (.t 76)), none⟩,
        ⟨(some 78), (.fad 3 (.t 5)), (some (77, false))⟩,
        ⟨(some 79), (.ld 1 false (.t 78)), (some (77, false))⟩,
        ⟨(some 80), (.bin .neq 3 false true (.t 79) (.c (.val (.int .i64 0)))), (some (77, false))⟩,
        ⟨(some 81), (.pick (.t 77) (.c (.val (.bool true))) (.t 80)), none⟩] [])
      (.cond (.t 81)
       (.seq
       (.reg false [
         ⟨(some 2), (.mv (.c (.val (.bool false)))), none⟩] [])
       .ret)
       .skip))
      (.seq
      (.seq
      (.reg false [
        ⟨(some 82), (.fad 0 (.t 5)), none⟩,
        ⟨(some 83), (.ld 1 false (.t 82)), none⟩,
        ⟨(some 84), (.bin .eql 3 false true (.t 83) (.c (.val (.int .i64 1)))), none⟩] [])
      (.cond (.t 84)
       (.reg false [
         ⟨(some 85), (.mv (.t 3)), none⟩,
         ⟨(some 86), (.bin .add 3 false true (.t 85) (.c (.val (.int .i64 1)))), none⟩,
         ⟨(some 3), (.mv (.t 86)), none⟩] [])
       .skip))
      (.seq
      (.seq
      (.reg false [
        ⟨(some 87), (.fad 0 (.t 5)), none⟩,
        ⟨(some 88), (.ld 1 false (.t 87)), none⟩,
        ⟨(some 89), (.bin .eql 3 false true (.t 88) (.c (.val (.int .i64 4)))), none⟩,
        ⟨(some 90), (.mv (.t 89)), none⟩,
        ⟨(some 91), (.mv (.t 3)), (some (90, true))⟩,
        ⟨(some 92), (.bin .lss 3 false true (.t 91) (.c (.val (.int .i64 1)))), (some (90, true))⟩,
        ⟨(some 93), (.pick (.t 90) (.t 92) (.c (.val (.bool false)))), none⟩,
        ⟨(some 94), (.mv (.t 93)), none⟩,
        ⟨(some 95), (.fad 0 (.t 5)), (some (94, false))⟩,
        ⟨(some 96), (.ld 1 false (.t 95)), (some (94, false))⟩,
        ⟨(some 97), (.bin .gtr 3 false true (.t 96) (.c (.val (.int .i64 4)))), (some (94, false))⟩,
        ⟨(some 98), (.mv (.t 97)), (some (94, false))⟩,
        ⟨(some 99), (.mv (.t 3)), (some (98, true))⟩,
        ⟨(some 100), (.bin .lss 3 false true (.t 99) (.c (.val (.int .i64 2)))), (some (98, true))⟩,
        ⟨(some 101), (.pick (.t 98) (.t 100) (.c (.val (.bool false)))), (some (94, false))⟩,
        ⟨(some 102), (.pick (.t 94) (.c (.val (.bool true))) (.t 101)), none⟩] [])
      (.cond (.t 102)
       (.seq
       (.reg false [
         ⟨(some 2), (.mv (.c (.val (.bool false)))), none⟩] [])
       .ret)
       .skip))
      (.seq
      (.reg false [
        ⟨(some 103), (.fad 0 (.t 5)), none⟩,
        ⟨(some 104), (.ld 1 false (.t 103)), none⟩,
        ⟨(some 105), (.bin .gtr 3 false true (.t 104) (.c (.val (.int .i64 4)))), none⟩] [])
      (.cond (.t 105)
       (.reg false [
         ⟨(some 106), (.mv (.t 3)), none⟩,
         ⟨(some 107), (.bin .sub 3 false true (.t 106) (.c (.val (.int .i64 1)))), none⟩,
         ⟨(some 3), (.mv (.t 107)), none⟩] [])
       .skip)))))
      (.seq
      (.reg false [
        ⟨(some 2), (.mv (.c (.val (.bool false)))), none⟩] [])
      .ret)))))))))))
 (.reg false [
   ⟨(some 18), (.mv (.t 4)), none⟩,
   ⟨(some 19), (.bin .add 3 false true (.t 18) (.c (.val (.int .i64 1)))), none⟩,
   ⟨(some 4), (.mv (.t 19)), none⟩] [])))

/-- cenotaph/cenotaphref05.Right -/
def c27 : CF := ⟨
 (.seq
 (.reg false [
   ⟨(some 2), (.mv (.c (.val (.bool false)))), none⟩] [])
 (.seq
 (.seq
 (.reg false [
   ⟨(some 6), (.mv (.t 0)), none⟩,
   ⟨(some 7), (.len false (.t 6)), none⟩,
   ⟨(some 8), (.bin .lss 3 false true (.t 7) (.c (.val (.int .i64 1)))), none⟩,
   ⟨(some 9), (.mv (.t 8)), none⟩,
   ⟨(some 10), (.mv (.t 0)), (some (9, false))⟩,
   ⟨(some 11), (.len false (.t 10)), (some (9, false))⟩,
   ⟨(some 12), (.bin .gtr 3 false true (.t 11) (.c (.val (.int .i64 32)))), (some (9, false))⟩,
   ⟨(some 13), (.pick (.t 9) (.c (.val (.bool true))) (.t 12)), none⟩] [])
 (.cond (.t 13)
  (.seq
  (.reg false [
    ⟨(some 2), (.mv (.c (.val (.bool false)))), none⟩] [])
  .ret)
  .skip))
 (.seq
 (.reg false [
   ⟨(some 3), (.mv (.c (.val (.int .i64 0)))), none⟩] [])
 (.seq
 (.seq
 (.reg false [
   ⟨(some 4), (.mv (.c (.val (.int .i64 0)))), none⟩] [])
 (.block 0
  (.loop L27_0)))
 (.seq
 (.reg false [
   ⟨(some 108), (.mv (.t 3)), none⟩,
   ⟨(some 109), (.bin .eql 3 false true (.t 108) (.c (.val (.int .i64 1)))), none⟩,
   ⟨(some 2), (.mv (.t 109)), none⟩] [])
 .ret))))),
 [.tmp 2]⟩

def L28_0 : CC :=
 (.seq
 (.seq
 (.reg false [
   ⟨(some 10), (.mv (.t 5)), none⟩,
   ⟨(some 11), (.mv (.t 0)), none⟩,
   ⟨(some 12), (.len false (.t 11)), none⟩,
   ⟨(some 13), (.bin .lss 3 false false (.t 10) (.t 12)), none⟩] [])
 (.cond (.t 13)
  .skip
  (.exit 0)))
 (.seq
 (.block 1
  (.seq
  (.seq
  (.reg false [
    ⟨(some 16), (.mv (.t 5)), none⟩,
    ⟨(some 17), (.bin .gtr 3 false true (.t 16) (.c (.val (.int .i64 0)))), none⟩] [])
  (.cond (.t 17)
   (.reg false [
     ⟨(some 18), (.mv (.t 4)), none⟩,
     ⟨(some 19), (.bin .add 9 false true (.t 18) (.c (.val (.string ⟨#[44]⟩)))), none⟩,
     ⟨(some 4), (.mv (.t 19)), none⟩] [])
   .skip))
  (.seq
  (.reg false [
    ⟨(some 20), (.mv (.t 4)), none⟩,
    ⟨(some 21), (.mv (.t 3)), none⟩,
    ⟨(some 22), (.mv (.t 0)), none⟩,
    ⟨(some 23), (.mv (.t 5)), none⟩,
    ⟨(some 24), (.ias 4 (.t 22) (.t 23)), none⟩,
    ⟨(some 25), (.fad 0 (.t 24)), none⟩,
    ⟨(some 26), (.ld 1 false (.t 25)), none⟩,
    ⟨(some 27), (.ias 1 (.t 21) (.t 26)), none⟩,
    ⟨(some 28), (.ld 1 false (.t 27)), none⟩,
    ⟨(some 29), (.bin .add 9 false false (.t 20) (.t 28)), none⟩,
    ⟨(some 4), (.mv (.t 29)), none⟩] [])
  (.seq
  (.reg false [
    ⟨(some 30), (.mv (.t 0)), none⟩,
    ⟨(some 31), (.mv (.t 5)), none⟩,
    ⟨(some 32), (.ias 4 (.t 30) (.t 31)), none⟩,
    ⟨(some 33), (.fad 0 (.t 32)), none⟩,
    ⟨(some 34), (.ld 1 false (.t 33)), none⟩,
    ⟨(some 35), (.bin .eql 3 false true (.t 34) (.c (.val (.int .i64 2)))), none⟩,
    ⟨(some 36), (.mv (.t 35)), none⟩,
    ⟨(some 37), (.mv (.t 0)), (some (36, false))⟩,
    ⟨(some 38), (.mv (.t 5)), (some (36, false))⟩,
    ⟨(some 39), (.ias 4 (.t 37) (.t 38)), (some (36, false))⟩,
    ⟨(some 40), (.fad 0 (.t 39)), (some (36, false))⟩,
    ⟨(some 41), (.ld 1 false (.t 40)), (some (36, false))⟩,
    ⟨(some 42), (.bin .eql 3 false true (.t 41) (.c (.val (.int .i64 3)))), (some (36, false))⟩,
    ⟨(some 43), (.pick (.t 36) (.c (.val (.bool true))) (.t 42)), none⟩] [])
  (.cond (.t 43)
   (.reg true [
     ⟨(some 44), (.mv (.t 4)), none⟩,
     ⟨(some 45), (.bin .add 9 false true (.t 44) (.c (.val (.string ⟨#[32]⟩)))), none⟩,
     ⟨(some 46), (.mv (.t 0)), none⟩,
     ⟨(some 47), (.mv (.t 5)), none⟩,
     ⟨(some 48), (.ias 4 (.t 46) (.t 47)), none⟩,
     ⟨(some 49), (.fad 1 (.t 48)), none⟩,
     ⟨(some 50), (.ld 1 false (.t 49)), none⟩,
     ⟨(some 51), (.call (.c (.fn 44 [])) [(.t 50)]), none⟩,
     ⟨(some 52), (.bin .add 9 false false (.t 45) (.t 51)), none⟩,
     ⟨(some 53), (.bin .add 9 false true (.t 52) (.c (.val (.string ⟨#[32]⟩)))), none⟩,
     ⟨(some 54), (.mv (.t 0)), none⟩,
     ⟨(some 55), (.mv (.t 5)), none⟩,
     ⟨(some 56), (.ias 4 (.t 54) (.t 55)), none⟩,
     ⟨(some 57), (.fad 2 (.t 56)), none⟩,
     ⟨(some 58), (.ld 1 false (.t 57)), none⟩,
     ⟨(some 59), (.call (.c (.fn 44 [])) [(.t 58)]), none⟩,
     ⟨(some 60), (.bin .add 9 false false (.t 53) (.t 59)), none⟩,
     ⟨(some 61), (.bin .add 9 false true (.t 60) (.c (.val (.string ⟨#[32]⟩)))), none⟩,
     ⟨(some 62), (.mv (.t 0)), none⟩,
     ⟨(some 63), (.mv (.t 5)), none⟩,
     ⟨(some 64), (.ias 4 (.t 62) (.t 63)), none⟩,
     ⟨(some 65), (.fad 3 (.t 64)), none⟩,
     ⟨(some 66), (.ld 1 false (.t 65)), none⟩,
     ⟨(some 67), (.call (.c (.fn 44 [])) [(.t 66)]), none⟩,
     ⟨(some 68), (.bin .add 9 false false (.t 61) (.t 67)), none⟩,
     ⟨(some 4), (.mv (.t 68)), none⟩] [(7, 14), (7, 22), (15, 22)])
   .skip)))))
 (.reg false [
   ⟨(some 14), (.mv (.t 5)), none⟩,
   ⟨(some 15), (.bin .add 3 false true (.t 14) (.c (.val (.int .i64 1)))), none⟩,
   ⟨(some 5), (.mv (.t 15)), none⟩] [])))

/-- cenotaph/cenotaphref05.Text -/
def c28 : CF := ⟨
 (.seq
 (.reg false [
   ⟨(some 2), (.mv (.c (.val (.string ⟨#[]⟩)))), none⟩] [])
 (.seq
 (.seq
 (.reg false [
   ⟨(some 6), (.mv (.t 0)), none⟩,
   ⟨(some 7), (.call (.c (.fn 27 [])) [(.t 6)]), none⟩,
   ⟨(some 8), (.un .not (.t 7)), none⟩] [])
 (.cond (.t 8)
  (.seq
  (.reg false [
    ⟨(some 2), (.mv (.c (.val (.string ⟨#[]⟩)))), none⟩] [])
  .ret)
  .skip))
 (.seq
 (.reg false [
   ⟨(some 9), (.bsl 1 7 [(.val (.string ⟨#[]⟩)), (.val (.string ⟨#[]⟩)), (.val (.string ⟨#[]⟩)), (.val (.string ⟨#[]⟩)), (.val (.string ⟨#[]⟩)), (.val (.string ⟨#[]⟩)), (.val (.string ⟨#[]⟩))] [(0, 1, (.c (.val (.string ⟨#[]⟩)))), (1, 1, (.c (.val (.string ⟨#[97, 108, 108]⟩)))), (2, 1, (.c (.val (.string ⟨#[100, 105, 115, 99]⟩)))), (3, 1, (.c (.val (.string ⟨#[104, 97, 108, 102]⟩)))), (4, 1, (.c (.val (.string ⟨#[110, 111, 116]⟩)))), (5, 1, (.c (.val (.string ⟨#[97, 110, 100]⟩)))), (6, 1, (.c (.val (.string ⟨#[111, 114]⟩))))]), none⟩,
   ⟨(some 3), (.mv (.t 9)), none⟩] [])
 (.seq
 (.reg false [
   ⟨(some 4), (.mv (.c (.val (.string ⟨#[]⟩)))), none⟩] [])
 (.seq
 (.seq
 (.reg false [
   ⟨(some 5), (.mv (.c (.val (.int .i64 0)))), none⟩] [])
 (.block 0
  (.loop L28_0)))
 (.seq
 (.reg false [
   ⟨(some 69), (.mv (.t 4)), none⟩,
   ⟨(some 2), (.mv (.t 69)), none⟩] [])
 .ret)))))),
 [.tmp 2]⟩

/-- cenotaph/zone.Same -/
def c29 : CF := ⟨
 (.seq
 (.reg false [
   ⟨(some 4), (.mv (.c (.val (.bool false)))), none⟩] [])
 (.seq
 (.reg false [
   ⟨(some 5), (.mv (.t 0)), none⟩,
   ⟨(some 6), (.mv (.t 1)), none⟩,
   ⟨(some 7), (.call (.c (.fn 45 [])) [(.t 5), (.t 6)]), none⟩,
   ⟨(some 4), (.mv (.t 7)), none⟩] [])
 .ret)),
 [.tmp 4]⟩

def L30_0 : CC :=
 (.seq
 (.seq
 (.reg false [
   ⟨(some 6), (.mv (.t 4)), none⟩,
   ⟨(some 7), (.mv (.t 0)), none⟩,
   ⟨(some 8), (.len false (.t 7)), none⟩,
   ⟨(some 9), (.bin .lss 3 false false (.t 6) (.t 8)), none⟩] [])
 (.cond (.t 9)
  .skip
  (.exit 0)))
 (.seq
 (.block 1
  (.seq
  (.reg false [
    ⟨(some 12), (.mv (.t 0)), none⟩,
    ⟨(some 13), (.mv (.t 4)), none⟩,
    ⟨(some 14), (.ias 4 (.t 12) (.t 13)), none⟩,
    ⟨(some 15), (.ld 4 true (.t 14)), none⟩,
    ⟨(some 5), (.alloc [(.val (.int .i64 0)), (.val (.int .i64 0)), (.val (.int .i64 0)), (.val (.int .i64 0))]), none⟩,
    ⟨none, (.st 4 (.t 5) (.t 15)), none⟩] [])
  (.seq
  (.reg false [
    ⟨(some 16), (.fad 2 (.t 5)), none⟩,
    ⟨(some 17), (.ld 1 false (.t 16)), none⟩,
    ⟨(some 18), (.un .neg (.t 17)), none⟩,
    ⟨(some 19), (.fad 1 (.t 5)), none⟩,
    ⟨(some 20), (.ld 1 false (.t 19)), none⟩,
    ⟨(some 21), (.fad 1 (.t 5)), none⟩,
    ⟨none, (.st 1 (.t 21) (.t 18)), none⟩,
    ⟨(some 22), (.fad 2 (.t 5)), none⟩,
    ⟨none, (.st 1 (.t 22) (.t 20)), none⟩] [])
  (.reg false [
    ⟨(some 23), (.mv (.t 3)), none⟩,
    ⟨(some 24), (.ld 4 true (.t 5)), none⟩,
    ⟨(some 25), (.bsl 4 1 [(.val (.int .i64 0)), (.val (.int .i64 0)), (.val (.int .i64 0)), (.val (.int .i64 0))] [(0, 4, (.t 24))]), none⟩,
    ⟨(some 26), (.app 4 (.t 23) (.t 25)), none⟩,
    ⟨(some 3), (.mv (.t 26)), none⟩] []))))
 (.reg false [
   ⟨(some 10), (.mv (.t 4)), none⟩,
   ⟨(some 11), (.bin .add 3 false true (.t 10) (.c (.val (.int .i64 1)))), none⟩,
   ⟨(some 4), (.mv (.t 11)), none⟩] [])))

/-- cenotaph/cenotaphlaw05.turned -/
def c30 : CF := ⟨
 (.seq
 (.reg false [
   ⟨(some 2), (.mv (.c (.im [] true))), none⟩] [])
 (.seq
 (.reg false [
   ⟨(some 3), (.mv (.c (.im [] true))), none⟩] [])
 (.seq
 (.seq
 (.reg false [
   ⟨(some 4), (.mv (.c (.val (.int .i64 0)))), none⟩] [])
 (.block 0
  (.loop L30_0)))
 (.seq
 (.reg false [
   ⟨(some 27), (.mv (.t 3)), none⟩,
   ⟨(some 2), (.mv (.t 27)), none⟩] [])
 .ret)))),
 [.tmp 2]⟩

/-- (cenotaph/zone.Step).right -/
def c31 : CF := ⟨
 (.seq
 (.reg false [
   ⟨(some 1), (.box (.t 0)), none⟩,
   ⟨(some 2), (.mv (.c (.val (.bool false)))), none⟩] [])
 (.seq
 (.seq
 (.reg false [
   ⟨(some 3), (.fad 0 (.t 1)), none⟩,
   ⟨(some 4), (.ld 1 false (.t 3)), none⟩] [])
 (.block 0
  (.seq
  (.reg false [
    ⟨(some 6), (.bin .eql 3 false true (.t 4) (.c (.val (.int .i64 2)))), none⟩,
    ⟨(some 5), (.mv (.t 6)), none⟩] [])
  (.cond (.t 5)
   (.seq
   (.reg false [
     ⟨(some 7), (.fad 1 (.t 1)), none⟩,
     ⟨(some 8), (.ld 1 false (.t 7)), none⟩,
     ⟨(some 9), (.call (.c (.fn 18 [])) [(.t 8)]), none⟩,
     ⟨(some 10), (.mv (.t 9)), none⟩,
     ⟨(some 11), (.fad 2 (.t 1)), (some (10, true))⟩,
     ⟨(some 12), (.ld 1 false (.t 11)), (some (10, true))⟩,
     ⟨(some 13), (.call (.c (.fn 34 [])) [(.t 12), (.c (.val (.float .f64 0))), (.c (.val (.float .f64 4656510908468559872)))]), (some (10, true))⟩,
     ⟨(some 14), (.pick (.t 10) (.t 13) (.c (.val (.bool false)))), none⟩,
     ⟨(some 2), (.mv (.t 14)), none⟩] [])
   .ret)
   (.seq
   (.reg false [
     ⟨(some 16), (.bin .eql 3 false true (.t 4) (.c (.val (.int .i64 3)))), none⟩,
     ⟨(some 15), (.mv (.t 16)), none⟩] [])
   (.cond (.t 15)
    (.seq
    (.reg false [
      ⟨(some 17), (.fad 1 (.t 1)), none⟩,
      ⟨(some 18), (.ld 1 false (.t 17)), none⟩,
      ⟨(some 19), (.call (.c (.fn 18 [])) [(.t 18)]), none⟩,
      ⟨(some 20), (.mv (.t 19)), none⟩,
      ⟨(some 21), (.fad 2 (.t 1)), (some (20, true))⟩,
      ⟨(some 22), (.ld 1 false (.t 21)), (some (20, true))⟩,
      ⟨(some 23), (.call (.c (.fn 34 [])) [(.t 22), (.c (.val (.float .f64 13924712783166832640))), (.c (.val (.float .f64 4701340746312056832)))]), (some (20, true))⟩,
      ⟨(some 24), (.pick (.t 20) (.t 23) (.c (.val (.bool false)))), none⟩,
      ⟨(some 2), (.mv (.t 24)), none⟩] [])
    .ret)
    (.seq
    (.seq
    (.reg false [
      ⟨(some 26), (.bin .eql 3 false true (.t 4) (.c (.val (.int .i64 1)))), none⟩,
      ⟨(some 25), (.mv (.t 26)), none⟩] [])
    (.cond (.t 25)
     .skip
     (.seq
     (.reg false [
       ⟨(some 27), (.bin .eql 3 false true (.t 4) (.c (.val (.int .i64 4)))), none⟩,
       ⟨(some 25), (.mv (.t 27)), none⟩] [])
     (.cond (.t 25)
      .skip
      (.seq
      (.reg false [
        ⟨(some 28), (.bin .eql 3 false true (.t 4) (.c (.val (.int .i64 5)))), none⟩,
        ⟨(some 25), (.mv (.t 28)), none⟩] [])
      (.cond (.t 25)
       .skip
       (.reg false [
         ⟨(some 29), (.bin .eql 3 false true (.t 4) (.c (.val (.int .i64 6)))), none⟩,
         ⟨(some 25), (.mv (.t 29)), none⟩] [])))))))
    (.cond (.t 25)
     (.seq
     (.reg false [
       ⟨(some 30), (.fad 1 (.t 1)), none⟩,
       ⟨(some 31), (.ld 1 false (.t 30)), none⟩,
       ⟨(some 32), (.bin .eql 33 false true (.t 31) (.c (.val (.complex .f64 0 0)))), none⟩,
       ⟨(some 33), (.mv (.t 32)), none⟩,
       ⟨(some 34), (.fad 2 (.t 1)), (some (33, true))⟩,
       ⟨(some 35), (.ld 1 false (.t 34)), (some (33, true))⟩,
       ⟨(some 36), (.bin .eql 41 false true (.t 35) (.c (.val (.float .f64 0)))), (some (33, true))⟩,
       ⟨(some 37), (.pick (.t 33) (.t 36) (.c (.val (.bool false)))), none⟩,
       ⟨(some 2), (.mv (.t 37)), none⟩] [])
     .ret)
     .skip))))))))
 (.seq
 (.reg false [
   ⟨(some 2), (.mv (.c (.val (.bool false)))), none⟩] [])
 .ret))),
 [.tmp 2]⟩

/-- (cenotaph/zone.Step).needs -/
def c32 : CF := ⟨
 (.seq
 (.reg false [
   ⟨(some 1), (.box (.t 0)), none⟩,
   ⟨(some 2), (.mv (.c (.val (.int .i64 0)))), none⟩] [])
 (.seq
 (.seq
 (.reg false [
   ⟨(some 3), (.fad 0 (.t 1)), none⟩,
   ⟨(some 4), (.ld 1 false (.t 3)), none⟩] [])
 (.block 0
  (.seq
  (.reg false [
    ⟨(some 6), (.bin .eql 3 false true (.t 4) (.c (.val (.int .i64 4)))), none⟩,
    ⟨(some 5), (.mv (.t 6)), none⟩] [])
  (.cond (.t 5)
   (.seq
   (.reg false [
     ⟨(some 2), (.mv (.c (.val (.int .i64 1)))), none⟩] [])
   .ret)
   (.seq
   (.seq
   (.reg false [
     ⟨(some 8), (.bin .eql 3 false true (.t 4) (.c (.val (.int .i64 5)))), none⟩,
     ⟨(some 7), (.mv (.t 8)), none⟩] [])
   (.cond (.t 7)
    .skip
    (.reg false [
      ⟨(some 9), (.bin .eql 3 false true (.t 4) (.c (.val (.int .i64 6)))), none⟩,
      ⟨(some 7), (.mv (.t 9)), none⟩] [])))
   (.cond (.t 7)
    (.seq
    (.reg false [
      ⟨(some 2), (.mv (.c (.val (.int .i64 2)))), none⟩] [])
    .ret)
    .skip))))))
 (.seq
 (.reg false [
   ⟨(some 2), (.mv (.c (.val (.int .i64 0)))), none⟩] [])
 .ret))),
 [.tmp 2]⟩

/-- (cenotaph/zone.Step).truth -/
def c33 : CF := ⟨
 (.seq
 (.reg false [
   ⟨(some 3), (.box (.t 0)), none⟩,
   ⟨(some 6), (.mv (.c (.val (.bool false)))), none⟩] [])
 (.seq
 (.seq
 (.reg false [
   ⟨(some 7), (.fad 0 (.t 3)), none⟩,
   ⟨(some 8), (.ld 1 false (.t 7)), none⟩] [])
 (.block 0
  (.seq
  (.reg false [
    ⟨(some 10), (.bin .eql 3 false true (.t 8) (.c (.val (.int .i64 2)))), none⟩,
    ⟨(some 9), (.mv (.t 10)), none⟩] [])
  (.cond (.t 9)
   (.seq
   (.reg true [
     ⟨(some 11), (.mv (.t 1)), none⟩,
     ⟨(some 12), (.fad 1 (.t 3)), none⟩,
     ⟨(some 13), (.ld 1 false (.t 12)), none⟩,
     ⟨(some 14), (.bin .sub 33 false false (.t 11) (.t 13)), none⟩,
     ⟨(some 15), (.mv (.t 1)), none⟩,
     ⟨(some 16), (.fad 1 (.t 3)), none⟩,
     ⟨(some 17), (.ld 1 false (.t 16)), none⟩,
     ⟨(some 18), (.bin .sub 33 false false (.t 15) (.t 17)), none⟩,
     ⟨(some 19), (.call (.c (.fn 46 [])) [(.t 14), (.t 18)]), none⟩,
     ⟨(some 20), (.fad 2 (.t 3)), none⟩,
     ⟨(some 21), (.ld 1 false (.t 20)), none⟩,
     ⟨(some 22), (.fad 2 (.t 3)), none⟩,
     ⟨(some 23), (.ld 1 false (.t 22)), none⟩,
     ⟨(some 24), (.bin .mul 41 false false (.t 21) (.t 23)), none⟩,
     ⟨(some 25), (.bin .leq 41 false false (.t 19) (.t 24)), none⟩,
     ⟨(some 6), (.mv (.t 25)), none⟩] [(8, 10), (8, 12)])
   .ret)
   (.seq
   (.reg false [
     ⟨(some 27), (.bin .eql 3 false true (.t 8) (.c (.val (.int .i64 3)))), none⟩,
     ⟨(some 26), (.mv (.t 27)), none⟩] [])
   (.cond (.t 26)
    (.seq
    (.reg true [
      ⟨(some 28), (.mv (.t 1)), none⟩,
      ⟨(some 29), (.fad 1 (.t 3)), none⟩,
      ⟨(some 30), (.ld 1 false (.t 29)), none⟩,
      ⟨(some 31), (.call (.c (.fn 46 [])) [(.t 28), (.t 30)]), none⟩,
      ⟨(some 32), (.fad 2 (.t 3)), none⟩,
      ⟨(some 33), (.ld 1 false (.t 32)), none⟩,
      ⟨(some 34), (.bin .geq 41 false false (.t 31) (.t 33)), none⟩,
      ⟨(some 6), (.mv (.t 34)), none⟩] [(3, 5)])
    .ret)
    (.seq
    (.reg false [
      ⟨(some 36), (.bin .eql 3 false true (.t 8) (.c (.val (.int .i64 4)))), none⟩,
      ⟨(some 35), (.mv (.t 36)), none⟩] [])
    (.cond (.t 35)
     (.seq
     (.reg false [
       ⟨(some 37), (.mv (.t 2)), none⟩,
       ⟨(some 38), (.ias 1 (.t 37) (.c (.val (.int .i64 0)))), none⟩,
       ⟨(some 39), (.ld 1 false (.t 38)), none⟩,
       ⟨(some 40), (.un .not (.t 39)), none⟩,
       ⟨(some 6), (.mv (.t 40)), none⟩] [])
     .ret)
     (.seq
     (.reg false [
       ⟨(some 42), (.bin .eql 3 false true (.t 8) (.c (.val (.int .i64 5)))), none⟩,
       ⟨(some 41), (.mv (.t 42)), none⟩] [])
     (.cond (.t 41)
      (.seq
      (.reg false [
        ⟨(some 43), (.mv (.t 2)), none⟩,
        ⟨(some 44), (.ias 1 (.t 43) (.c (.val (.int .i64 0)))), none⟩,
        ⟨(some 45), (.ld 1 false (.t 44)), none⟩,
        ⟨(some 46), (.mv (.t 45)), none⟩,
        ⟨(some 47), (.mv (.t 2)), (some (46, true))⟩,
        ⟨(some 48), (.ias 1 (.t 47) (.c (.val (.int .i64 1)))), (some (46, true))⟩,
        ⟨(some 49), (.ld 1 false (.t 48)), (some (46, true))⟩,
        ⟨(some 50), (.pick (.t 46) (.t 49) (.c (.val (.bool false)))), none⟩,
        ⟨(some 6), (.mv (.t 50)), none⟩] [])
      .ret)
      (.seq
      (.reg false [
        ⟨(some 52), (.bin .eql 3 false true (.t 8) (.c (.val (.int .i64 6)))), none⟩,
        ⟨(some 51), (.mv (.t 52)), none⟩] [])
      (.cond (.t 51)
       (.seq
       (.reg false [
         ⟨(some 53), (.mv (.t 2)), none⟩,
         ⟨(some 54), (.ias 1 (.t 53) (.c (.val (.int .i64 0)))), none⟩,
         ⟨(some 55), (.ld 1 false (.t 54)), none⟩,
         ⟨(some 56), (.mv (.t 55)), none⟩,
         ⟨(some 57), (.mv (.t 2)), (some (56, false))⟩,
         ⟨(some 58), (.ias 1 (.t 57) (.c (.val (.int .i64 1)))), (some (56, false))⟩,
         ⟨(some 59), (.ld 1 false (.t 58)), (some (56, false))⟩,
         ⟨(some 60), (.pick (.t 56) (.c (.val (.bool true))) (.t 59)), none⟩,
         ⟨(some 6), (.mv (.t 60)), none⟩] [])
       .ret)
       .skip))))))))))))
 (.seq
 (.reg false [
   ⟨(some 6), (.mv (.c (.val (.bool true)))), none⟩] [])
 .ret))),
 [.tmp 6]⟩

/-- cenotaph/zone.wholeTo -/
def c34 : CF := ⟨
 (.seq
 (.reg false [
   ⟨(some 6), (.mv (.c (.val (.bool false)))), none⟩] [])
 (.seq
 (.reg false [
   ⟨(some 7), (.mv (.t 0)), none⟩,
   ⟨(some 8), (.mv (.t 1)), none⟩,
   ⟨(some 9), (.bin .geq 41 false false (.t 7) (.t 8)), none⟩,
   ⟨(some 10), (.mv (.t 9)), none⟩,
   ⟨(some 11), (.mv (.t 0)), (some (10, true))⟩,
   ⟨(some 12), (.mv (.t 2)), (some (10, true))⟩,
   ⟨(some 13), (.bin .leq 41 false false (.t 11) (.t 12)), (some (10, true))⟩,
   ⟨(some 14), (.pick (.t 10) (.t 13) (.c (.val (.bool false)))), none⟩,
   ⟨(some 15), (.mv (.t 14)), none⟩,
   ⟨(some 16), (.mv (.t 0)), (some (15, true))⟩,
   ⟨(some 17), (.mv (.t 0)), (some (15, true))⟩,
   ⟨(some 18), (.call (.c (.fn 47 [])) [(.t 17)]), (some (15, true))⟩,
   ⟨(some 19), (.bin .eql 41 false false (.t 16) (.t 18)), (some (15, true))⟩,
   ⟨(some 20), (.pick (.t 15) (.t 19) (.c (.val (.bool false)))), none⟩,
   ⟨(some 6), (.mv (.t 20)), none⟩] [])
 .ret)),
 [.tmp 6]⟩

/-- cenotaph/cenotaphref05.near -/
def c35 : CF := ⟨
 (.seq
 (.reg false [
   ⟨(some 4), (.mv (.c (.val (.bool false)))), none⟩] [])
 (.seq
 (.reg false [
   ⟨(some 5), (.mv (.t 0)), none⟩,
   ⟨(some 6), (.mv (.t 1)), none⟩,
   ⟨(some 7), (.un .neg (.t 6)), none⟩,
   ⟨(some 8), (.bin .geq 3 false false (.t 5) (.t 7)), none⟩,
   ⟨(some 9), (.mv (.t 8)), none⟩,
   ⟨(some 10), (.mv (.t 0)), (some (9, true))⟩,
   ⟨(some 11), (.mv (.t 1)), (some (9, true))⟩,
   ⟨(some 12), (.bin .leq 3 false false (.t 10) (.t 11)), (some (9, true))⟩,
   ⟨(some 13), (.pick (.t 9) (.t 12) (.c (.val (.bool false)))), none⟩,
   ⟨(some 4), (.mv (.t 13)), none⟩] [])
 .ret)),
 [.tmp 4]⟩

/-- cenotaph/cenotaphlaw05.Place -/
def c36 : CF := ⟨
 (.seq
 (.reg false [
   ⟨(some 2), (.alloc [(.val (.int .i64 0)), (.val (.int .i64 0))]), none⟩] [])
 (.seq
 (.reg false [
   ⟨(some 3), (.mv (.t 0)), none⟩,
   ⟨(some 4), (.fun_ .real #[33] 41 [(.t 3)]), none⟩,
   ⟨(some 5), (.cv 41 3 (.t 4)), none⟩,
   ⟨(some 6), (.mv (.t 0)), none⟩,
   ⟨(some 7), (.fun_ .imag #[33] 41 [(.t 6)]), none⟩,
   ⟨(some 8), (.cv 41 3 (.t 7)), none⟩,
   ⟨(some 9), (.build [(.val (.int .i64 0)), (.val (.int .i64 0))] [(0, 1, (.t 5)), (1, 1, (.t 8))]), none⟩,
   ⟨none, (.st 2 (.t 2) (.t 9)), none⟩] [])
 .ret)),
 [.cell 2 2 true]⟩

def L38_0 : CC :=
 (.seq
 (.reg false [
   ⟨(some 22), (.bin .lss 3 false true (.t 21) (.c (.val (.int .i64 3)))), none⟩] [])
 (.seq
 (.cond (.t 22)
  .skip
  (.exit 0))
 (.seq
 (.block 1
  (.seq
  (.reg false [
    ⟨(some 23), (.mv (.t 21)), none⟩,
    ⟨(some 6), (.mv (.t 23)), none⟩] [])
  (.seq
  (.reg false [
    ⟨(some 25), (.mv (.t 3)), none⟩,
    ⟨(some 26), (.mv (.t 6)), none⟩,
    ⟨(some 27), (.bin .add 3 true false (.c (.val (.int .i64 1))) (.t 26)), none⟩,
    ⟨(some 28), (.ias 1 (.t 25) (.t 27)), none⟩,
    ⟨(some 29), (.ld 1 false (.t 28)), none⟩,
    ⟨(some 30), (.call (.c (.fn 50 [])) [(.t 29)]), none⟩,
    ⟨(some 24), (.mv (.t 30)), none⟩,
    ⟨(some 31), (.ext (.t 24) 0), none⟩,
    ⟨(some 32), (.ext (.t 24) 1), none⟩,
    ⟨(some 7), (.mv (.t 31)), none⟩,
    ⟨(some 8), (.mv (.t 32)), none⟩] [])
  (.seq
  (.seq
  (.reg false [
    ⟨(some 33), (.mv (.t 8)), none⟩,
    ⟨(some 34), (.nilq true true (.t 33) (.c (.val .nilIface))), none⟩] [])
  (.cond (.t 34)
   (.seq
   (.reg false [
     ⟨(some 35), (.build [(.val (.int .i64 0)), (.val (.complex .f64 0 0)), (.val (.float .f64 0))] []), none⟩,
     ⟨none, (.st 3 (.t 2) (.t 35)), none⟩] [])
   .ret)
   .skip))
  (.reg false [
    ⟨(some 36), (.mv (.t 6)), none⟩,
    ⟨(some 37), (.mv (.t 7)), none⟩,
    ⟨(some 38), (.cv 3 41 (.t 37)), none⟩,
    ⟨(some 39), (.iaa 3 1 (.t 5) (.t 36)), none⟩,
    ⟨none, (.st 1 (.t 39) (.t 38)), none⟩] [])))))
 (.reg false [
   ⟨(some 40), (.bin .add 3 false true (.t 21) (.c (.val (.int .i64 1)))), none⟩,
   ⟨(some 21), (.mv (.t 40)), none⟩] []))))

/-- cenotaph/zone.parsed -/
def c38 : CF := ⟨
 (.seq
 (.reg false [
   ⟨(some 2), (.alloc [(.val (.int .i64 0)), (.val (.complex .f64 0 0)), (.val (.float .f64 0))]), none⟩] [])
 (.seq
 (.reg false [
   ⟨(some 9), (.mv (.t 0)), none⟩,
   ⟨(some 10), (.call (.c (.fn 37 [])) [(.t 9), (.c (.val (.string ⟨#[32]⟩)))]), none⟩,
   ⟨(some 3), (.mv (.t 10)), none⟩] [])
 (.seq
 (.reg true [
   ⟨(some 11), (.call (.c (.fn 41 [])) []), none⟩,
   ⟨(some 12), (.mv (.t 3)), none⟩,
   ⟨(some 13), (.ias 1 (.t 12) (.c (.val (.int .i64 0)))), none⟩,
   ⟨(some 14), (.ld 1 false (.t 13)), none⟩,
   ⟨(some 15), (.call (.c (.fn 49 [])) [(.t 11), (.t 14)]), none⟩,
   ⟨(some 16), (.build [(.val (.int .i64 0)), (.val (.complex .f64 0 0)), (.val (.float .f64 0))] [(0, 1, (.t 15))]), none⟩,
   ⟨(some 4), (.alloc [(.val (.int .i64 0)), (.val (.complex .f64 0 0)), (.val (.float .f64 0))]), none⟩,
   ⟨none, (.st 3 (.t 4) (.t 16)), none⟩] [(0, 3), (0, 6), (3, 6), (4, 6)])
 (.seq
 (.seq
 (.reg false [
   ⟨(some 17), (.mv (.t 3)), none⟩,
   ⟨(some 18), (.len false (.t 17)), none⟩,
   ⟨(some 19), (.bin .neq 3 false true (.t 18) (.c (.val (.int .i64 4)))), none⟩] [])
 (.cond (.t 19)
  (.seq
  (.reg false [
    ⟨(some 20), (.ld 3 true (.t 4)), none⟩,
    ⟨none, (.st 3 (.t 2) (.t 20)), none⟩] [])
  .ret)
  .skip))
 (.seq
 (.reg false [
   ⟨(some 5), (.alloc [(.val (.float .f64 0)), (.val (.float .f64 0)), (.val (.float .f64 0))]), none⟩] [])
 (.seq
 (.seq
 (.reg false [
   ⟨(some 21), (.mv (.c (.val (.int .i64 0)))), none⟩] [])
 (.block 0
  (.loop L38_0)))
 (.seq
 (.reg true [
   ⟨(some 41), (.iaa 3 1 (.t 5) (.c (.val (.int .i64 0)))), none⟩,
   ⟨(some 42), (.ld 1 false (.t 41)), none⟩,
   ⟨(some 43), (.iaa 3 1 (.t 5) (.c (.val (.int .i64 1)))), none⟩,
   ⟨(some 44), (.ld 1 false (.t 43)), none⟩,
   ⟨(some 45), (.fun_ .complex #[41, 41] 33 [(.t 42), (.t 44)]), none⟩,
   ⟨(some 46), (.iaa 3 1 (.t 5) (.c (.val (.int .i64 2)))), none⟩,
   ⟨(some 47), (.ld 1 false (.t 46)), none⟩,
   ⟨(some 48), (.fad 1 (.t 4)), none⟩,
   ⟨none, (.st 1 (.t 48) (.t 45)), none⟩,
   ⟨(some 49), (.fad 2 (.t 4)), none⟩,
   ⟨none, (.st 1 (.t 49) (.t 47)), none⟩] [(6, 8)])
 (.seq
 (.reg false [
   ⟨(some 50), (.ld 3 true (.t 4)), none⟩,
   ⟨none, (.st 3 (.t 2) (.t 50)), none⟩] [])
 .ret)))))))),
 [.cell 2 3 true]⟩

def L39_0 : CC :=
 (.seq
 (.seq
 (.reg false [
   ⟨(some 8), (.mv (.t 7)), none⟩,
   ⟨(some 9), (.mv (.t 0)), none⟩,
   ⟨(some 10), (.len true (.t 9)), none⟩,
   ⟨(some 11), (.bin .leq 3 false false (.t 8) (.t 10)), none⟩] [])
 (.cond (.t 11)
  .skip
  (.exit 0)))
 (.seq
 (.block 1
  (.seq
  (.reg false [
    ⟨(some 14), (.mv (.t 7)), none⟩,
    ⟨(some 15), (.mv (.t 0)), none⟩,
    ⟨(some 16), (.len true (.t 15)), none⟩,
    ⟨(some 17), (.bin .eql 3 false false (.t 14) (.t 16)), none⟩,
    ⟨(some 18), (.mv (.t 17)), none⟩,
    ⟨(some 19), (.mv (.t 0)), (some (18, false))⟩,
    ⟨(some 20), (.mv (.t 7)), (some (18, false))⟩,
    ⟨(some 21), (.ixs (.t 19) (.t 20)), (some (18, false))⟩,
    ⟨(some 22), (.mv (.t 1)), (some (18, false))⟩,
    ⟨(some 23), (.bin .eql 5 false false (.t 21) (.t 22)), (some (18, false))⟩,
    ⟨(some 24), (.pick (.t 18) (.c (.val (.bool true))) (.t 23)), none⟩] [])
  (.cond (.t 24)
   (.seq
   (.reg false [
     ⟨(some 25), (.mv (.t 5)), none⟩,
     ⟨(some 26), (.mv (.t 0)), none⟩,
     ⟨(some 27), (.mv (.t 6)), none⟩,
     ⟨(some 28), (.mv (.t 7)), none⟩,
     ⟨(some 29), (.slc 0 (.t 26) (some (.t 27)) (some (.t 28)) none), none⟩,
     ⟨(some 30), (.bsl 1 1 [(.val (.string ⟨#[]⟩))] [(0, 1, (.t 29))]), none⟩,
     ⟨(some 31), (.app 1 (.t 25) (.t 30)), none⟩,
     ⟨(some 5), (.mv (.t 31)), none⟩] [])
   (.reg false [
     ⟨(some 32), (.mv (.t 7)), none⟩,
     ⟨(some 33), (.bin .add 3 false true (.t 32) (.c (.val (.int .i64 1)))), none⟩,
     ⟨(some 6), (.mv (.t 33)), none⟩] []))
   .skip)))
 (.reg false [
   ⟨(some 12), (.mv (.t 7)), none⟩,
   ⟨(some 13), (.bin .add 3 false true (.t 12) (.c (.val (.int .i64 1)))), none⟩,
   ⟨(some 7), (.mv (.t 13)), none⟩] [])))

/-- cenotaph/cenotaphref05.Split -/
def c39 : CF := ⟨
 (.seq
 (.reg false [
   ⟨(some 4), (.mv (.c (.im [] true))), none⟩] [])
 (.seq
 (.reg false [
   ⟨(some 5), (.mv (.c (.im [] true))), none⟩] [])
 (.seq
 (.reg false [
   ⟨(some 6), (.mv (.c (.val (.int .i64 0)))), none⟩] [])
 (.seq
 (.seq
 (.reg false [
   ⟨(some 7), (.mv (.c (.val (.int .i64 0)))), none⟩] [])
 (.block 0
  (.loop L39_0)))
 (.seq
 (.reg false [
   ⟨(some 34), (.mv (.t 5)), none⟩,
   ⟨(some 4), (.mv (.t 34)), none⟩] [])
 .ret))))),
 [.tmp 4]⟩

def L40_0 : CC :=
 (.seq
 (.seq
 (.reg false [
   ⟨(some 27), (.mv (.t 7)), none⟩,
   ⟨(some 28), (.mv (.t 5)), none⟩,
   ⟨(some 29), (.len true (.t 28)), none⟩,
   ⟨(some 30), (.bin .lss 3 false false (.t 27) (.t 29)), none⟩] [])
 (.cond (.t 30)
  .skip
  (.exit 0)))
 (.seq
 (.block 1
  (.seq
  (.seq
  (.reg false [
    ⟨(some 33), (.mv (.t 5)), none⟩,
    ⟨(some 34), (.mv (.t 7)), none⟩,
    ⟨(some 35), (.ixs (.t 33) (.t 34)), none⟩,
    ⟨(some 36), (.bin .lss 5 false true (.t 35) (.c (.val (.int .u8 48)))), none⟩,
    ⟨(some 37), (.mv (.t 36)), none⟩,
    ⟨(some 38), (.mv (.t 5)), (some (37, false))⟩,
    ⟨(some 39), (.mv (.t 7)), (some (37, false))⟩,
    ⟨(some 40), (.ixs (.t 38) (.t 39)), (some (37, false))⟩,
    ⟨(some 41), (.bin .gtr 5 false true (.t 40) (.c (.val (.int .u8 57)))), (some (37, false))⟩,
    ⟨(some 42), (.pick (.t 37) (.c (.val (.bool true))) (.t 41)), none⟩] [])
  (.cond (.t 42)
   (.seq
   (.reg false [
     ⟨(some 2), (.mv (.c (.val (.int .i64 0)))), none⟩,
     ⟨(some 3), (.mv (.c (.val (.bool false)))), none⟩] [])
   .ret)
   .skip))
  (.reg false [
    ⟨(some 43), (.mv (.t 6)), none⟩,
    ⟨(some 44), (.bin .mul 3 true false (.c (.val (.int .i64 10))) (.t 43)), none⟩,
    ⟨(some 45), (.mv (.t 5)), none⟩,
    ⟨(some 46), (.mv (.t 7)), none⟩,
    ⟨(some 47), (.ixs (.t 45) (.t 46)), none⟩,
    ⟨(some 48), (.bin .sub 5 false true (.t 47) (.c (.val (.int .u8 48)))), none⟩,
    ⟨(some 49), (.cv 5 3 (.t 48)), none⟩,
    ⟨(some 50), (.bin .add 3 false false (.t 44) (.t 49)), none⟩,
    ⟨(some 6), (.mv (.t 50)), none⟩] [])))
 (.reg false [
   ⟨(some 31), (.mv (.t 7)), none⟩,
   ⟨(some 32), (.bin .add 3 false true (.t 31) (.c (.val (.int .i64 1)))), none⟩,
   ⟨(some 7), (.mv (.t 32)), none⟩] [])))

/-- cenotaph/cenotaphref05.Int -/
def c40 : CF := ⟨
 (.seq
 (.reg false [
   ⟨(some 2), (.mv (.c (.val (.int .i64 0)))), none⟩,
   ⟨(some 3), (.mv (.c (.val (.bool false)))), none⟩] [])
 (.seq
 (.reg false [
   ⟨(some 8), (.mv (.t 0)), none⟩,
   ⟨(some 4), (.mv (.c (.val (.int .i64 1)))), none⟩,
   ⟨(some 5), (.mv (.t 8)), none⟩] [])
 (.seq
 (.seq
 (.reg false [
   ⟨(some 9), (.mv (.t 0)), none⟩,
   ⟨(some 10), (.len true (.t 9)), none⟩,
   ⟨(some 11), (.bin .gtr 3 false true (.t 10) (.c (.val (.int .i64 0)))), none⟩,
   ⟨(some 12), (.mv (.t 11)), none⟩,
   ⟨(some 13), (.mv (.t 0)), (some (12, true))⟩,
   ⟨(some 14), (.ixs (.t 13) (.c (.val (.int .i64 0)))), (some (12, true))⟩,
   ⟨(some 15), (.bin .eql 5 false true (.t 14) (.c (.val (.int .u8 45)))), (some (12, true))⟩,
   ⟨(some 16), (.pick (.t 12) (.t 15) (.c (.val (.bool false)))), none⟩] [])
 (.cond (.t 16)
  (.reg true [
    ⟨(some 17), (.mv (.t 0)), none⟩,
    ⟨(some 18), (.slc 0 (.t 17) (some (.c (.val (.int .i64 1)))) none none), none⟩,
    ⟨(some 4), (.mv (.c (.val (.int .i64 (-1))))), none⟩,
    ⟨(some 5), (.mv (.t 18)), none⟩] [])
  .skip))
 (.seq
 (.seq
 (.reg false [
   ⟨(some 19), (.mv (.t 5)), none⟩,
   ⟨(some 20), (.len true (.t 19)), none⟩,
   ⟨(some 21), (.bin .lss 3 false true (.t 20) (.c (.val (.int .i64 1)))), none⟩,
   ⟨(some 22), (.mv (.t 21)), none⟩,
   ⟨(some 23), (.mv (.t 5)), (some (22, false))⟩,
   ⟨(some 24), (.len true (.t 23)), (some (22, false))⟩,
   ⟨(some 25), (.bin .gtr 3 false true (.t 24) (.c (.val (.int .i64 7)))), (some (22, false))⟩,
   ⟨(some 26), (.pick (.t 22) (.c (.val (.bool true))) (.t 25)), none⟩] [])
 (.cond (.t 26)
  (.seq
  (.reg false [
    ⟨(some 2), (.mv (.c (.val (.int .i64 0)))), none⟩,
    ⟨(some 3), (.mv (.c (.val (.bool false)))), none⟩] [])
  .ret)
  .skip))
 (.seq
 (.reg false [
   ⟨(some 6), (.mv (.c (.val (.int .i64 0)))), none⟩] [])
 (.seq
 (.seq
 (.reg false [
   ⟨(some 7), (.mv (.c (.val (.int .i64 0)))), none⟩] [])
 (.block 0
  (.loop L40_0)))
 (.seq
 (.reg false [
   ⟨(some 51), (.mv (.t 4)), none⟩,
   ⟨(some 52), (.mv (.t 6)), none⟩,
   ⟨(some 53), (.bin .mul 3 false false (.t 51) (.t 52)), none⟩,
   ⟨(some 6), (.mv (.t 53)), none⟩] [])
 (.seq
 (.reg false [
   ⟨(some 54), (.mv (.t 6)), none⟩,
   ⟨(some 55), (.mv (.t 6)), none⟩,
   ⟨(some 56), (.call (.c (.fn 44 [])) [(.t 55)]), none⟩,
   ⟨(some 57), (.mv (.t 0)), none⟩,
   ⟨(some 58), (.bin .eql 9 false false (.t 56) (.t 57)), none⟩,
   ⟨(some 2), (.mv (.t 54)), none⟩,
   ⟨(some 3), (.mv (.t 58)), none⟩] [])
 .ret)))))))),
 [.tmp 2, .tmp 3]⟩

/-- cenotaph/zone.names -/
def c41 : CF := ⟨
 (.seq
 (.reg false [
   ⟨(some 0), (.mv (.c (.im [] true))), none⟩] [])
 (.seq
 (.reg false [
   ⟨(some 1), (.bsl 1 7 [(.val (.string ⟨#[]⟩)), (.val (.string ⟨#[]⟩)), (.val (.string ⟨#[]⟩)), (.val (.string ⟨#[]⟩)), (.val (.string ⟨#[]⟩)), (.val (.string ⟨#[]⟩)), (.val (.string ⟨#[]⟩))] [(0, 1, (.c (.val (.string ⟨#[]⟩)))), (1, 1, (.c (.val (.string ⟨#[97, 108, 108]⟩)))), (2, 1, (.c (.val (.string ⟨#[100, 105, 115, 99]⟩)))), (3, 1, (.c (.val (.string ⟨#[104, 97, 108, 102]⟩)))), (4, 1, (.c (.val (.string ⟨#[110, 111, 116]⟩)))), (5, 1, (.c (.val (.string ⟨#[97, 110, 100]⟩)))), (6, 1, (.c (.val (.string ⟨#[111, 114]⟩))))]), none⟩,
   ⟨(some 0), (.mv (.t 1)), none⟩] [])
 .ret)),
 [.tmp 0]⟩

/-- cenotaph/zone.number -/
def c43 : CF := ⟨
 (.seq
 (.reg false [
   ⟨(some 2), (.mv (.c (.val (.string ⟨#[]⟩)))), none⟩] [])
 (.seq
 (.reg false [
   ⟨(some 3), (.mv (.t 0)), none⟩,
   ⟨(some 4), (.cv 41 3 (.t 3)), none⟩,
   ⟨(some 5), (.call (.c (.fn 54 [])) [(.t 4)]), none⟩,
   ⟨(some 2), (.mv (.t 5)), none⟩] [])
 .ret)),
 [.tmp 2]⟩

/-- cenotaph/cenotaphref05.Num -/
def c44 : CF := ⟨
 (.seq
 (.reg false [
   ⟨(some 2), (.mv (.c (.val (.string ⟨#[]⟩)))), none⟩] [])
 (.seq
 (.seq
 (.reg false [
   ⟨(some 3), (.mv (.t 0)), none⟩,
   ⟨(some 4), (.bin .lss 3 false true (.t 3) (.c (.val (.int .i64 0)))), none⟩,
   ⟨(some 5), (.mv (.t 4)), none⟩,
   ⟨(some 6), (.mv (.t 0)), (some (5, true))⟩,
   ⟨(some 7), (.bin .gtr 3 false true (.t 6) (.c (.val (.int .i64 (-1000000000))))), (some (5, true))⟩,
   ⟨(some 8), (.pick (.t 5) (.t 7) (.c (.val (.bool false)))), none⟩] [])
 (.cond (.t 8)
  (.seq
  (.reg false [
    ⟨(some 9), (.mv (.t 0)), none⟩,
    ⟨(some 10), (.un .neg (.t 9)), none⟩,
    ⟨(some 11), (.call (.c (.fn 44 [])) [(.t 10)]), none⟩,
    ⟨(some 12), (.bin .add 9 true false (.c (.val (.string ⟨#[45]⟩))) (.t 11)), none⟩,
    ⟨(some 2), (.mv (.t 12)), none⟩] [])
  .ret)
  .skip))
 (.seq
 (.seq
 (.reg false [
   ⟨(some 13), (.mv (.t 0)), none⟩,
   ⟨(some 14), (.bin .lss 3 false true (.t 13) (.c (.val (.int .i64 10)))), none⟩] [])
 (.cond (.t 14)
  (.seq
  (.reg false [
    ⟨(some 15), (.mv (.t 0)), none⟩,
    ⟨(some 16), (.fun_ .max #[3, 3] 3 [(.t 15), (.c (.val (.int .i64 0)))]), none⟩,
    ⟨(some 17), (.mv (.t 0)), none⟩,
    ⟨(some 18), (.fun_ .max #[3, 3] 3 [(.t 17), (.c (.val (.int .i64 0)))]), none⟩,
    ⟨(some 19), (.bin .add 3 false true (.t 18) (.c (.val (.int .i64 1)))), none⟩,
    ⟨(some 20), (.slc 0 (.c (.val (.string ⟨#[48, 49, 50, 51, 52, 53, 54, 55, 56, 57]⟩))) (some (.t 16)) (some (.t 19)) none), none⟩,
    ⟨(some 2), (.mv (.t 20)), none⟩] [])
  .ret)
  .skip))
 (.seq
 (.reg true [
   ⟨(some 21), (.mv (.t 0)), none⟩,
   ⟨(some 22), (.bin .quo 3 false true (.t 21) (.c (.val (.int .i64 10)))), none⟩,
   ⟨(some 23), (.call (.c (.fn 44 [])) [(.t 22)]), none⟩,
   ⟨(some 24), (.mv (.t 0)), none⟩,
   ⟨(some 25), (.bin .rem 3 false true (.t 24) (.c (.val (.int .i64 10)))), none⟩,
   ⟨(some 26), (.mv (.t 0)), none⟩,
   ⟨(some 27), (.bin .rem 3 false true (.t 26) (.c (.val (.int .i64 10)))), none⟩,
   ⟨(some 28), (.bin .add 3 false true (.t 27) (.c (.val (.int .i64 1)))), none⟩,
   ⟨(some 29), (.slc 0 (.c (.val (.string ⟨#[48, 49, 50, 51, 52, 53, 54, 55, 56, 57]⟩))) (some (.t 25)) (some (.t 28)) none), none⟩,
   ⟨(some 30), (.bin .add 9 false false (.t 23) (.t 29)), none⟩,
   ⟨(some 2), (.mv (.t 30)), none⟩] [(2, 8)])
 .ret)))),
 [.tmp 2]⟩

def L45_0 : CC :=
 (.seq
 (.reg false [
   ⟨(some 14), (.bin .lss 3 false false (.t 13) (.t 12)), none⟩] [])
 (.seq
 (.cond (.t 14)
  .skip
  (.exit 0))
 (.seq
 (.block 1
  (.seq
  (.reg false [
    ⟨(some 15), (.mv (.t 13)), none⟩,
    ⟨(some 5), (.mv (.t 15)), none⟩] [])
  (.seq
  (.reg true [
    ⟨(some 16), (.mv (.t 0)), none⟩,
    ⟨(some 17), (.mv (.t 5)), none⟩,
    ⟨(some 18), (.ias 3 (.t 16) (.t 17)), none⟩,
    ⟨(some 19), (.ld 3 true (.t 18)), none⟩,
    ⟨(some 20), (.mv (.t 1)), none⟩,
    ⟨(some 21), (.mv (.t 5)), none⟩,
    ⟨(some 22), (.ias 3 (.t 20) (.t 21)), none⟩,
    ⟨(some 23), (.ld 3 true (.t 22)), none⟩,
    ⟨(some 24), (.bin .neq 51 false false (.t 19) (.t 23)), none⟩] [])
  (.cond (.t 24)
   (.seq
   (.reg false [
     ⟨(some 4), (.mv (.c (.val (.bool false)))), none⟩] [])
   .ret)
   .skip))))
 (.reg false [
   ⟨(some 25), (.bin .add 3 false true (.t 13) (.c (.val (.int .i64 1)))), none⟩,
   ⟨(some 13), (.mv (.t 25)), none⟩] []))))

/-- slices.Equal[cenotaph/zone.Zone,cenotaph/zone.Step] -/
def c45 : CF := ⟨
 (.seq
 (.reg false [
   ⟨(some 4), (.mv (.c (.val (.bool false)))), none⟩] [])
 (.seq
 (.seq
 (.reg false [
   ⟨(some 6), (.mv (.t 0)), none⟩,
   ⟨(some 7), (.len false (.t 6)), none⟩,
   ⟨(some 8), (.mv (.t 1)), none⟩,
   ⟨(some 9), (.len false (.t 8)), none⟩,
   ⟨(some 10), (.bin .neq 3 false false (.t 7) (.t 9)), none⟩] [])
 (.cond (.t 10)
  (.seq
  (.reg false [
    ⟨(some 4), (.mv (.c (.val (.bool false)))), none⟩] [])
  .ret)
  .skip))
 (.seq
 (.seq
 (.reg false [
   ⟨(some 11), (.mv (.t 0)), none⟩,
   ⟨(some 12), (.len false (.t 11)), none⟩,
   ⟨(some 13), (.mv (.c (.val (.int .i64 0)))), none⟩] [])
 (.block 0
  (.loop L45_0)))
 (.seq
 (.reg false [
   ⟨(some 4), (.mv (.c (.val (.bool true)))), none⟩] [])
 .ret)))),
 [.tmp 4]⟩

/-- cenotaph/zone.along -/
def c46 : CF := ⟨
 (.seq
 (.reg false [
   ⟨(some 4), (.mv (.c (.val (.float .f64 0)))), none⟩] [])
 (.seq
 (.reg false [
   ⟨(some 5), (.mv (.t 0)), none⟩,
   ⟨(some 6), (.mv (.t 1)), none⟩,
   ⟨(some 7), (.call (.c (.fn 55 [])) [(.t 6)]), none⟩,
   ⟨(some 8), (.bin .mul 33 false false (.t 5) (.t 7)), none⟩,
   ⟨(some 9), (.fun_ .real #[33] 41 [(.t 8)]), none⟩,
   ⟨(some 4), (.mv (.t 9)), none⟩] [])
 .ret)),
 [.tmp 4]⟩

/-- math.Trunc -/
def c47 : CF := ⟨
 (.seq
 (.reg false [
   ⟨(some 2), (.mv (.c (.val (.float .f64 0)))), none⟩] [])
 (.seq
 (.cond (.c (.val (.bool true)))
  (.seq
  (.reg false [
    ⟨(some 3), (.mv (.t 0)), none⟩,
    ⟨(some 4), (.call (.c (.fn 56 [])) [(.t 3)]), none⟩,
    ⟨(some 2), (.mv (.t 4)), none⟩] [])
  .ret)
  .skip)
 (.seq
 (.reg false [
   ⟨(some 5), (.mv (.t 0)), none⟩,
   ⟨(some 6), (.call (.c (.fn 57 [])) [(.t 5)]), none⟩,
   ⟨(some 2), (.mv (.t 6)), none⟩] [])
 .ret))),
 [.tmp 2]⟩

def L49_0 : CC :=
 (.seq
 (.reg false [
   ⟨(some 9), (.bin .lss 3 false false (.t 8) (.t 7)), none⟩] [])
 (.seq
 (.cond (.t 9)
  .skip
  (.exit 0))
 (.seq
 (.block 1
  (.seq
  (.reg false [
    ⟨(some 10), (.mv (.t 8)), none⟩,
    ⟨(some 5), (.mv (.t 10)), none⟩] [])
  (.seq
  (.reg false [
    ⟨(some 11), (.mv (.t 1)), none⟩,
    ⟨(some 12), (.mv (.t 0)), none⟩,
    ⟨(some 13), (.mv (.t 5)), none⟩,
    ⟨(some 14), (.ias 1 (.t 12) (.t 13)), none⟩,
    ⟨(some 15), (.ld 1 false (.t 14)), none⟩,
    ⟨(some 16), (.bin .eql 9 false false (.t 11) (.t 15)), none⟩] [])
  (.cond (.t 16)
   (.seq
   (.reg false [
     ⟨(some 17), (.mv (.t 5)), none⟩,
     ⟨(some 4), (.mv (.t 17)), none⟩] [])
   .ret)
   .skip))))
 (.reg false [
   ⟨(some 18), (.bin .add 3 false true (.t 8) (.c (.val (.int .i64 1)))), none⟩,
   ⟨(some 8), (.mv (.t 18)), none⟩] []))))

/-- slices.Index[[]string,string] -/
def c49 : CF := ⟨
 (.seq
 (.reg false [
   ⟨(some 4), (.mv (.c (.val (.int .i64 0)))), none⟩] [])
 (.seq
 (.seq
 (.reg false [
   ⟨(some 6), (.mv (.t 0)), none⟩,
   ⟨(some 7), (.len false (.t 6)), none⟩,
   ⟨(some 8), (.mv (.c (.val (.int .i64 0)))), none⟩] [])
 (.block 0
  (.loop L49_0)))
 (.seq
 (.reg false [
   ⟨(some 4), (.mv (.c (.val (.int .i64 (-1))))), none⟩] [])
 .ret))),
 [.tmp 4]⟩

/-- cenotaph/zone.conjugate -/
def c55 : CF := ⟨
 (.seq
 (.reg false [
   ⟨(some 2), (.mv (.c (.val (.complex .f64 0 0)))), none⟩] [])
 (.seq
 (.reg false [
   ⟨(some 3), (.mv (.t 0)), none⟩,
   ⟨(some 4), (.fun_ .real #[33] 41 [(.t 3)]), none⟩,
   ⟨(some 5), (.mv (.t 0)), none⟩,
   ⟨(some 6), (.fun_ .imag #[33] 41 [(.t 5)]), none⟩,
   ⟨(some 7), (.un .neg (.t 6)), none⟩,
   ⟨(some 8), (.fun_ .complex #[41, 41] 33 [(.t 4), (.t 7)]), none⟩,
   ⟨(some 2), (.mv (.t 8)), none⟩] [])
 .ret)),
 [.tmp 2]⟩

def tab : FuncId → Option CF
  | 3 => some c3
  | 4 => some c4
  | 5 => some c5
  | 6 => some c6
  | 7 => some c7
  | 8 => some c8
  | 9 => some c9
  | 10 => some c10
  | 11 => some c11
  | 12 => some c12
  | 13 => some c13
  | 14 => some c14
  | 15 => some c15
  | 16 => some c16
  | 17 => some c17
  | 18 => some c18
  | 19 => some c19
  | 20 => some c20
  | 21 => some c21
  | 22 => some c22
  | 23 => some c23
  | 24 => some c24
  | 25 => some c25
  | 26 => some c26
  | 27 => some c27
  | 28 => some c28
  | 29 => some c29
  | 30 => some c30
  | 31 => some c31
  | 32 => some c32
  | 33 => some c33
  | 34 => some c34
  | 35 => some c35
  | 36 => some c36
  | 38 => some c38
  | 39 => some c39
  | 40 => some c40
  | 41 => some c41
  | 43 => some c43
  | 44 => some c44
  | 45 => some c45
  | 46 => some c46
  | 47 => some c47
  | 49 => some c49
  | 55 => some c55
  | _ => none
end Go.Evl.Zone

/- The zone statements: the library's functions that are taken as told. -/
set_option linter.unusedVariables false
namespace Go.Evl.Zone
open Go Go.Evl

/-- What stands between bytes of a kind. -/
def splitL (c : UInt8) : List UInt8 → List (List UInt8)
  | [] => [[]]
  | b :: l => if b = c then [] :: splitL c l else match splitL c l with
    | x :: xs => (b :: x) :: xs
    | [] => [[b]]

def joinL (sep : List UInt8) : List (List UInt8) → List UInt8
  | [] => []
  | [x] => x
  | x :: y :: r => x ++ sep ++ joinL sep (y :: r)

/-- A number's digits, of 'f' at most. -/
def digL : Nat → Nat → List UInt8 → List UInt8
  | 0, _, acc => acc
  | f + 1, n, acc => if n < 10 then UInt8.ofNat (48 + n) :: acc else digL f (n / 10) (UInt8.ofNat (48 + n % 10) :: acc)

def itoaL (n : Int) : List UInt8 := if n < 0 then 45 :: digL 20 n.natAbs [] else digL 20 n.natAbs []

def strOf (l : List UInt8) : PV := .val (.string ⟨l.toArray⟩)

def strs : List (List PV) → Option (List (List UInt8))
  | [] => some []
  | [.val (.string s)] :: r => (strs r).map fun l => s.data.toList :: l
  | _ :: _ => none

def pSplit (args : List PV) (H : Heap) : Option ORes :=
  match args with
  | [.val (.string s), .val (.string p)] => match p.data.toList with
    | [c] => if s.size < 4294967281 then some ⟨.im ((splitL c s.data.toList).map fun x => [strOf x]) false, H, [], some []⟩ else none
    | _ => none
  | _ => none

def pJoin (args : List PV) (H : Heap) : Option ORes :=
  match args with
  | [.val _, _] => none
  | [x, .val (.string p)] => match elems H 1 x with
    | some (xs, is) => match strs xs with
      | some l => if l.length ≤ 140737488355328 ∧ (joinL p.data.toList l).length ≤ 140737488355328 then some ⟨strOf (joinL p.data.toList l), H, [], some is⟩ else none
      | none => none
    | none => none
  | _ => none

def pItoa (args : List PV) (H : Heap) : Option ORes :=
  match args with
  | [.val (.int .i64 n)] => if -9223372036854775808 ≤ n ∧ n ≤ 9223372036854775807 then some ⟨strOf (itoaL n), H, [], some []⟩ else none
  | _ => none

def pAtoi (args : List PV) (H : Heap) : Option ORes :=
  match args with
  | [.val (.string s)] => if s.size ≤ 281474976710656 then
      match Lib.atoiAll s.data.toList with
      | .ok v => some ⟨.tup [.val (.int .i64 v), .val .nilIface], H, [], some []⟩
      | .range => some ⟨.tup [.val (.int .i64 (Lib.atoiSat s.data.toList)), .ifc], H, [], some []⟩
      | _ => some ⟨.tup [.val (.int .i64 0), .ifc], H, [], some []⟩
    else none
  | _ => none

def pTrunc (args : List PV) (H : Heap) : Option ORes :=
  match args with
  | [.val (.float .f64 b)] => match FloatKind.f64.decode b with
    | .nan _ _ => none
    | d => some ⟨.val (.float .f64 (FloatKind.f64.encode (d.integral .zero))), H, [], some []⟩
  | _ => none

def prim : FuncId → Option (List PV → Heap → Option ORes)
  | 37 => some pSplit
  | 42 => some pJoin
  | 50 => some pAtoi
  | 54 => some pItoa
  | 56 => some pTrunc
  | _ => none

def env (P : Program) : Env := ⟨P, fun _ _ => .own, tab, prim⟩

end Go.Evl.Zone

/- The zone statements: the small functions of numbers. -/
namespace Go.Evl.Zone
open Go Go.Evl Go.Evl.Fl
set_option linter.unusedSimpArgs false
set_option linter.unusedVariables false
attribute [local simp] VB_ite VG_ite
variable {P : Program}

/-- What the zone statements ask of the program's types. -/
structure Typed (P : Program) : Prop where
  t3 : P.underlying 3 = some (.int .i64)
  t5 : P.underlying 5 = some (.int .u8)
  t53 : P.underlying 53 = some (.int .u64)
  t41 : P.underlying 41 = some (.float .f64)

theorem ownE {f g : FuncId} {xs : List O} {dst : Option Nat} {rest : List CI} {i slot slot' : Nat} {log : Log} {d : Option (Nat × List (Nat × Nat))} {K : Ex → St → Prop} {st : St} {ks : List Fr'} (hp : (prim g).isNone = true) :
    VA (env P) f (.call (.c (.fn g [])) xs) dst rest i slot slot' st log d ks K ↔ VP (env P) f (ownA (env P) g st.h (expAs st.h (xs.map (evO st.σ)))) dst rest i slot' st log d ks K := VA_own hp rfl

@[simp] theorem env_P : (env P).P = P := rfl

attribute [simp] VA_pop ret1 nAlloc allocs start expV expA expC expCs expAs flatV flatA flatC ownE prim Value.oneCell' cellP cellsOf loadC_ptr loadC_ip loadC_rp loadP_ob storeC_ptr storeC_rp fillP setL slice0 ordered look apart hits

theorem evBin_ford {t : TypeId} {cx cy : Bool} {a b : Nat} {m n : Int} (ha : Is a m) (hb : Is b n) :
    evBin P .geq t cx cy (.val (.float .f64 a)) (.val (.float .f64 b)) = some (.val (.bool (decide (n ≤ m)))) ∧
    evBin P .leq t cx cy (.val (.float .f64 a)) (.val (.float .f64 b)) = some (.val (.bool (decide (m ≤ n)))) ∧
    evBin P .eql t cx cy (.val (.float .f64 a)) (.val (.float .f64 b)) = some (.val (.bool (decide (m = n)))) := by
  have ho : FloatKind.f64.format.order a b = some (compare m n) := ha.order hb
  rw [evBin_fgeq, evBin_fleq, evBin_feql, ho]
  simp only [compare, compareOfLessAndEq]
  rcases Int.lt_trichotomy m n with h | h | h
  · have h1 : ¬ n ≤ m := by omega
    have h2 : m ≤ n := by omega
    have h3 : ¬ m = n := by omega
    simp [h, h1, h2, h3]
  · subst h; simp
  · have h0 : ¬ m < n := by omega
    have h1 : n ≤ m := by omega
    have h2 : ¬ m ≤ n := by omega
    have h3 : ¬ m = n := by omega
    simp [h0, h1, h2, h3]

theorem pTrunc_is {b : Nat} {n : Int} {H : Heap} (h : Is b n) : pTrunc [.val (.float .f64 b)] H = some ⟨.val (.float .f64 b), H, [], some []⟩ := by
  have h1 := h.integral
  unfold pTrunc
  simp only
  split
  · rename_i s t hd; rw [hd] at h1; simp [Ieee.Datum.isNaN] at h1
  · rw [h1.1]

theorem trunc_is {b : Nat} {n : Int} (h : Is b n) : ans (env P) 47 [.val (.float .f64 b)] = some (.val (.float .f64 b)) := by
  refine ans_V rfl rfl ?_
  simp [c47, VA_prim (E := env P) (g := 56) (p := pTrunc) rfl, pTrunc_is h]

theorem wholeTo_is {x lo hi : Nat} {m l h : Int} (hx : Is x m) (hl : Is lo l) (hh : Is hi h) : ans (env P) 34 [.val (.float .f64 x), .val (.float .f64 lo), .val (.float .f64 hi)] = some (.val (.bool (decide (l ≤ m) && decide (m ≤ h)))) := by
  refine ans_V rfl rfl ?_
  by_cases h1 : l ≤ m
  · by_cases h2 : m ≤ h
    · simp [c34, (evBin_ford hx hl).1, (evBin_ford hx hh).2.1, (evBin_ford hx hx).2.2, h1, h2, trunc_is hx]
    · simp [c34, (evBin_ford hx hl).1, (evBin_ford hx hh).2.1, h1, h2]
  · simp [c34, (evBin_ford hx hl).1, h1]

theorem is_const {n : Int} {b : Nat} (h : FloatKind.f64.nearest n = b) (hn : n.natAbs < 2 ^ 53) : Is b n := h ▸ Is.nearest hn

theorem is0 : Is 0 0 := is_const (n := 0) (by decide +kernel) (by decide)
theorem isM1000 : Is 13875379345695965184 (-1000) := is_const (n := -1000) (by decide +kernel) (by decide)
theorem is1000 : Is 4652007308841189376 1000 := is_const (n := 1000) (by decide +kernel) (by decide)
theorem is2000 : Is 4656510908468559872 2000 := is_const (n := 2000) (by decide +kernel) (by decide)
theorem is2M : Is 4701340746312056832 2000000 := is_const (n := 2000000) (by decide +kernel) (by decide)
theorem isM2M : Is 13924712783166832640 (-2000000) := is_const (n := -2000000) (by decide +kernel) (by decide)

def near (m : Int) : Bool := decide (-1000 ≤ m) && decide (m ≤ 1000)

theorem whole_is {a b : Nat} {m n : Int} (ha : Is a m) (hb : Is b n) : ans (env P) 18 [.val (.complex .f64 a b)] = some (.val (.bool (near m && near n))) := by
  refine ans_V rfl rfl ?_
  have h1' := wholeTo_is (P := P) ha isM1000 is1000
  have h2' := wholeTo_is (P := P) hb isM1000 is1000
  rw [← near] at h1' h2'
  cases h1 : near m <;> simp [c18, h1', h2', h1]

end Go.Evl.Zone

/- The zone statements: places and steps. -/
namespace Go.Evl.Zone
open Go Go.Evl Go.Evl.Fl
set_option linter.unusedSimpArgs false
set_option linter.unusedVariables false
attribute [local simp] VB_ite VG_ite
variable {P : Program}

/-- A place's part, out of any number. -/
def spotN (x : Int) : Int := x % 18446744073709551616 % 2001 - 1000

theorem spotN_near (x : Int) : near (spotN x) = true := by
  unfold near spotN
  rw [Bool.and_eq_true, decide_eq_true_eq, decide_eq_true_eq]; omega

def placeV (x y : Int) : PV := .agg [.val (.int .i64 x), .val (.int .i64 y)]

theorem wrap64_id {n : Int} (h : -9223372036854775808 ≤ n ∧ n ≤ 9223372036854775807) : IntKind.i64.wrap n = n := by rw [IntKind.wrap_i64]; omega

theorem wrapU64 {n : Int} : IntKind.u64.wrap n = n % 18446744073709551616 := rfl

theorem tmod_pos {a b : Int} (ha : 0 ≤ a) (hb : 0 ≤ b) : a.tmod b = a % b := Int.tmod_eq_emod_of_nonneg ha

theorem refSpot_ans (T : Typed P) {x y : Int} : ans (env P) 11 [placeV x y] = some (placeV (spotN x) (spotN y)) := by
  refine ans_V rfl rfl ?_
  have e3 : ∀ n : Int, scal P (Go.convert 3 53 (.int .i64 n)) = some (.val (.int .u64 (n % 18446744073709551616))) := fun n => by
    rw [cv_ii (k := .u64) (by show (P.underlying 3).isSome = true; rw [T.t3]; rfl) T.t53, wrapU64]
  have e4 : ∀ n : Int, scal P (Go.convert 53 3 (.int .u64 (n % 18446744073709551616 % 2001))) = some (.val (.int .i64 (n % 18446744073709551616 % 2001))) := fun n => by
    rw [cv_ii (k := .i64) (by show (P.underlying 53).isSome = true; rw [T.t53]; rfl) T.t3, wrap64_id (by omega)]
  have e5 : ∀ n : Int, (n % 18446744073709551616).tmod 2001 = n % 18446744073709551616 % 2001 := fun n => tmod_pos (by omega) (by omega)
  have e6 : ∀ n : Int, IntKind.i64.wrap (n % 18446744073709551616 % 2001 - 1000) = spotN n := fun n => wrap64_id (by omega)
  simp [c11, placeV, e3, e4, e5, e6]

theorem spot_ans (T : Typed P) {x y : Int} : ans (env P) 16 [placeV x y] = some (.val (.complex .f64 (FloatKind.f64.nearest x) (FloatKind.f64.nearest y))) := by
  refine ans_V rfl rfl ?_
  have e3 : ∀ n : Int, scal P (Go.convert 3 41 (.int .i64 n)) = some (.val (.float .f64 (FloatKind.f64.nearest n))) := fun n => cv_if (by show (P.underlying 3).isSome = true; rw [T.t3]; rfl) T.t41
  simp [c16, placeV, e3]

/-! ### Steps -/

def stepV (op : Int) (re im sz : Nat) : PV := .agg [.val (.int .i64 op), .val (.complex .f64 re im), .val (.float .f64 sz)]

def needsN (op : Int) : Int := if op = 4 then 1 else if op = 5 ∨ op = 6 then 2 else 0

theorem needs_ans {op : Int} {re im sz : Nat} : ans (env P) 32 [stepV op re im sz] = some (.val (.int .i64 (needsN op))) := by
  refine ans_V rfl rfl ?_
  by_cases h4 : op = 4
  · simp [c32, stepV, needsN, h4]
  · by_cases h5 : op = 5
    · simp [c32, stepV, needsN, h5]
    · by_cases h6 : op = 6
      · simp [c32, stepV, needsN, h6]
      · simp [c32, stepV, needsN, h4, h5, h6]

def rightB (op x y s : Int) : Bool :=
  if op = 2 then near x && near y && (decide (0 ≤ s) && decide (s ≤ 2000))
  else if op = 3 then near x && near y && (decide (-2000000 ≤ s) && decide (s ≤ 2000000))
  else if op = 1 ∨ op = 4 ∨ op = 5 ∨ op = 6 then decide (x = 0) && decide (y = 0) && decide (s = 0)
  else false

theorem ceql0 {a b : Nat} {x y : Int} (ha : Is a x) (hb : Is b y) {t : TypeId} {cx cy : Bool} :
    evBin P .eql t cx cy (.val (.complex .f64 a b)) (.val (.complex .f64 0 0)) = some (.val (.bool (decide (x = 0) && decide (y = 0)))) := by
  have h1 : FloatKind.f64.format.order a 0 = some (compare x 0) := ha.order is0
  have h2 : FloatKind.f64.format.order b 0 = some (compare y 0) := hb.order is0
  rw [evBin_ceql, h1, h2]
  have key : ∀ z : Int, (some (compare z 0) == some Ordering.eq) = decide (z = 0) := fun z => by
    simp only [compare, compareOfLessAndEq]
    rcases Int.lt_trichotomy z 0 with h | h | h
    · have : ¬ z = 0 := by omega
      simp [h, this]
    · simp [h]
    · have h0 : ¬ z < 0 := by omega
      have : ¬ z = 0 := by omega
      simp [h0, this]
  rw [key, key]

theorem right_is {op : Int} {re im sz : Nat} {x y s : Int} (hx : Is re x) (hy : Is im y) (hs : Is sz s) : ans (env P) 31 [stepV op re im sz] = some (.val (.bool (rightB op x y s))) := by
  refine ans_V rfl rfl ?_
  have hw := whole_is (P := P) hx hy
  have h0 := ceql0 (P := P) hx hy (t := 33) (cx := false) (cy := true)
  have hs0 := (evBin_ford (P := P) hs is0 (t := 41) (cx := false) (cy := true)).2.2
  by_cases h2 : op = 2
  · subst h2
    cases hn : (near x && near y) <;> simp [c31, stepV, hw, hn, wholeTo_is hs is0 is2000, rightB]
  · by_cases h3 : op = 3
    · subst h3
      cases hn : (near x && near y) <;> simp [c31, stepV, hw, hn, wholeTo_is hs isM2M is2M, rightB]
    · by_cases h1 : op = 1
      · subst h1
        cases hn : (decide (x = 0) && decide (y = 0)) <;> simp [c31, stepV, h0, hs0, hn, rightB]
      · by_cases h4 : op = 4
        · subst h4
          cases hn : (decide (x = 0) && decide (y = 0)) <;> simp [c31, stepV, h0, hs0, hn, rightB]
        · by_cases h5 : op = 5
          · subst h5
            cases hn : (decide (x = 0) && decide (y = 0)) <;> simp [c31, stepV, h0, hs0, hn, rightB]
          · by_cases h6 : op = 6
            · subst h6
              cases hn : (decide (x = 0) && decide (y = 0)) <;> simp [c31, stepV, h0, hs0, hn, rightB]
            · simp [c31, stepV, h1, h2, h3, h4, h5, h6, rightB]
end Go.Evl.Zone

/- The zone statements: what a step says of a place. -/
namespace Go.Evl.Zone
open Go Go.Evl Go.Evl.Fl
set_option linter.unusedSimpArgs false
set_option linter.unusedVariables false
attribute [local simp] VB_ite VG_ite
variable {P : Program}

theorem arith_ok {op : BinOp} {a b r : Nat} (h : (match op with
    | .add => FloatKind.f64.format.add a b
    | .sub => FloatKind.f64.format.sub a b
    | .mul => FloatKind.f64.format.mul a b
    | _ => none) = some r) : Op.Complex.arith op .f64 a b = pure r := by
  unfold Op.Complex.arith Op.floatArith
  cases op <;> simp at h <;> simp [h]

theorem csub_ok {t : TypeId} {cx cy : Bool} {a b c d e f : Nat} (h1 : FloatKind.f64.format.sub a c = some e) (h2 : FloatKind.f64.format.sub b d = some f) :
    evBin P .sub t cx cy (.val (.complex .f64 a b)) (.val (.complex .f64 c d)) = some (.val (.complex .f64 e f)) := by
  have e1 := arith_ok (op := .sub) h1
  have e2 := arith_ok (op := .sub) h2
  have : binOp .sub t (.complex .f64 a b) (.complex .f64 c d) = (pure (.complex .f64 e f) : Sem Value) := by
    simp [binOp, Op.complexOp, e1, e2]
  simp only [evBin, toV, this]; rfl

theorem cmul_ok {t : TypeId} {cx cy : Bool} {a b c d ac bd ad bc e f : Nat} (h1 : FloatKind.f64.format.mul a c = some ac) (h2 : FloatKind.f64.format.mul b d = some bd) (h3 : FloatKind.f64.format.mul a d = some ad) (h4 : FloatKind.f64.format.mul b c = some bc)
    (h5 : FloatKind.f64.format.sub ac bd = some e) (h6 : FloatKind.f64.format.add ad bc = some f) :
    evBin P .mul t cx cy (.val (.complex .f64 a b)) (.val (.complex .f64 c d)) = some (.val (.complex .f64 e f)) := by
  have e1 := arith_ok (op := .mul) h1
  have e2 := arith_ok (op := .mul) h2
  have e3 := arith_ok (op := .mul) h3
  have e4 := arith_ok (op := .mul) h4
  have e5 := arith_ok (op := .sub) h5
  have e6 := arith_ok (op := .add) h6
  have : binOp .mul t (.complex .f64 a b) (.complex .f64 c d) = (pure (.complex .f64 e f) : Sem Value) := by
    simp [binOp, Op.complexOp, Op.Complex.conv, Op.Complex.product, Op.Complex.mul, Op.Complex.sub, Op.Complex.add, e1, e2, e3, e4, e5, e6]
  simp only [evBin, toV, this]; rfl

def sm (n : Int) : Prop := -3000 ≤ n ∧ n ≤ 3000

theorem abs_lt53 {n : Int} (h : -100000000 ≤ n ∧ n ≤ 100000000) : n.natAbs < 2 ^ 53 := by
  simp only [Nat.reducePow]; omega

theorem mul_le {a b : Int} (ha : sm a) (hb : sm b) : -9000000 ≤ a * b ∧ a * b ≤ 9000000 := by
  unfold sm at ha hb
  have h1 : 0 ≤ (3000 - a) * (3000 + b) := Int.mul_nonneg (by omega) (by omega)
  have h2 : 0 ≤ (3000 + a) * (3000 - b) := Int.mul_nonneg (by omega) (by omega)
  have h3 : 0 ≤ (3000 - a) * (3000 - b) := Int.mul_nonneg (by omega) (by omega)
  have h4 : 0 ≤ (3000 + a) * (3000 + b) := Int.mul_nonneg (by omega) (by omega)
  rw [Int.sub_mul, Int.mul_add, Int.mul_add] at h1
  rw [Int.add_mul, Int.mul_sub, Int.mul_sub] at h2
  rw [Int.sub_mul, Int.mul_sub, Int.mul_sub] at h3
  rw [Int.add_mul, Int.mul_add, Int.mul_add] at h4
  generalize a * b = ab at *
  omega

theorem cmul_is {t : TypeId} {cx cy : Bool} {a b c d : Nat} {m n p q : Int} (ha : Is a m) (hb : Is b n) (hc : Is c p) (hd : Is d q) (sm1 : sm m) (sm2 : sm n) (sm3 : sm p) (sm4 : sm q) :
    ∃ e f, evBin P .mul t cx cy (.val (.complex .f64 a b)) (.val (.complex .f64 c d)) = some (.val (.complex .f64 e f)) ∧ Is e (m * p - n * q) ∧ Is f (m * q + n * p) := by
  have b1 := mul_le sm1 sm3
  have b2 := mul_le sm2 sm4
  have b3 := mul_le sm1 sm4
  have b4 := mul_le sm2 sm3
  obtain ⟨ac, h1, i1⟩ := ha.mul hc (abs_lt53 (by omega))
  obtain ⟨bd, h2, i2⟩ := hb.mul hd (abs_lt53 (by omega))
  obtain ⟨ad, h3, i3⟩ := ha.mul hd (abs_lt53 (by omega))
  obtain ⟨bc, h4, i4⟩ := hb.mul hc (abs_lt53 (by omega))
  obtain ⟨e, h5, i5⟩ := i1.sub i2 (abs_lt53 (by omega))
  obtain ⟨f, h6, i6⟩ := i3.add i4 (abs_lt53 (by omega))
  exact ⟨e, f, cmul_ok h1 h2 h3 h4 h5 h6, i5, i6⟩

theorem csub_is {t : TypeId} {cx cy : Bool} {a b c d : Nat} {m n p q : Int} (ha : Is a m) (hb : Is b n) (hc : Is c p) (hd : Is d q) (sm1 : sm m) (sm2 : sm n) (sm3 : sm p) (sm4 : sm q) :
    ∃ e f, evBin P .sub t cx cy (.val (.complex .f64 a b)) (.val (.complex .f64 c d)) = some (.val (.complex .f64 e f)) ∧ Is e (m - p) ∧ Is f (n - q) := by
  unfold sm at *
  obtain ⟨e, h5, i5⟩ := ha.sub hc (abs_lt53 (by omega))
  obtain ⟨f, h6, i6⟩ := hb.sub hd (abs_lt53 (by omega))
  exact ⟨e, f, csub_ok h5 h6, i5, i6⟩

theorem conj_ans {a b : Nat} : ans (env P) 55 [.val (.complex .f64 a b)] = some (.val (.complex .f64 a (Op.negFloat .f64 b))) := by
  refine ans_V rfl rfl ?_
  simp [c55]

theorem along_is {a b c d : Nat} {m n p q : Int} (ha : Is a m) (hb : Is b n) (hc : Is c p) (hd : Is d q) (sm1 : sm m) (sm2 : sm n) (sm3 : sm p) (sm4 : sm q) :
    ∃ e, ans (env P) 46 [.val (.complex .f64 a b), .val (.complex .f64 c d)] = some (.val (.float .f64 e)) ∧ Is e (m * p + n * q) := by
  obtain ⟨e, f, h1, h2, h3⟩ := cmul_is (P := P) (t := 33) (cx := false) (cy := false) ha hb hc hd.neg sm1 sm2 sm3 (by unfold sm at *; omega)
  refine ⟨e, ans_V rfl rfl ?_, ?_⟩
  · simp [c46, conj_ans, h1]
  · rw [Int.mul_neg, Int.sub_neg] at h2; exact h2

def truthB (op x y s px py : Int) (t : List Bool) : Bool :=
  if op = 2 then decide ((px - x) * (px - x) + (py - y) * (py - y) ≤ s * s)
  else if op = 3 then decide (s ≤ px * x + py * y)
  else if op = 4 then !(t.getD 0 false)
  else if op = 5 then t.getD 0 false && t.getD 1 false
  else if op = 6 then t.getD 0 false || t.getD 1 false
  else true

def boolsV (t : List Bool) : List (List PV) := t.map fun b => [.val (.bool b)]

theorem evBin_fmul {t : TypeId} {cx cy : Bool} {a b c : Nat} (h : FloatKind.f64.format.mul a b = some c) : evBin P .mul t cx cy (.val (.float .f64 a)) (.val (.float .f64 b)) = some (.val (.float .f64 c)) := by
  have : binOp .mul t (.float .f64 a) (.float .f64 b) = (pure (.float .f64 c) : Sem Value) := by simp [binOp, Op.floatArith, h]
  simp only [evBin, toV, this]; rfl

theorem truth_is {op : Int} {re im sz a b : Nat} {x y s px py : Int} {t : List Bool} {full : Bool} (hx : Is re x) (hy : Is im y) (hs : Is sz s) (ha : Is a px) (hb : Is b py) (n1 : near x = true) (n2 : near y = true) (n3 : near px = true) (n4 : near py = true)
    (hz : op = 2 → 0 ≤ s ∧ s ≤ 2000) (hl : (t.length : Int) = needsN op) : ans (env P) 33 [stepV op re im sz, .val (.complex .f64 a b), .im (boolsV t) full] = some (.val (.bool (truthB op x y s px py t))) := by
  simp only [near, Bool.and_eq_true, decide_eq_true_eq] at n1 n2 n3 n4
  refine ans_V rfl rfl ?_
  by_cases h2 : op = 2
  · subst h2
    have hz := hz rfl
    obtain ⟨e, f, h1, i1, i2⟩ := csub_is (P := P) (t := 33) (cx := false) (cy := false) ha hb hx hy (by unfold sm; omega) (by unfold sm; omega) (by unfold sm; omega) (by unfold sm; omega)
    obtain ⟨g, h3, i3⟩ := along_is (P := P) i1 i2 i1 i2 (by unfold sm; omega) (by unfold sm; omega) (by unfold sm; omega) (by unfold sm; omega)
    have bs := mul_le (a := s) (b := s) (by unfold sm; omega) (by unfold sm; omega)
    obtain ⟨h, h4, i4⟩ := hs.mul hs (abs_lt53 (by omega))
    have h5 := (evBin_ford (P := P) (t := 41) (cx := false) (cy := false) i3 i4).2.1
    simp [c33, stepV, h1, h3, evBin_fmul h4, h5, truthB]
  · by_cases h3 : op = 3
    · subst h3
      obtain ⟨g, h3, i3⟩ := along_is (P := P) ha hb hx hy (by unfold sm; omega) (by unfold sm; omega) (by unfold sm; omega) (by unfold sm; omega)
      have h5 := (evBin_ford (P := P) (t := 41) (cx := false) (cy := false) i3 hs).1
      simp [c33, stepV, h3, h5, truthB]
    · by_cases h4 : op = 4
      · subst h4
        match t, hl with
        | [b0], _ => simp [c33, stepV, truthB, boolsV, allLen]
      · by_cases h5 : op = 5
        · subst h5
          match t, hl with
          | [b0, b1], _ => cases b0 <;> simp [c33, stepV, truthB, boolsV, allLen]
        · by_cases h6 : op = 6
          · subst h6
            match t, hl with
            | [b0, b1], _ => cases b0 <;> simp [c33, stepV, truthB, boolsV, allLen]
          · simp [c33, stepV, h2, h3, h4, h5, h6, truthB]
end Go.Evl.Zone

/- The zone statements: which zones may be. -/
namespace Go.Evl.Zone
open Go Go.Evl Go.Evl.Fl
set_option linter.unusedSimpArgs false
set_option linter.unusedVariables false
attribute [local simp] VB_ite VG_ite
variable {P : Program}

theorem V_loop {E : Env} {f : FuncId} {b : CC} {st : St} {ks : List Fr'} {K : Ex → St → Prop} : V E f (.loop b) st ks K ↔ V E f b st (.seq (.loop b) :: ks) K := W_loop

/-- A step, with its words. -/
structure SI where
  op : Int
  x : Int
  y : Int
  s : Int
  re : Nat
  im : Nat
  sz : Nat

def SI.ok (q : SI) : Prop := Is q.re q.x ∧ Is q.im q.y ∧ Is q.sz q.s

def SI.cells (q : SI) : List PV := [.val (.int .i64 q.op), .val (.complex .f64 q.re q.im), .val (.float .f64 q.sz)]

def stepsV (l : List SI) : List (List PV) := l.map SI.cells

@[simp] theorem stepsV_length (l : List SI) : (stepsV l).length = l.length := by simp [stepsV]
@[simp] theorem stepsV_len : ∀ (l : List SI), allLen 3 (stepsV l) = true
  | [] => rfl
  | q :: l => by simp only [stepsV, List.map_cons, allLen, SI.cells]; rw [show (List.map SI.cells l) = stepsV l from rfl, stepsV_len l]; rfl
theorem stepsV_get {l : List SI} {i : Nat} {q : SI} (h : l[i]? = some q) : (stepsV l)[i]? = some q.cells := by simp [stepsV, h]

def SI.right (q : SI) : Bool := rightB q.op q.x q.y q.s

/-- How many truths there are behind some steps; none: they may not be. -/
def foldR : List SI → Int → Option Int
  | [], n => some n
  | q :: l, n => if q.right = false ∨ n < needsN q.op then none else foldR l (n + (1 - needsN q.op))

theorem needsN_le (op : Int) : 0 ≤ needsN op ∧ needsN op ≤ 2 := by 
  unfold needsN
  split
  · omega
  · split <;> omega

theorem loop14 {L : List SI} (hok : ∀ q ∈ L, q.ok) {ks : List Fr'} {K : Ex → St → Prop} (hL : L.length ≤ 32) : ∀ (rest : List SI) (i : Nat) (n : Int) (st : St), L.drop i = rest → 0 ≤ n ∧ n ≤ i → st.σ 9 = .im (stepsV L) false → st.σ 10 = .val (.int .i64 L.length) → st.σ 11 = .val (.int .i64 i) → st.σ 3 = .val (.int .i64 n) →
    (∀ st', foldR rest n = none → st'.σ 2 = .val (.bool false) → K .ret st') → (∀ st' m, foldR rest n = some m → st'.σ 3 = .val (.int .i64 m) → VN (env P) 14 st' ks K) → V (env P) 14 (.loop L14_0) st (.blk 0 :: ks) K
  | [], i, n, st, hr, hn, h9, h10, h11, h3, hret, hend => by
    have hi : L.length ≤ i := by
      have := congrArg List.length hr; simp at this; omega
    have hlt : ¬ i < L.length := by omega
    rw [V_loop]
    simp [L14_0, h10, h11, hlt]
    refine hend _ n rfl ?_
    simp [h3]
  | q :: rest, i, n, st, hr, hn, h9, h10, h11, h3, hret, hend => by
    have hq : L[i]? = some q := by
      have : (L.drop i)[0]? = some q := by rw [hr]; rfl
      simpa using this
    have hlt : i < L.length := (List.getElem?_eq_some_iff.1 hq).1
    have hr' : L.drop (i + 1) = rest := by rw [← List.drop_drop, hr]; rfl
    have hqo := hok q (List.mem_of_getElem? hq)
    have hc : ∀ h, (stepsV L)[i]'h = q.cells := fun h => (List.getElem?_eq_some_iff.1 (stepsV_get hq)).2
    have hri := right_is (P := P) (op := q.op) hqo.1 hqo.2.1 hqo.2.2
    have hne := needs_ans (P := P) (op := q.op) (re := q.re) (im := q.im) (sz := q.sz)
    rw [stepV] at hri hne
    have hb := needsN_le q.op
    have hw : IntKind.i64.wrap (1 - needsN q.op) = 1 - needsN q.op := wrap64_id (by omega)
    have hw2 : IntKind.i64.wrap (n + (1 - needsN q.op)) = n + (1 - needsN q.op) := wrap64_id (by omega)
    have hw3 : IntKind.i64.wrap ((i : Int) + 1) = ((i + 1 : Nat) : Int) := by rw [wrap64_id (by omega)]; rfl
    rw [V_loop]
    cases hqr : q.right with
    | false =>
      have hqr' : rightB q.op q.x q.y q.s = false := hqr
      simp [L14_0, h9, h10, h11, h3, hlt, hc, SI.cells, hri, hqr']
      refine hret _ (by simp [foldR, hqr]) ?_
      simp
    | true =>
      have hqr' : rightB q.op q.x q.y q.s = true := hqr
      by_cases hnn : n < needsN q.op
      · simp [L14_0, h9, h10, h11, h3, hlt, hc, SI.cells, hri, hqr', hne, hnn]
        refine hret _ (by simp [foldR, hnn]) ?_
        simp
      · simp [L14_0, h9, h10, h11, h3, hlt, hc, SI.cells, hri, hqr', hne, hnn, hw, hw2, hw3]
        refine loop14 hok hL rest (i + 1) (n + (1 - needsN q.op)) _ hr' (by omega) ?_ ?_ ?_ ?_ ?_ ?_
        · simp [h9]
        · simp [h10]
        · simp
        · simp
        · intro st' hf hs; exact hret st' (by simp [foldR, hqr, hnn, hf]) hs
        · intro st' m hf hs; exact hend st' m (by simp [foldR, hqr, hnn, hf]) hs

def zoneRight (l : List SI) : Bool := decide (l.length ≤ 32) && decide (foldR l 0 = some 1)

theorem zoneRight_ans {l : List SI} (hok : ∀ q ∈ l, q.ok) : ans (env P) 14 [.im (stepsV l) false] = some (.val (.bool (zoneRight l))) := by
  refine ans_V rfl rfl ?_
  by_cases h : l.length ≤ 32
  · have h' : ¬ ((32 : Int) < (l.length : Int)) := by omega
    simp [c14, h']
    refine loop14 hok h l 0 0 _ rfl (by omega) ?_ ?_ ?_ ?_ ?_ ?_
    · simp
    · simp
    · simp
    · simp
    · intro st' hf hs; simp [hs, zoneRight, hf]
    · intro st' m hf hs
      simp [hs, zoneRight, hf, h]
  · have h' : (32 : Int) < (l.length : Int) := by omega
    simp [c14, h', zoneRight, h]

end Go.Evl.Zone

/- The zone statements: whether a place is in a zone. -/
namespace Go.Evl.Zone
open Go Go.Evl Go.Evl.Fl
set_option linter.unusedSimpArgs false
set_option linter.unusedVariables false
attribute [local simp] VB_ite VG_ite
variable {P : Program}

def SI.truth (q : SI) (px py : Int) (t : List Bool) : Bool := truthB q.op q.x q.y q.s px py t

def stepT (q : SI) (px py : Int) (t : List Bool) : List Bool := t.take (t.length - (needsN q.op).toNat) ++ [q.truth px py (t.drop (t.length - (needsN q.op).toNat))]

def runT (px py : Int) : List SI → List Bool → List Bool
  | [], t => t
  | q :: l, t => runT px py l (stepT q px py t)

theorem right_near {op x y s : Int} (h : rightB op x y s = true) : near x = true ∧ near y = true ∧ (op = 2 → 0 ≤ s ∧ s ≤ 2000) := by
  unfold rightB at h
  split at h
  · simp only [Bool.and_eq_true, decide_eq_true_eq] at h
    exact ⟨h.1.1, h.1.2, fun _ => h.2⟩
  · rename_i h2
    split at h
    · simp only [Bool.and_eq_true, decide_eq_true_eq] at h
      exact ⟨h.1.1, h.1.2, fun q => (h2 q).elim⟩
    · split at h
      · simp only [Bool.and_eq_true, decide_eq_true_eq] at h
        obtain ⟨⟨rfl, rfl⟩, _⟩ := h
        exact ⟨by decide, by decide, fun q => (h2 q).elim⟩
      · simp at h

theorem boolsV_length (t : List Bool) : (boolsV t).length = t.length := by simp [boolsV]
theorem boolsV_drop (t : List Bool) (k : Nat) : (boolsV t).drop k = boolsV (t.drop k) := by simp [boolsV]
theorem boolsV_take (t : List Bool) (k : Nat) : (boolsV t).take k = boolsV (t.take k) := by simp [boolsV, List.map_take]
theorem plainss_bools : ∀ t : List Bool, plainss (boolsV t) = some (boolsV t)
  | [] => rfl
  | b :: t => by
    have := plainss_bools t
    simp only [boolsV, List.map_cons, plainss, plains, plain] at *
    rw [this]; rfl

/-- The truths that stand. -/
structure Stack (st : St) (t : List Bool) (r g : Nat) (xs : List (List PV)) : Prop where
  v : st.σ 5 = .sl r 1 g 0 t.length
  b : st.h.at_ r = .row 1 xs true
  g : g = xs.length
  le : t.length ≤ xs.length
  eq : xs.take t.length = boolsV t
  lt : r < st.h.n

theorem stack_part {st : St} {t : List Bool} {r g : Nat} {xs : List (List PV)} (h : Stack st t r g xs) (k : Nat) (hk : k ≤ t.length) : (xs.drop k).take (t.length - k) = boolsV (t.drop k) := by
  rw [← boolsV_drop, ← h.eq, List.drop_take]

theorem slice_lo {H : Heap} {r g len k : Nat} {xs : List (List PV)} {own : Bool} (hat : H.at_ r = .row 1 xs own) (hg : g = xs.length) (hk : k ≤ len) (hl : len ≤ xs.length) : sliceP H 1 (.sl r 1 g 0 len) none (some k) none = some (.sl r 1 g 0 k, [r]) := by
  unfold sliceP
  simp only [hat]
  rw [if_pos ⟨by decide, trivial, trivial, hg, by simp, by simp; omega⟩]
  simp

theorem slice_hi {H : Heap} {r g len k : Nat} {xs : List (List PV)} {own : Bool} (hat : H.at_ r = .row 1 xs own) (hg : g = xs.length) (hk : k ≤ len) (hl : len ≤ xs.length) : sliceP H 1 (.sl r 1 g 0 len) (some k) none none = some (if k = len ∧ 0 < k then .im [] false else .sl r 1 g k (len - k), [r]) := by
  unfold sliceP
  simp only [hat]
  rw [if_pos ⟨by decide, trivial, trivial, hg, by simp; omega, by simp; omega⟩]
  simp only [Option.getD_some, Option.getD_none, Nat.zero_add]
  split <;> rfl

theorem exp_part {H : Heap} {r g k : Nat} {xs : List (List PV)} {own : Bool} {t : List Bool} (hat : H.at_ r = .row 1 xs own) (hg : g = xs.length) (hk : k ≤ t.length) (hl : t.length ≤ xs.length) (he : xs.take t.length = boolsV t) :
    ∃ is, expC H (if k = t.length ∧ 0 < k then .im [] false else .sl r 1 g k (t.length - k)) = some (.im (boolsV (t.drop k)) false, is) := by
  by_cases h : k = t.length ∧ 0 < k
  · rw [if_pos h]
    refine ⟨[], ?_⟩
    rw [h.1, List.drop_length]; rfl
  · rw [if_neg h]
    refine ⟨[r], ?_⟩
    have hp : (xs.drop k).take (t.length - k) = boolsV (t.drop k) := by rw [← boolsV_drop, ← he, List.drop_take]
    unfold expC
    simp only [hat]
    rw [if_pos ⟨trivial, hg, by omega⟩, hp, plainss_bools]

/-- A row with one element laid at a place. -/
def over (xs : List (List PV)) (k : Nat) (y : List PV) : List (List PV) := if k + 1 ≤ xs.length then setL xs k [y] else xs.take k ++ [y]

theorem app_one {H : Heap} {slot r k : Nat} {xs : List (List PV)} {y : List PV} (hat : H.at_ r = .row 1 xs true) (hk : k ≤ xs.length) (hm : k + 1 ≤ most) :
    appendP H slot 1 (.sl r 1 xs.length 0 k) [y] = some (.sl r 1 (over xs k y).length 0 (k + 1), H.put r (.row 1 (over xs k y) true), [r], [r]) := by
  unfold appendP over
  simp only [hat]
  rw [if_neg (by simp), if_pos ⟨trivial, trivial, trivial, by omega⟩]
  by_cases h : k + 1 ≤ xs.length
  · rw [if_pos h, if_pos (by simp; omega)]
    have : (setL xs k [y]).length = xs.length := by unfold setL; simp; omega
    rw [this, Nat.zero_add]; rfl
  · rw [if_neg h, if_neg (by simp; omega), if_pos ⟨trivial, by simpa using hm⟩]
    have : (xs.take k ++ [y]).length = k + 1 := by simp; omega
    rw [this]; rfl

theorem over_len {xs : List (List PV)} {k : Nat} {y : List PV} (hk : k ≤ xs.length) : k + 1 ≤ (over xs k y).length := by
  unfold over
  split
  · unfold setL; simp; omega
  · simp; omega

theorem over_take {xs : List (List PV)} {k : Nat} {y : List PV} (hk : k ≤ xs.length) : (over xs k y).take (k + 1) = xs.take k ++ [y] := by
  unfold over
  split
  · unfold setL
    rw [List.take_append_of_le_length (by simp; omega)]
    exact List.take_of_length_le (by simp; omega)
  · exact List.take_of_length_le (by simp; omega)

end Go.Evl.Zone

/- The zone statements: whether a place is in a zone: the loop. -/
namespace Go.Evl.Zone
open Go Go.Evl Go.Evl.Fl
set_option linter.unusedSimpArgs false
set_option linter.unusedVariables false
attribute [local simp] VB_ite VG_ite
variable {P : Program}

@[simp] theorem freeze_nil (H : Heap) : freeze H [] = H := rfl

theorem needsN_ge {op : Int} : (needsN op).toNat = needsN op := by have := needsN_le op; omega

theorem loop15 {L : List SI} (hok : ∀ q ∈ L, q.ok) {ks : List Fr'} {K : Ex → St → Prop} (hL : L.length ≤ 32) {a b : Nat} {px py : Int} (ha : Is a px) (hb : Is b py) (n3 : near px = true) (n4 : near py = true) (m : Int) :
    ∀ (rest : List SI) (i : Nat) (t : List Bool) (st : St), L.drop i = rest → foldR rest t.length = some m → t.length ≤ i → (∃ r g xs, Stack st t r g xs) →
    st.σ 17 = .im (stepsV L) false → st.σ 18 = .val (.int .i64 L.length) → st.σ 19 = .val (.int .i64 i) → st.σ 1 = .val (.complex .f64 a b) →
    (∀ st', (∃ r g xs, Stack st' (runT px py rest t) r g xs) → VN (env P) 15 st' ks K) → V (env P) 15 (.loop L15_0) st (.blk 0 :: ks) K
  | [], i, t, st, hr, hf, hti, ⟨r, g, xs, hs⟩, h17, h18, h19, h1, hend => by
    have hi : L.length ≤ i := by
      have := congrArg List.length hr; simp at this; omega
    have hlt : ¬ i < L.length := by omega
    rw [V_loop]
    simp [L15_0, h18, h19, hlt]
    refine hend _ ⟨r, g, xs, ⟨by simp [hs.v, runT], ?_, hs.g, hs.le, hs.eq, ?_⟩⟩
    · simp [hs.b, hs.lt]
    · simp; exact hs.lt
  | q :: rest, i, t, st, hr, hf, hti, ⟨r, g, xs, hs⟩, h17, h18, h19, h1, hend => by
    have hq : L[i]? = some q := by
      have : (L.drop i)[0]? = some q := by rw [hr]; rfl
      simpa using this
    have hlt : i < L.length := (List.getElem?_eq_some_iff.1 hq).1
    have hr' : L.drop (i + 1) = rest := by rw [← List.drop_drop, hr]; rfl
    have hqo := hok q (List.mem_of_getElem? hq)
    have hc : ∀ h, (stepsV L)[i]'h = q.cells := fun h => (List.getElem?_eq_some_iff.1 (stepsV_get hq)).2
    have hb2 := needsN_le q.op
    unfold foldR at hf
    split at hf
    · simp at hf
    · rename_i hno
      simp only [not_or, Bool.not_eq_false, Int.not_lt] at hno
      obtain ⟨hqr, hnn⟩ := hno
      obtain ⟨nx, ny, nz⟩ := right_near hqr
      -- how many are kept
      obtain ⟨k, hk⟩ : ∃ k : Nat, (k : Int) = t.length - needsN q.op := ⟨(t.length - needsN q.op).toNat, by omega⟩
      have hkle : k ≤ t.length := by omega
      have hkk : t.length - (needsN q.op).toNat = k := by omega
      have hne := needs_ans (P := P) (op := q.op) (re := q.re) (im := q.im) (sz := q.sz)
      rw [stepV] at hne
      have hw : IntKind.i64.wrap ((t.length : Int) - needsN q.op) = (k : Int) := by rw [← hk]; exact wrap64_id (by omega)
      have hw3 : IntKind.i64.wrap ((i : Int) + 1) = ((i + 1 : Nat) : Int) := by rw [wrap64_id (by omega)]; rfl
      have hrn : ¬ r = st.h.n := by have := hs.lt; omega
      have hrl : r < st.h.n + 1 := by have := hs.lt; omega
      have htr := truth_is (P := P) (op := q.op) (t := t.drop k) (full := false) hqo.1 hqo.2.1 hqo.2.2 ha hb nx ny n3 n4 nz (by simp; omega)
      rw [stepV] at htr
      obtain ⟨hv, hbk, hg, hle, heq, hrlt⟩ := hs
      subst hg
      have hsl : ∀ H : Heap, H.at_ r = .row 1 xs true → sliceP H 1 (.sl r 1 xs.length 0 t.length) none (some k) none = some (.sl r 1 xs.length 0 k, [r]) := fun H h => slice_lo h rfl hkle hle
      have hpp : plainss ((xs.drop k).take (t.length - k)) = some (boolsV (t.drop k)) := by
        rw [← plainss_bools, ← boolsV_drop, ← heq, List.drop_take]
      have happ : ∀ (H : Heap) (slot : Nat), H.at_ r = .row 1 xs true → appendP H slot 1 (.sl r 1 xs.length 0 k) [[.val (.bool (truthB q.op q.x q.y q.s px py (t.drop k)))]] = some (.sl r 1 (over xs k [.val (.bool (truthB q.op q.x q.y q.s px py (t.drop k)))]).length 0 (k + 1), H.put r (.row 1 (over xs k [.val (.bool (truthB q.op q.x q.y q.s px py (t.drop k)))]) true), [r], [r]) :=
        fun H slot h => app_one h (by omega) (by unfold most; simp only [Nat.reducePow]; omega)
      -- what comes of it
      have hfin : ∀ st', st'.σ 5 = .sl r 1 (over xs k [.val (.bool (truthB q.op q.x q.y q.s px py (t.drop k)))]).length 0 (k + 1) → st'.h.at_ r = .row 1 (over xs k [.val (.bool (truthB q.op q.x q.y q.s px py (t.drop k)))]) true → r < st'.h.n →
          ∃ r g xs, Stack st' (stepT q px py t) r g xs := by
        intro st' e1 e2 e3
        have hlen : (stepT q px py t).length = k + 1 := by unfold stepT; rw [hkk]; simp; omega
        refine ⟨r, _, _, ⟨by rw [e1, hlen], e2, rfl, by rw [hlen]; exact over_len (by omega), ?_, e3⟩⟩
        rw [hlen, over_take (by omega)]
        unfold stepT SI.truth
        rw [hkk]
        have : xs.take k = boolsV (t.take k) := by rw [← boolsV_take, ← heq, List.take_take, Nat.min_eq_left hkle]
        rw [this]; simp [boolsV]
      have hlenT : (stepT q px py t).length = k + 1 := by unfold stepT; rw [hkk]; simp; omega
      have hfT : foldR rest (stepT q px py t).length = some m := by
        rw [hlenT, ← hf]; congr 1; omega
      by_cases hcase : k = t.length ∧ 0 < k
      · have hsh : ∀ H : Heap, H.at_ r = .row 1 xs true → sliceP H 1 (.sl r 1 xs.length 0 t.length) (some k) none none = some (.im [] false, [r]) := fun H h => by
          rw [slice_hi h rfl hkle hle, if_pos hcase]
        have hd : t.drop k = [] := by rw [hcase.1]; exact List.drop_length
        rw [hd, show boolsV [] = [] from rfl] at htr
        rw [hd] at happ hfin
        rw [V_loop]
        simp [L15_0, hv, h17, h18, h19, h1, hlt, hc, SI.cells, hne, hw, hw3, hsl, hsh, hrn, hrl, hrlt, hbk, htr, happ, elems, allLen, chunks]
        refine loop15 hok hL ha hb n3 n4 m rest (i + 1) (stepT q px py t) _ hr' hfT (by omega) (hfin _ ?_ ?_ ?_) ?_ ?_ ?_ ?_ hend
        · simp
        · simp [hrn]; omega
        · simp; omega
        · simp [h17]
        · simp [h18]
        · simp
        · simp [h1]
      · have hsh : ∀ H : Heap, H.at_ r = .row 1 xs true → sliceP H 1 (.sl r 1 xs.length 0 t.length) (some k) none none = some (.sl r 1 xs.length k (t.length - k), [r]) := fun H h => by
          rw [slice_hi h rfl hkle hle, if_neg hcase]
        have hkx : k + (t.length - k) ≤ xs.length := by omega
        rw [V_loop]
        simp [L15_0, hv, h17, h18, h19, h1, hlt, hc, SI.cells, hne, hw, hw3, hsl, hsh, hrn, hrl, hrlt, hbk, htr, happ, elems, allLen, chunks, hpp, hkx]
        refine loop15 hok hL ha hb n3 n4 m rest (i + 1) (stepT q px py t) _ hr' hfT (by omega) (hfin _ ?_ ?_ ?_) ?_ ?_ ?_ ?_ hend
        · simp
        · simp [hrn]; omega
        · simp; omega
        · simp [h17]
        · simp [h18]
        · simp
        · simp [h1]
theorem loop15_first {L : List SI} (hok : ∀ q ∈ L, q.ok) {ks : List Fr'} {K : Ex → St → Prop} (hL : L.length ≤ 32) {a b : Nat} {px py : Int} (ha : Is a px) (hb : Is b py) (n3 : near px = true) (n4 : near py = true) (m : Int) (hL0 : L ≠ [])
    (st : St) (hf : foldR L 0 = some m) (h5 : st.σ 5 = .im [] true)
    (h17 : st.σ 17 = .im (stepsV L) false) (h18 : st.σ 18 = .val (.int .i64 L.length)) (h19 : st.σ 19 = .val (.int .i64 0)) (h1 : st.σ 1 = .val (.complex .f64 a b))
    (hend : ∀ st', (∃ r g xs, Stack st' (runT px py L []) r g xs) → VN (env P) 15 st' ks K) : V (env P) 15 (.loop L15_0) st (.blk 0 :: ks) K := by
  obtain ⟨q, rest, rfl⟩ : ∃ q rest, L = q :: rest := by cases L with
    | nil => exact (hL0 rfl).elim
    | cons q rest => exact ⟨q, rest, rfl⟩
  have hqo := hok q (by simp)
  have hb2 := needsN_le q.op
  have hf0 := hf
  unfold foldR at hf
  split at hf
  · simp at hf
  · rename_i hno
    simp only [not_or, Bool.not_eq_false, Int.not_lt] at hno
    obtain ⟨hqr, hnn⟩ := hno
    obtain ⟨nx, ny, nz⟩ := right_near hqr
    have h0 : needsN q.op = 0 := by omega
    have hne := needs_ans (P := P) (op := q.op) (re := q.re) (im := q.im) (sz := q.sz)
    rw [stepV, h0] at hne
    have hw3 : IntKind.i64.wrap (1 : Int) = 1 := wrap64_id (by omega)
    have hw0 : IntKind.i64.wrap (0 : Int) = 0 := wrap64_id (by omega)
    have hlen : ((0 : Int) < (rest.length : Int) + 1) := by omega
    have htr := truth_is (P := P) (op := q.op) (t := []) (full := false) hqo.1 hqo.2.1 hqo.2.2 ha hb nx ny n3 n4 nz (by simp [h0])
    rw [stepV, show boolsV [] = [] from rfl] at htr
    have hst : stepT q px py [] = [truthB q.op q.x q.y q.s px py []] := by unfold stepT SI.truth; simp
    have hcell : ∀ h, (stepsV (q :: rest))[0]'h = q.cells := fun h => rfl
    rw [V_loop]
    simp [L15_0, h5, h17, h18, h19, h1, hlen, hcell, SI.cells, hne, hw0, hw3, htr, sliceP, appendP, elems, allLen, chunks, most]
    refine loop15 hok hL ha hb n3 n4 m rest 1 (stepT q px py []) _ rfl ?_ (by simp [hst]) ⟨st.h.n + 1, 1, [[.val (.bool (truthB q.op q.x q.y q.s px py []))]], ?_⟩ ?_ ?_ ?_ ?_ hend
    · rw [hst, ← hf]; simp [h0]
    · constructor
      · simp [hst]
      · simp
      · rfl
      · simp [hst]
      · simp [hst, boolsV]
      · simp
    · simp [h17]
    · simp [h18]
    · simp
    · simp [h1]
end Go.Evl.Zone

/- The zone statements: whether a place is in a zone, whole. -/
namespace Go.Evl.Zone
open Go Go.Evl Go.Evl.Fl
set_option linter.unusedSimpArgs false
set_option linter.unusedVariables false
attribute [local simp] VB_ite VG_ite
variable {P : Program}

theorem runT_length (px py : Int) : ∀ (l : List SI) (t : List Bool) (m : Int), foldR l t.length = some m → ((runT px py l t).length : Int) = m
  | [], t, m, h => by simpa [foldR, runT] using h
  | q :: l, t, m, h => by
    unfold foldR at h
    split at h
    · simp at h
    · rename_i hno
      simp only [not_or, Bool.not_eq_false, Int.not_lt] at hno
      have hb := needsN_le q.op
      have hl : ((stepT q px py t).length : Int) = t.length + (1 - needsN q.op) := by unfold stepT; simp; omega
      rw [runT]
      exact runT_length px py l _ m (by rw [hl]; exact h)

def zoneHas (l : List SI) (px py : Int) : Bool := zoneRight l && (near px && near py) && (runT px py l []).getD 0 false

theorem zoneHas_ans {l : List SI} (hok : ∀ q ∈ l, q.ok) {a b : Nat} {px py : Int} (ha : Is a px) (hb : Is b py) : ans (env P) 15 [.im (stepsV l) false, .val (.complex .f64 a b)] = some (.val (.bool (zoneHas l px py))) := by
  refine ans_V rfl rfl ?_
  have hr := zoneRight_ans (P := P) hok
  have hw := whole_is (P := P) ha hb
  cases h1 : zoneRight l with
  | false => simp [c15, hr, h1, zoneHas]
  | true =>
    cases h2 : (near px && near py) with
    | false => simp [c15, hr, h1, hw, h2, zoneHas]
    | true =>
      simp only [zoneRight, Bool.and_eq_true, decide_eq_true_eq] at h1
      obtain ⟨hL, hf⟩ := h1
      have hL0 : l ≠ [] := fun q => by subst q; simp [foldR] at hf
      have h1 : zoneRight l = true := by simp [zoneRight, hL, hf]
      simp only [Bool.and_eq_true] at h2
      simp [c15, hr, h1, hw, h2]
      refine loop15_first hok hL ha hb h2.1 h2.2 1 hL0 _ hf ?_ ?_ ?_ ?_ ?_ ?_
      · simp
      · simp
      · simp
      · simp
      · simp
      · rintro st' ⟨r, g, xs, hs⟩
        have hlen := runT_length px py l [] 1 hf
        obtain ⟨b0, hb0⟩ : ∃ b0, runT px py l [] = [b0] := by
          match hh : runT px py l [] with
          | [] => rw [hh] at hlen; simp at hlen
          | [b0] => exact ⟨b0, rfl⟩
          | _ :: _ :: _ => rw [hh] at hlen; simp at hlen; omega
        obtain ⟨hv, hbk, hg, hle, heq, hrlt⟩ := hs
        rw [hb0] at hv hle heq
        simp at hv hle
        have hx : xs[0]? = some [.val (.bool b0)] := by
          match xs, heq with
          | x :: xs, heq => simp [boolsV] at heq; rw [heq]; rfl
        subst hg
        have hx0 : ∀ h, xs[0]'h = [.val (.bool b0)] := fun h => (List.getElem?_eq_some_iff.1 hx).2
        simp [hv, hbk, hrlt, loadR_row, hx, hle, zoneHas, h1, h2, hb0]

end Go.Evl.Zone
