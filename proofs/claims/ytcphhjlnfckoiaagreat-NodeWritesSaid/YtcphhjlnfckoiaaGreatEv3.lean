/- The evaluator's texts DTab to ZPrim, joined. -/
import Derived.Test.YtcphhjlnfckoiaaGreatEv2
import Derived.Lib.AtoiAll
import Derived.Lib.Bytealg
set_option linter.all false
set_option linter.deprecated false
set_option linter.unusedVariables false
set_option linter.unusedSimpArgs false
set_option linter.unnecessarySimpa false
set_option maxRecDepth 100000
namespace Go.Evl.Zone
open Go Go.Evl
@[reducible] def qm (d : Nat) (a : Nat) : CI := ⟨some d, .mv (.t a), none⟩
@[reducible] def qmT (d : Nat) (a : Nat) (g : Nat) : CI := ⟨some d, .mv (.t a), some (g, true)⟩
@[reducible] def qmF (d : Nat) (a : Nat) (g : Nat) : CI := ⟨some d, .mv (.t a), some (g, false)⟩
@[reducible] def ql (d : Nat) (a : Nat) : CI := ⟨some d, .ld 1 false (.t a), none⟩
@[reducible] def qlT (d : Nat) (a : Nat) (g : Nat) : CI := ⟨some d, .ld 1 false (.t a), some (g, true)⟩
@[reducible] def qlF (d : Nat) (a : Nat) (g : Nat) : CI := ⟨some d, .ld 1 false (.t a), some (g, false)⟩
@[reducible] def qa (d : Nat) (a : Nat) (b : Nat) : CI := ⟨some d, .fad a (.t b), none⟩
@[reducible] def qaT (d : Nat) (a : Nat) (b : Nat) (g : Nat) : CI := ⟨some d, .fad a (.t b), some (g, true)⟩
@[reducible] def qaF (d : Nat) (a : Nat) (b : Nat) (g : Nat) : CI := ⟨some d, .fad a (.t b), some (g, false)⟩
@[reducible] def qf (d : Nat) : CI := ⟨some d, .mv (.c (.val (.bool false))), none⟩
@[reducible] def qt (d : Nat) : CI := ⟨some d, .mv (.c (.val (.bool true))), none⟩
@[reducible] def qi (d : Nat) (a : Int) : CI := ⟨some d, .mv (.c (.val (.int .i64 a))), none⟩
@[reducible] def qp (d : Nat) (a : Nat) (b : Nat) : CI := ⟨some d, .pick (.t a) (.t b) (.c (.val (.bool false))), none⟩
@[reducible] def qo (d : Nat) (a : Nat) (b : Nat) : CI := ⟨some d, .pick (.t a) (.c (.val (.bool true))) (.t b), none⟩
@[reducible] def qc (d : Nat) (a : Nat) (b : Nat) : CI := ⟨some d, .call (.c (.fn a [])) [.t b], none⟩
@[reducible] def qe (d : Nat) (a : Nat) : CI := ⟨some d, .len false (.t a), none⟩
@[reducible] def qs (d : Nat) (a : Nat) : CI := ⟨some d, .bin .add 3 false true (.t a) (.c (.val (.int .i64 1))), none⟩
@[reducible] def qq (d : Nat) (a : Nat) (b : Int) : CI := ⟨some d, .bin .eql 3 false true (.t a) (.c (.val (.int .i64 b))), none⟩
@[reducible] def qz (d : Nat) (a : Nat) (b : Nat) : CI := ⟨some d, .bin .lss 3 false false (.t a) (.t b), none⟩
@[reducible] def qx (d : Nat) (a : Nat) (b : Nat) : CI := ⟨some d, .ias 1 (.t a) (.t b), none⟩
@[reducible] def qxT (d : Nat) (a : Nat) (b : Nat) (g : Nat) : CI := ⟨some d, .ias 1 (.t a) (.t b), some (g, true)⟩
@[reducible] def qb (d : Nat) (a : Nat) : CI := ⟨some d, .un .not (.t a), none⟩
@[reducible] def qbF (d : Nat) (a : Nat) (g : Nat) : CI := ⟨some d, .un .not (.t a), some (g, false)⟩
@[reducible] def qj (d : Nat) : CI := ⟨some d, .mv (.c (.im [] true)), none⟩
@[reducible] def qk (d : Nat) (a : Nat) (b : Nat) (c : Nat) : CI := ⟨some d, .call (.c (.fn a [])) [.t b,.t c], none⟩
@[reducible] def qkT (d : Nat) (a : Nat) (b : Nat) (c : Nat) (g : Nat) : CI := ⟨some d, .call (.c (.fn a [])) [.t b,.t c], some (g, true)⟩
@[reducible] def qw (n a b : Nat) : CI := ⟨none, .st n (.t a) (.t b), none⟩
def c4 : CF := ⟨.seq (.reg false [⟨some 3,.box (.t 1),none⟩,qf 4] []) (.seq (.seq (.reg false [⟨some 21,.ld 8 true (.t 3),none⟩,qc 22 14 21,qb 23 22] []) (.cond (.t 23) (.seq (.reg false [⟨some 24,.call (.c (.fn 13 [])) [],none⟩,qm 4 24] []) .ret)
 .skip)) (.seq (.reg false [⟨some 26,.call (.c (.fn 5 [])) [],none⟩,qc 27 15 26,qm 25 27,⟨some 28,.ext (.t 25) 0,none⟩,⟨some 29,.ext (.t 25) 1,none⟩,⟨some 30,.ext (.t 25) 2,none⟩,⟨some 5,.alloc [.val (.string ⟨#[]⟩),.val (.int .i64 0),.val (.int
 .i64 0),.val (.int .i64 0),.val (.int .i64 0),.im [] true,.im [] true,.im [] true,.im [] true,.im [] true,.im [] true,.im [] true,.im [] true],none⟩,⟨some 6,.alloc [.val (.string ⟨#[]⟩),.val (.int .i64 0),.val (.int .i64 0),.val (.int .i64 0),.val
 (.int .i64 0),.im [] true,.im [] true,.im [] true,.im [] true,.im [] true,.im [] true,.im [] true,.im [] true],none⟩,qw 13 5 28,qw 13 6 29,qm 7 30] []) (.seq (.reg false [⟨some 32,.call (.c (.fn 17 [])) [],none⟩,qc 33 16 32,qm 31 33,⟨some 34,.ext
 (.t 31) 0,none⟩,⟨some 35,.ext (.t 31) 1,none⟩,⟨some 36,.ext (.t 31) 2,none⟩,⟨some 8,.alloc [.val (.string ⟨#[]⟩),.val (.int .i64 0),.val (.int .i64 0),.val (.int .i64 0),.val (.int .i64 0),.im [] true,.im [] true,.im [] true,.im [] true,.im []
 true,.im [] true,.im [] true,.im [] true],none⟩,⟨some 9,.alloc [.val (.string ⟨#[]⟩),.val (.int .i64 0),.val (.int .i64 0),.val (.int .i64 0),.val (.int .i64 0),.im [] true,.im [] true,.im [] true,.im [] true,.im [] true,.im [] true,.im [] true,.im
 [] true],none⟩,qw 13 8 34,qw 13 9 35,qm 10 36] []) (.seq (.reg true [⟨some 38,.ld 13 true (.t 6),none⟩,qm 39 0,qc 40 20 39,qc 41 19 40,qk 42 18 38 41,qm 37 42,⟨some 43,.ext (.t 37) 0,none⟩,⟨some 44,.ext (.t 37) 1,none⟩,qw 13 6 43,qm 11 44] [(0,
 2),(0, 3)]) (.seq (.reg true [⟨some 46,.ld 13 true (.t 9),none⟩,qm 47 0,qc 48 20 47,qk 49 21 46 48,qm 45 49,⟨some 50,.ext (.t 45) 0,none⟩,⟨some 51,.ext (.t 45) 1,none⟩,qw 13 9 50,qm 12 51] [(0, 2)]) (.seq (.seq (.reg false [⟨some 52,.call (.c (.fn
 13 [])) [],none⟩,qb 53 52,qm 54 53,qmF 55 7 54,⟨some 56,.bin .neq 46 false true (.t 55) (.c (.val (.int .i64 0))),some (54, false)⟩,qo 57 54 56,qm 58 57,qmF 59 10 58,⟨some 60,.bin .neq 3 false true (.t 59) (.c (.val (.int .i64 0))),some (58,
 false)⟩,qo 61 58 60,qm 62 61,qmF 63 11 62,qmF 64 12 62,⟨some 65,.bin .neq 3 false false (.t 63) (.t 64),some (62, false)⟩,qo 66 62 65] []) (.cond (.t 66) (.seq (.reg false [qf 4] []) .ret) .skip)) (.seq (.reg true [⟨some 68,.ld 13 true (.t
 6),none⟩,qa 69 3 3,ql 70 69,qa 71 4 3,⟨some 72,.ld 2 true (.t 71),none⟩,qc 73 8 72,qa 74 6 3,ql 75 74,⟨some 76,.call (.c (.fn 7 [])) [.t 68,.t 70,.t 73,.t 75],none⟩,qm 67 76,⟨some 77,.ext (.t 67) 0,none⟩,⟨some 78,.ext (.t 67) 1,none⟩,⟨some
 13,.alloc [.val (.string ⟨#[]⟩),.val (.int .i64 0),.val (.int .i64 0),.val (.int .i64 0),.val (.int .i64 0),.im [] true,.im [] true,.im [] true,.im [] true,.im [] true,.im [] true,.im [] true,.im [] true],none⟩,qw 13 13 77,qm 14 78] [(0, 5),(2,
 5),(5, 7),(0, 12),(2, 12),(4, 12),(5, 12),(7, 12),(8, 12)]) (.seq (.reg false [⟨some 80,.ld 13 true (.t 9),none⟩,qa 81 3 3,ql 82 81,qa 83 4 3,⟨some 84,.ld 2 true (.t 83),none⟩,qa 85 6 3,ql 86 85,⟨some 87,.call (.c (.fn 22 [])) [.t 80,.t 82,.t 84,.t
 86],none⟩,qm 79 87,⟨some 88,.ext (.t 79) 0,none⟩,⟨some 89,.ext (.t 79) 1,none⟩,⟨some 15,.alloc [.val (.string ⟨#[]⟩),.val (.int .i64 0),.val (.int .i64 0),.val (.int .i64 0),.val (.int .i64 0),.im [] true,.im [] true,.im [] true,.im [] true,.im []
 true,.im [] true,.im [] true,.im [] true],none⟩,qw 13 15 88,qm 16 89] []) (.seq (.reg false [⟨some 91,.ld 13 true (.t 13),none⟩,qa 92 3 3,ql 93 92,qk 94 6 91 93,qm 90 94,⟨some 95,.ext (.t 90) 0,none⟩,⟨some 96,.ext (.t 90) 1,none⟩,⟨some 17,.alloc
 [.val (.string ⟨#[]⟩),.val (.int .i64 0),.val (.int .i64 0),.val (.int .i64 0),.val (.int .i64 0),.im [] true,.im [] true,.im [] true,.im [] true,.im [] true,.im [] true,.im [] true,.im [] true],none⟩,qw 13 17 95,qm 18 96] []) (.seq (.reg false
 [⟨some 98,.ld 13 true (.t 15),none⟩,qa 99 3 3,ql 100 99,qk 101 23 98 100,qm 97 101,⟨some 102,.ext (.t 97) 0,none⟩,⟨some 103,.ext (.t 97) 1,none⟩,⟨some 19,.alloc [.val (.string ⟨#[]⟩),.val (.int .i64 0),.val (.int .i64 0),.val (.int .i64 0),.val
 (.int .i64 0),.im [] true,.im [] true,.im [] true,.im [] true,.im [] true,.im [] true,.im [] true,.im [] true],none⟩,qw 13 19 102,qm 20 103] []) (.seq (.reg true [qm 104 14,qm 105 16,⟨some 106,.bin .eql 3 false false (.t 104) (.t 105),none⟩,qm 107
 106,⟨some 108,.ld 13 true (.t 13),some (107, true)⟩,⟨some 109,.call (.c (.fn 25 [])) [.t 108],some (107, true)⟩,⟨some 110,.ld 13 true (.t 15),some (107, true)⟩,qkT 111 24 109 110 107,qp 112 107 111,qm 113 112,qmT 114 18 113,qmT 115 20 113,⟨some
 116,.bin .eql 3 false false (.t 114) (.t 115),some (113, true)⟩,qp 117 113 116,qm 118 117,⟨some 119,.ld 13 true (.t 17),some (118, true)⟩,⟨some 120,.call (.c (.fn 25 [])) [.t 119],some (118, true)⟩,⟨some 121,.ld 13 true (.t 19),some (118,
 true)⟩,qkT 122 24 120 121 118,qp 123 118 122,qm 124 123,qmT 125 14 124,⟨some 126,.bin .eql 46 false true (.t 125) (.c (.val (.int .i64 0))),some (124, true)⟩,qmT 127 126 124,⟨some 128,.ld 13 true (.t 13),some (127, false)⟩,⟨some 129,.call (.c (.fn
 25 [])) [.t 128],some (127, false)⟩,⟨some 130,.ld 13 true (.t 6),some (127, false)⟩,⟨some 131,.call (.c (.fn 25 [])) [.t 130],some (127, false)⟩,⟨some 132,.call (.c (.fn 24 [])) [.t 129,.t 131],some (127, false)⟩,⟨some 133,.pick (.t 127) (.c (.val
 (.bool true))) (.t 132),some (124, true)⟩,qp 134 124 133,qm 4 134] [(5, 6),(16, 17),(25, 26)]) .ret))))))))))),[.tmp 4]⟩
def c5 : CF := ⟨.seq (.reg false [⟨some 0,.alloc [.val (.string ⟨#[]⟩),.val (.int .i64 0),.val (.int .i64 0),.val (.int .i64 0),.val (.int .i64 0),.im [] true,.im [] true,.im [] true,.im [] true,.im [] true,.im [] true,.im [] true,.im []
 true],none⟩] []) (.seq (.reg false [⟨some 1,.call (.c (.fn 26 [])) [],none⟩,⟨some 2,.bsl 1 1 [.val (.string ⟨#[]⟩)] [(0, 1, (.c (.val (.string ⟨#[48]⟩))))],none⟩,⟨some 3,.build [.val (.string ⟨#[]⟩),.val (.int .i64 0),.val (.int .i64 0),.val (.int
 .i64 0),.val (.int .i64 0),.im [] true,.im [] true,.im [] true,.im [] true,.im [] true,.im [] true,.im [] true,.im [] true] [(0, 1, (.c (.val (.string ⟨#[48]⟩)))),(9, 1, (.t 1)),(10, 1, (.t 2))],none⟩,qw 13 0 3] []) .ret),[.cell 0 13 true]⟩
def c6 : CF := ⟨.seq (.reg false [⟨some 2,.box (.t 0),none⟩,⟨some 4,.alloc [.val (.string ⟨#[]⟩),.val (.int .i64 0),.val (.int .i64 0),.val (.int .i64 0),.val (.int .i64 0),.im [] true,.im [] true,.im [] true,.im [] true,.im [] true,.im [] true,.im
 [] true,.im [] true],none⟩,qi 5 0] []) (.seq (.seq (.reg false [⟨some 9,.ld 13 true (.t 2),none⟩,qm 10 1,qk 11 27 9 10,qm 8 11,⟨some 12,.ext (.t 8) 0,none⟩,⟨some 13,.ext (.t 8) 1,none⟩,⟨some 6,.alloc [.val (.int .i64 0),.val (.string ⟨#[]⟩),.val
 (.int .i64 0),.val (.int .i64 0),.val (.bool false),.val (.complex .f64 0 0),.val (.string ⟨#[]⟩),.val (.bool false)],none⟩,qw 8 6 12,qm 7 13] []) (.seq (.reg false [qm 14 7,⟨some 15,.bin .neq 46 false true (.t 14) (.c (.val (.int .i64 0))),none⟩]
 []) (.cond (.t 15) (.seq (.reg false [⟨some 16,.ld 13 true (.t 2),none⟩,qm 17 7,qw 13 4 16,qm 5 17] []) .ret) .skip))) (.seq (.reg false [⟨some 18,.ld 13 true (.t 2),none⟩,qm 19 1,⟨some 20,.build [.val (.int .i64 0),.val (.string ⟨#[]⟩),.val (.int
 .i64 0),.val (.int .i64 0),.val (.bool false),.val (.complex .f64 0 0),.val (.string ⟨#[]⟩),.val (.bool false)] [(0, 1, (.t 19)),(4, 1, (.c (.val (.bool true))))],none⟩,qk 21 28 18 20,⟨some 22,.ext (.t 21) 0,none⟩,⟨some 23,.ext (.t 21) 1,none⟩,qw
 13 4 22,qm 5 23] []) .ret)),[.cell 4 13 true,.tmp 5]⟩
def c7 : CF := ⟨.seq (.reg false [⟨some 4,.box (.t 0),none⟩,⟨some 8,.alloc [.val (.string ⟨#[]⟩),.val (.int .i64 0),.val (.int .i64 0),.val (.int .i64 0),.val (.int .i64 0),.im [] true,.im [] true,.im [] true,.im [] true,.im [] true,.im [] true,.im
 [] true,.im [] true],none⟩,qi 9 0] []) (.seq (.block 0 (.seq (.reg false [qa 11 1 4,ql 12 11,⟨some 13,.bin .neq 3 false true (.t 12) (.c (.val (.int .i64 0))),none⟩,qm 10 13] []) (.cond (.t 10) (.seq (.reg false [⟨some 14,.ld 13 true (.t
 4),none⟩,qw 13 8 14,qi 9 5] []) .ret) (.seq (.reg false [qm 16 1,⟨some 17,.bin .lss 3 false true (.t 16) (.c (.val (.int .i64 0))),none⟩,qm 18 17,qmF 19 1 18,⟨some 20,.bin .geq 3 false true (.t 19) (.c (.val (.int .i64 32))),some (18, false)⟩,qo 21
 18 20,qm 15 21] []) (.cond (.t 15) (.seq (.reg false [⟨some 22,.ld 13 true (.t 4),none⟩,qw 13 8 22,qi 9 6] []) .ret) (.seq (.reg false [qm 24 2,qc 25 29 24,qb 26 25,qm 23 26] []) (.cond (.t 23) (.seq (.reg false [⟨some 27,.ld 13 true (.t
 4),none⟩,qw 13 8 27,qi 9 8] []) .ret) (.seq (.reg false [qa 29 9 4,ql 30 29,qm 31 2,qk 32 30 30 31,qb 33 32,qm 28 33] []) (.cond (.t 28) (.seq (.reg false [⟨some 34,.ld 13 true (.t 4),none⟩,qw 13 8 34,qi 9 9] []) .ret) (.seq (.reg false [qm 36
 3,⟨some 37,.len true (.t 36),none⟩,⟨some 38,.bin .gtr 3 false true (.t 37) (.c (.val (.int .i64 16))),none⟩,qm 35 38] []) (.cond (.t 35) (.seq (.reg false [⟨some 39,.ld 13 true (.t 4),none⟩,qw 13 8 39,qi 9 7] []) .ret) .skip))))))))))) (.seq (.reg
 false [⟨some 40,.ld 13 true (.t 4),none⟩,qm 41 1,qm 42 2,qm 43 3,⟨some 44,.build [.val (.int .i64 0),.val (.string ⟨#[]⟩),.val (.int .i64 0),.val (.int .i64 0),.val (.bool false),.val (.complex .f64 0 0),.val (.string ⟨#[]⟩),.val (.bool false)]
 [(0, 1, (.t 41)),(5, 1, (.t 42)),(6, 1, (.t 43)),(7, 1, (.c (.val (.bool true))))],none⟩,qk 45 28 40 44,⟨some 46,.ext (.t 45) 0,none⟩,⟨some 47,.ext (.t 45) 1,none⟩,qw 13 8 46,qm 9 47] []) .ret)),[.cell 8 13 true,.tmp 9]⟩
def c8 : CF := ⟨.seq (.reg false [⟨some 1,.box (.t 0),none⟩,⟨some 2,.mv (.c (.val (.complex .f64 0 0))),none⟩] []) (.seq (.reg false [qa 3 0 1,ql 4 3,⟨some 5,.cv 3 97 (.t 4),none⟩,qa 6 1 1,ql 7 6,⟨some 8,.cv 3 97 (.t 7),none⟩,⟨some 9,.fun_ .complex
 #[97,97] 50 [.t 5,.t 8],none⟩,qm 2 9] []) .ret),[.tmp 2]⟩
def c9 : CF := ⟨.seq (.reg false [⟨some 1,.box (.t 0),none⟩,⟨some 2,.alloc [.val (.int .i64 0),.val (.int .i64 0)],none⟩] []) (.seq (.reg false [qa 3 0 1,ql 4 3,⟨some 5,.cv 3 40 (.t 4),none⟩,⟨some 6,.bin .rem 40 false true (.t 5) (.c (.val (.int
 .u64 2001))),none⟩,⟨some 7,.cv 40 3 (.t 6),none⟩,⟨some 8,.bin .sub 3 false true (.t 7) (.c (.val (.int .i64 1000))),none⟩,qa 9 1 1,ql 10 9,⟨some 11,.cv 3 40 (.t 10),none⟩,⟨some 12,.bin .rem 40 false true (.t 11) (.c (.val (.int .u64
 2001))),none⟩,⟨some 13,.cv 40 3 (.t 12),none⟩,⟨some 14,.bin .sub 3 false true (.t 13) (.c (.val (.int .i64 1000))),none⟩,⟨some 15,.build [.val (.int .i64 0),.val (.int .i64 0)] [(0, 1, (.t 8)),(1, 1, (.t 14))],none⟩,qw 2 2 15] []) .ret),[.cell 2 2 true]⟩
def c10 : CF := ⟨.seq (.reg false [⟨some 2,.box (.t 0),none⟩,⟨some 4,.mv (.c (.val (.string ⟨#[]⟩))),none⟩,qi 5 0] []) (.seq (.reg false [⟨some 9,.ld 13 true (.t 2),none⟩,qm 10 1,qk 11 27 9 10,qm 8 11,⟨some 12,.ext (.t 8) 0,none⟩,⟨some 13,.ext (.t
 8) 1,none⟩,⟨some 6,.alloc [.val (.int .i64 0),.val (.string ⟨#[]⟩),.val (.int .i64 0),.val (.int .i64 0),.val (.bool false),.val (.complex .f64 0 0),.val (.string ⟨#[]⟩),.val (.bool false)],none⟩,qw 8 6 12,qm 7 13] []) (.seq (.block 0 (.seq (.reg
 false [qm 15 7,⟨some 16,.bin .neq 46 false true (.t 15) (.c (.val (.int .i64 0))),none⟩,qm 14 16] []) (.cond (.t 14) (.seq (.reg false [qm 17 7,⟨some 4,.mv (.c (.val (.string ⟨#[]⟩))),none⟩,qm 5 17] []) .ret) (.seq (.reg false [qa 19 9 2,ql 20
 19,qa 21 5 6,ql 22 21,qk 23 30 20 22,qb 24 23,qm 18 24] []) (.cond (.t 18) (.seq (.reg false [⟨some 4,.mv (.c (.val (.string ⟨#[]⟩))),none⟩,qi 5 12] []) .ret) (.seq (.reg false [qa 26 7 6,ql 27 26,qb 28 27,qm 25 28] []) (.cond (.t 25) (.seq (.reg
 false [⟨some 4,.mv (.c (.val (.string ⟨#[]⟩))),none⟩,qi 5 13] []) .ret) .skip))))))) (.seq (.reg false [qa 29 6 6,ql 30 29,qm 4 30,qi 5 0] []) .ret))),[.tmp 4,.tmp 5]⟩
def L11_0 : CC := (.seq (.seq (.reg false [qm 5 4,qm 6 0,qe 7 6,qz 8 5 7] []) (.cond (.t 8) .skip (.exit 0))) (.seq (.block 1 (.reg true [qm 11 3,qm 12 0,qm 13 4,⟨some 14,.ias 3 (.t 12) (.t 13),none⟩,qa 15 0 14,ql 16 15,qm 17 0,qm 18 4,⟨some 19,.ias
 3 (.t 17) (.t 18),none⟩,qa 20 1 19,⟨some 21,.ld 2 true (.t 20),none⟩,qc 22 31 21,⟨some 23,.build [.val (.string ⟨#[]⟩),.val (.int .i64 0),.im [] true] [(0, 1, (.t 16)),(1, 2, (.t 22))],none⟩,⟨some 24,.bsl 3 1 [.val (.string ⟨#[]⟩),.val (.int .i64
 0),.im [] true] [(0, 3, (.t 23))],none⟩,⟨some 25,.app 3 (.t 11) (.t 24),none⟩,qm 3 25] [(5, 11)])) (.reg false [qm 9 4,qs 10 9,qm 4 10] [])))
def c11 : CF := ⟨.seq (.reg false [qj 2] []) (.seq (.reg false [qj 3] []) (.seq (.seq (.reg false [qi 4 0] []) (.block 0 (.loop L11_0))) (.seq (.reg false [qm 26 3,qm 2 26] []) .ret))),[.tmp 2]⟩
def c12 : CF := ⟨.seq (.reg false [⟨some 1,.box (.t 0),none⟩,qj 2] []) (.seq (.reg true [qa 3 5 1,ql 4 3,qa 5 6 1,ql 6 5,qc 7 33 6,qk 8 32 4 7,qm 2 8] [(1, 4)]) .ret),[.tmp 2]⟩
def c13 : CF := ⟨.seq (.reg false [qf 0] []) (.seq (.reg false [⟨some 13,.call (.c (.fn 5 [])) [],none⟩,⟨some 14,.call (.c (.fn 7 [])) [.t 13,.c (.val (.int .i64 3)),.c (.val (.complex .f64 4607182418800017408 4611686018427387904)),.c (.val (.string
 ⟨#[120]⟩))],none⟩,qm 12 14,⟨some 15,.ext (.t 12) 0,none⟩,⟨some 16,.ext (.t 12) 1,none⟩,⟨some 1,.alloc [.val (.string ⟨#[]⟩),.val (.int .i64 0),.val (.int .i64 0),.val (.int .i64 0),.val (.int .i64 0),.im [] true,.im [] true,.im [] true,.im []
 true,.im [] true,.im [] true,.im [] true,.im [] true],none⟩,qw 13 1 15,qm 2 16] []) (.seq (.reg false [⟨some 18,.ld 13 true (.t 1),none⟩,qc 19 15 18,qm 17 19,⟨some 20,.ext (.t 17) 0,none⟩,⟨some 21,.ext (.t 17) 1,none⟩,⟨some 22,.ext (.t 17)
 2,none⟩,⟨some 3,.alloc [.val (.string ⟨#[]⟩),.val (.int .i64 0),.val (.int .i64 0),.val (.int .i64 0),.val (.int .i64 0),.im [] true,.im [] true,.im [] true,.im [] true,.im [] true,.im [] true,.im [] true,.im [] true],none⟩,qw 13 1 20,qw 13 3 21,qm
 4 22] []) (.seq (.reg false [⟨some 24,.ld 13 true (.t 3),none⟩,⟨some 25,.call (.c (.fn 10 [])) [.t 24,.c (.val (.int .i64 3))],none⟩,qm 23 25,⟨some 26,.ext (.t 23) 0,none⟩,⟨some 27,.ext (.t 23) 1,none⟩,qm 5 26,qm 6 27] []) (.seq (.reg false [⟨some
 29,.ld 13 true (.t 3),none⟩,⟨some 30,.call (.c (.fn 6 [])) [.t 29,.c (.val (.int .i64 3))],none⟩,qm 28 30,⟨some 31,.ext (.t 28) 0,none⟩,⟨some 32,.ext (.t 28) 1,none⟩,qw 13 3 31,qm 7 32] []) (.seq (.reg false [⟨some 34,.ld 13 true (.t 3),none⟩,⟨some
 35,.call (.c (.fn 10 [])) [.t 34,.c (.val (.int .i64 3))],none⟩,qm 33 35,⟨some 36,.ext (.t 33) 0,none⟩,⟨some 37,.ext (.t 33) 1,none⟩,qm 8 36,qm 9 37] []) (.seq (.reg false [⟨some 39,.ld 13 true (.t 1),none⟩,⟨some 40,.call (.c (.fn 10 [])) [.t 39,.c
 (.val (.int .i64 3))],none⟩,qm 38 40,⟨some 41,.ext (.t 38) 0,none⟩,⟨some 42,.ext (.t 38) 1,none⟩,qm 10 41,qm 11 42] []) (.seq (.reg false [qm 43 2,⟨some 44,.bin .eql 46 false true (.t 43) (.c (.val (.int .i64 0))),none⟩,qm 45 44,qmT 46 4 45,⟨some
 47,.bin .eql 46 false true (.t 46) (.c (.val (.int .i64 0))),some (45, true)⟩,qp 48 45 47,qm 49 48,qmT 50 5 49,⟨some 51,.bin .eql 9 false true (.t 50) (.c (.val (.string ⟨#[120]⟩))),some (49, true)⟩,qp 52 49 51,qm 53 52,qmT 54 6 53,⟨some 55,.bin
 .eql 46 false true (.t 54) (.c (.val (.int .i64 0))),some (53, true)⟩,qp 56 53 55,qm 57 56,qmT 58 7 57,⟨some 59,.bin .eql 46 false true (.t 58) (.c (.val (.int .i64 0))),some (57, true)⟩,qp 60 57 59,qm 61 60,qmT 62 9 61,⟨some 63,.bin .eql 46 false
 true (.t 62) (.c (.val (.int .i64 11))),some (61, true)⟩,qp 64 61 63,qm 65 64,qmT 66 10 65,⟨some 67,.bin .eql 9 false true (.t 66) (.c (.val (.string ⟨#[120]⟩))),some (65, true)⟩,qp 68 65 67,qm 69 68,qmT 70 11 69,⟨some 71,.bin .eql 46 false true
 (.t 70) (.c (.val (.int .i64 0))),some (69, true)⟩,qp 72 69 71,qm 73 72,qaT 74 0 3 73,qlT 75 74 73,⟨some 76,.bin .eql 23 false true (.t 75) (.c (.val (.string ⟨#[48,49]⟩))),some (73, true)⟩,qp 77 73 76,qm 78 77,qaT 79 0 1 78,qlT 80 79 78,⟨some
 81,.bin .eql 23 false true (.t 80) (.c (.val (.string ⟨#[48]⟩))),some (78, true)⟩,qp 82 78 81,qm 83 82,qaT 84 10 1 83,qlT 85 84 83,⟨some 86,.len false (.t 85),some (83, true)⟩,⟨some 87,.bin .eql 3 false true (.t 86) (.c (.val (.int .i64 2))),some
 (83, true)⟩,qp 88 83 87,qm 0 88] []) .ret))))))),[.tmp 0]⟩
def L14_0 : CC := (.seq (.seq (.reg false [qm 39 3,qa 40 7 1,ql 41 40,qe 42 41,qz 43 39 42] []) (.cond (.t 43) .skip (.exit 0))) (.seq (.block 1 (.seq (.reg false [qa 46 7 1,ql 47 46,qm 48 3,⟨some 49,.ias 4 (.t 47) (.t 48),none⟩,⟨some 50,.ld 4 true
 (.t 49),none⟩,⟨some 4,.alloc [.val (.int .i64 0),.val (.int .i64 0),.val (.int .i64 0),.val (.int .i64 0)],none⟩,qw 4 4 50] []) (.seq (.reg false [qa 51 1 4,ql 52 51,⟨some 53,.bin .gtr 3 false true (.t 52) (.c (.val (.int .i64
 1099511627776))),none⟩,qm 54 53,qaF 55 1 4 54,qlF 56 55 54,⟨some 57,.bin .lss 3 false true (.t 56) (.c (.val (.int .i64 (-1099511627776)))),some (54, false)⟩,qo 58 54 57,qm 59 58,qaF 60 2 4 59,qlF 61 60 59,⟨some 62,.bin .gtr 3 false true (.t 61)
 (.c (.val (.int .i64 1099511627776))),some (59, false)⟩,qo 63 59 62,qm 64 63,qaF 65 2 4 64,qlF 66 65 64,⟨some 67,.bin .lss 3 false true (.t 66) (.c (.val (.int .i64 (-1099511627776)))),some (64, false)⟩,qo 68 64 67,qm 69 68,qaF 70 3 4 69,qlF 71 70
 69,⟨some 72,.bin .gtr 3 false true (.t 71) (.c (.val (.int .i64 1099511627776))),some (69, false)⟩,qo 73 69 72,qm 74 73,qaF 75 3 4 74,qlF 76 75 74,⟨some 77,.bin .lss 3 false true (.t 76) (.c (.val (.int .i64 (-1099511627776)))),some (74, false)⟩,qo
 78 74 77] []) (.cond (.t 78) (.seq (.reg false [qf 2] []) .ret) .skip)))) (.reg false [qm 44 3,qs 45 44,qm 3 45] [])))
def c14 : CF := ⟨.seq (.reg false [⟨some 1,.box (.t 0),none⟩,qf 2] []) (.seq (.seq (.reg false [qa 5 6 1,ql 6 5,⟨some 7,.len true (.t 6),none⟩,⟨some 8,.bin .gtr 3 false true (.t 7) (.c (.val (.int .i64 100))),none⟩,qm 9 8,qaF 10 7 1 9,qlF 11 10
 9,⟨some 12,.len false (.t 11),some (9, false)⟩,⟨some 13,.bin .gtr 3 false true (.t 12) (.c (.val (.int .i64 40))),some (9, false)⟩,qo 14 9 13,qm 15 14,qaF 16 4 1 15,qaF 17 0 16 15,qlF 18 17 15,⟨some 19,.bin .gtr 3 false true (.t 18) (.c (.val (.int
 .i64 1099511627776))),some (15, false)⟩,qo 20 15 19,qm 21 20,qaF 22 4 1 21,qaF 23 0 22 21,qlF 24 23 21,⟨some 25,.bin .lss 3 false true (.t 24) (.c (.val (.int .i64 (-1099511627776)))),some (21, false)⟩,qo 26 21 25,qm 27 26,qaF 28 4 1 27,qaF 29 1 28
 27,qlF 30 29 27,⟨some 31,.bin .gtr 3 false true (.t 30) (.c (.val (.int .i64 1099511627776))),some (27, false)⟩,qo 32 27 31,qm 33 32,qaF 34 4 1 33,qaF 35 1 34 33,qlF 36 35 33,⟨some 37,.bin .lss 3 false true (.t 36) (.c (.val (.int .i64
 (-1099511627776)))),some (33, false)⟩,qo 38 33 37] []) (.cond (.t 38) (.seq (.reg false [qf 2] []) .ret) .skip)) (.seq (.seq (.reg false [qi 3 0] []) (.block 0 (.loop L14_0))) (.seq (.reg false [qt 2] []) .ret))),[.tmp 2]⟩
def c15 : CF := ⟨.seq (.reg false [⟨some 1,.box (.t 0),none⟩,⟨some 2,.alloc [.val (.string ⟨#[]⟩),.val (.int .i64 0),.val (.int .i64 0),.val (.int .i64 0),.val (.int .i64 0),.im [] true,.im [] true,.im [] true,.im [] true,.im [] true,.im [] true,.im
 [] true,.im [] true],none⟩,⟨some 3,.alloc [.val (.string ⟨#[]⟩),.val (.int .i64 0),.val (.int .i64 0),.val (.int .i64 0),.val (.int .i64 0),.im [] true,.im [] true,.im [] true,.im [] true,.im [] true,.im [] true,.im [] true,.im [] true],none⟩,qi 4
 0] []) (.seq (.seq (.reg false [qa 8 1 1,ql 9 8,⟨some 10,.bin .neq 3 false true (.t 9) (.c (.val (.int .i64 0))),none⟩] []) (.cond (.t 10) (.seq (.reg false [⟨some 11,.ld 13 true (.t 1),none⟩,⟨some 12,.build [.val (.string ⟨#[]⟩),.val (.int .i64
 0),.val (.int .i64 0),.val (.int .i64 0),.val (.int .i64 0),.im [] true,.im [] true,.im [] true,.im [] true,.im [] true,.im [] true,.im [] true,.im [] true] [],none⟩,qw 13 2 11,qw 13 3 12,qi 4 5] []) .ret) .skip)) (.seq (.reg false [qa 14 0 1,ql 15
 14,qa 16 2 1,ql 17 16,qs 18 17,qk 19 34 15 18,qm 13 19,⟨some 20,.ext (.t 13) 0,none⟩,⟨some 21,.ext (.t 13) 1,none⟩,qm 5 20,qm 6 21] []) (.seq (.seq (.reg false [qm 22 6,⟨some 23,.bin .neq 46 false true (.t 22) (.c (.val (.int .i64 0))),none⟩] [])
 (.cond (.t 23) (.seq (.reg false [⟨some 24,.ld 13 true (.t 1),none⟩,⟨some 25,.build [.val (.string ⟨#[]⟩),.val (.int .i64 0),.val (.int .i64 0),.val (.int .i64 0),.val (.int .i64 0),.im [] true,.im [] true,.im [] true,.im [] true,.im [] true,.im []
 true,.im [] true,.im [] true] [],none⟩,qw 13 2 24,qw 13 3 25,qi 4 18] []) .ret) .skip)) (.seq (.reg false [⟨some 26,.ld 13 true (.t 1),none⟩,qc 27 35 26,qw 13 1 27] []) (.seq (.reg false [qa 28 2 1,ql 29 28,qs 30 29,qa 31 2 1,qw 1 31 30] []) (.seq
 (.reg false [qa 32 10 1,ql 33 32,qm 34 5,qk 35 36 33 34,qa 36 10 1,qw 1 36 35] []) (.seq (.reg true [qa 37 12 1,ql 38 37,qm 39 5,⟨some 40,.ld 13 true (.t 1),none⟩,qc 41 12 40,qc 42 38 41,⟨some 43,.call (.c (.fn 37 [])) [.t 38,.t 39,.t 42],none⟩,qa
 44 12 1,qw 1 44 43] [(1, 4),(1, 5)]) (.seq (.reg false [⟨some 45,.ld 13 true (.t 1),none⟩,qc 46 39 45,qw 13 1 46] []) (.seq (.reg false [⟨some 47,.ld 13 true (.t 1),none⟩,⟨some 7,.alloc [.val (.string ⟨#[]⟩),.val (.int .i64 0),.val (.int .i64
 0),.val (.int .i64 0),.val (.int .i64 0),.im [] true,.im [] true,.im [] true,.im [] true,.im [] true,.im [] true,.im [] true,.im [] true],none⟩,qw 13 7 47] []) (.seq (.reg false [qm 48 5,qa 49 0 7,qw 1 49 48,qa 50 2 7,⟨none,.st 1 (.t 50) (.c (.val
 (.int .i64 0))),none⟩,qa 51 3 7,⟨none,.st 1 (.t 51) (.c (.val (.int .i64 0))),none⟩] []) (.seq (.reg true [⟨some 52,.ld 13 true (.t 1),none⟩,⟨some 53,.ld 13 true (.t 7),none⟩,qc 54 39 53,qw 13 2 52,qw 13 3 54,qi 4 0] [(0, 2)])
 .ret))))))))))),[.cell 2 13 true,.cell 3 13 true,.tmp 4]⟩
def c16 : CF := ⟨.seq (.reg false [⟨some 1,.box (.t 0),none⟩,⟨some 2,.alloc [.val (.string ⟨#[]⟩),.val (.int .i64 0),.val (.int .i64 0),.val (.int .i64 0),.val (.int .i64 0),.im [] true,.im [] true,.im [] true,.im [] true,.im [] true,.im [] true,.im
 [] true,.im [] true],none⟩,⟨some 3,.alloc [.val (.string ⟨#[]⟩),.val (.int .i64 0),.val (.int .i64 0),.val (.int .i64 0),.val (.int .i64 0),.im [] true,.im [] true,.im [] true,.im [] true,.im [] true,.im [] true,.im [] true,.im [] true],none⟩,qi 4
 0] []) (.seq (.seq (.reg false [qa 8 1 1,ql 9 8,⟨some 10,.bin .neq 3 false true (.t 9) (.c (.val (.int .i64 0))),none⟩] []) (.cond (.t 10) (.seq (.reg false [⟨some 11,.ld 13 true (.t 1),none⟩,⟨some 12,.build [.val (.string ⟨#[]⟩),.val (.int .i64
 0),.val (.int .i64 0),.val (.int .i64 0),.val (.int .i64 0),.im [] true,.im [] true,.im [] true,.im [] true,.im [] true,.im [] true,.im [] true,.im [] true] [],none⟩,qw 13 2 11,qw 13 3 12,qi 4 5] []) .ret) .skip)) (.seq (.seq (.reg false [qa 13 2
 1,ql 14 13,⟨some 15,.bin .geq 3 false true (.t 14) (.c (.val (.int .i64 9))),none⟩,qm 16 15,qaF 17 0 1 16,qlF 18 17 16,⟨some 19,.len true (.t 18),some (16, false)⟩,⟨some 20,.bin .geq 3 false true (.t 19) (.c (.val (.int .i64 6))),some (16,
 false)⟩,qo 21 16 20] []) (.cond (.t 21) (.seq (.reg false [⟨some 22,.ld 13 true (.t 1),none⟩,⟨some 23,.build [.val (.string ⟨#[]⟩),.val (.int .i64 0),.val (.int .i64 0),.val (.int .i64 0),.val (.int .i64 0),.im [] true,.im [] true,.im [] true,.im
 [] true,.im [] true,.im [] true,.im [] true,.im [] true] [],none⟩,qw 13 2 22,qw 13 3 23,qi 4 18] []) .ret) .skip)) (.seq (.reg false [qa 24 2 1,ql 25 24,qs 26 25,qa 27 2 1,qw 1 27 26] []) (.seq (.reg false [qa 29 0 1,ql 30 29,qa 31 2 1,ql 32 31,qk
 33 40 30 32,qm 28 33,⟨some 34,.ext (.t 28) 0,none⟩,⟨some 35,.ext (.t 28) 1,none⟩,qm 5 34,qm 6 35] []) (.seq (.reg false [qa 36 10 1,ql 37 36,qm 38 5,⟨some 39,.bsl 1 1 [.val (.string ⟨#[]⟩)] [(0, 1, (.t 38))],none⟩,qk 40 41 37 39,qa 41 10 1,qw 1 41
 40] []) (.seq (.reg true [qa 42 12 1,ql 43 42,qm 44 5,⟨some 45,.ld 13 true (.t 1),none⟩,qc 46 44 45,qc 47 43 46,⟨some 48,.call (.c (.fn 42 [])) [.t 43,.t 44,.t 47],none⟩,qa 49 12 1,qw 1 49 48] [(1, 4),(1, 5)]) (.seq (.reg false [⟨some 50,.ld 13
 true (.t 1),none⟩,qc 51 45 50,qw 13 1 51] []) (.seq (.reg false [⟨some 52,.ld 13 true (.t 1),none⟩,⟨some 7,.alloc [.val (.string ⟨#[]⟩),.val (.int .i64 0),.val (.int .i64 0),.val (.int .i64 0),.val (.int .i64 0),.im [] true,.im [] true,.im []
 true,.im [] true,.im [] true,.im [] true,.im [] true,.im [] true],none⟩,qw 13 7 52] []) (.seq (.reg false [qm 53 5,qa 54 0 7,qw 1 54 53,qa 55 2 7,⟨none,.st 1 (.t 55) (.c (.val (.int .i64 0))),none⟩,qa 56 3 7,⟨none,.st 1 (.t 56) (.c (.val (.int .i64
 0))),none⟩] []) (.seq (.reg true [⟨some 57,.ld 13 true (.t 1),none⟩,⟨some 58,.ld 13 true (.t 7),none⟩,qc 59 45 58,qw 13 2 57,qw 13 3 59,qi 4 0] [(0, 2)]) .ret)))))))))),[.cell 2 13 true,.cell 3 13 true,.tmp 4]⟩
def c17 : CF := ⟨.seq (.reg false [⟨some 0,.alloc [.val (.string ⟨#[]⟩),.val (.int .i64 0),.val (.int .i64 0),.val (.int .i64 0),.val (.int .i64 0),.im [] true,.im [] true,.im [] true,.im [] true,.im [] true,.im [] true,.im [] true,.im []
 true],none⟩] []) (.seq (.reg false [⟨some 1,.build [.val (.int .i64 0),.val (.int .i64 0),.val (.int .i64 0),.val (.int .i64 0)] [(0, 1, (.c (.val (.int .i64 1))))],none⟩,⟨some 2,.bsl 4 1 [.val (.int .i64 0),.val (.int .i64 0),.val (.int .i64
 0),.val (.int .i64 0)] [(0, 4, (.t 1))],none⟩,⟨some 3,.bsl 1 1 [.val (.string ⟨#[]⟩)] [(0, 1, (.c (.val (.string ⟨#[48]⟩))))],none⟩,⟨some 4,.build [.val (.string ⟨#[]⟩),.val (.int .i64 0),.val (.int .i64 0),.val (.int .i64 0),.val (.int .i64 0),.im
 [] true,.im [] true,.im [] true,.im [] true,.im [] true,.im [] true,.im [] true,.im [] true] [(0, 1, (.c (.val (.string ⟨#[48]⟩)))),(9, 1, (.t 2)),(10, 1, (.t 3))],none⟩,qw 13 0 4] []) .ret),[.cell 0 13 true]⟩
def c18 : CF := ⟨.seq (.reg false [⟨some 2,.box (.t 0),none⟩,⟨some 4,.alloc [.val (.string ⟨#[]⟩),.val (.int .i64 0),.val (.int .i64 0),.val (.int .i64 0),.val (.int .i64 0),.im [] true,.im [] true,.im [] true,.im [] true,.im [] true,.im [] true,.im
 [] true,.im [] true],none⟩,qi 5 0] []) (.seq (.block 0 (.seq (.reg false [qa 7 1 2,ql 8 7,⟨some 9,.bin .neq 3 false true (.t 8) (.c (.val (.int .i64 0))),none⟩,qm 6 9] []) (.cond (.t 6) (.seq (.reg false [⟨some 10,.ld 13 true (.t 2),none⟩,qw 13 4
 10,qi 5 5] []) .ret) (.seq (.reg false [qa 12 0 2,ql 13 12,⟨some 14,.bin .eql 23 false true (.t 13) (.c (.val (.string ⟨#[48]⟩))),none⟩,qm 11 14] []) (.cond (.t 11) (.seq (.reg false [⟨some 15,.ld 13 true (.t 2),none⟩,qw 13 4 15,qi 5 14] []) .ret)
 (.seq (.reg false [qm 17 1,qc 18 46 17,qb 19 18,qm 16 19] []) (.cond (.t 16) (.seq (.reg false [⟨some 20,.ld 13 true (.t 2),none⟩,qw 13 4 20,qi 5 9] []) .ret) .skip))))))) (.seq (.reg false [qm 21 1,qc 22 47 21,qa 23 9 2,qw 1 23 22] []) (.seq (.reg
 false [⟨some 24,.ld 13 true (.t 2),none⟩,qc 25 39 24,qw 13 4 25,qi 5 0] []) .ret))),[.cell 4 13 true,.tmp 5]⟩
def L19_0 : CC := (.seq (.seq (.reg false [qm 5 4,qm 6 0,qe 7 6,qz 8 5 7] []) (.cond (.t 8) .skip (.exit 0))) (.seq (.block 1 (.reg true [qm 11 3,qm 12 0,qm 13 4,⟨some 14,.ias 4 (.t 12) (.t 13),none⟩,qa 15 0 14,ql 16 15,qm 17 0,qm 18 4,⟨some 19,.ias
 4 (.t 17) (.t 18),none⟩,qa 20 1 19,ql 21 20,qm 22 0,qm 23 4,⟨some 24,.ias 4 (.t 22) (.t 23),none⟩,qa 25 2 24,ql 26 25,⟨some 27,.build [.val (.int .i64 0),.val (.int .i64 0)] [(0, 1, (.t 21)),(1, 1, (.t 26))],none⟩,qc 28 8 27,qm 29 0,qm 30 4,⟨some
 31,.ias 4 (.t 29) (.t 30),none⟩,qa 32 3 31,ql 33 32,⟨some 34,.cv 3 97 (.t 33),none⟩,⟨some 35,.build [.val (.int .i64 0),.val (.complex .f64 0 0),.val (.float .f64 0)] [(0, 1, (.t 16)),(1, 1, (.t 28)),(2, 1, (.t 34))],none⟩,⟨some 36,.bsl 3 1 [.val
 (.int .i64 0),.val (.complex .f64 0 0),.val (.float .f64 0)] [(0, 3, (.t 35))],none⟩,⟨some 37,.app 3 (.t 11) (.t 36),none⟩,qm 3 37] [(5, 17),(17, 22)])) (.reg false [qm 9 4,qs 10 9,qm 4 10] [])))
def c19 : CF := ⟨.seq (.reg false [qj 2] []) (.seq (.reg false [qj 3] []) (.seq (.seq (.reg false [qi 4 0] []) (.block 0 (.loop L19_0))) (.seq (.reg false [qm 38 3,qm 2 38] []) .ret))),[.tmp 2]⟩
def L20_0 : CC := (.seq (.seq (.reg false [qm 9 5,qm 10 0,qe 11 10,qz 12 9 11,qm 13 12,qmT 14 5 13,⟨some 15,.bin .lss 3 false true (.t 14) (.c (.val (.int .i64 12))),some (13, true)⟩,qp 16 13 15] []) (.cond (.t 16) .skip (.exit 0))) (.seq (.block 1
 (.seq (.reg false [qm 19 0,qm 20 5,⟨some 21,.ias 4 (.t 19) (.t 20),none⟩,qa 22 0 21,ql 23 22,⟨some 24,.cv 3 40 (.t 23),none⟩,⟨some 25,.bin .rem 40 false true (.t 24) (.c (.val (.int .u64 6))),none⟩,⟨some 26,.cv 40 3 (.t 25),none⟩,⟨some 27,.bin .add
 3 true false (.c (.val (.int .i64 1))) (.t 26),none⟩,qm 6 27] []) (.seq (.reg true [qm 28 0,qm 29 5,⟨some 30,.ias 4 (.t 28) (.t 29),none⟩,qa 31 1 30,ql 32 31,qm 33 0,qm 34 5,⟨some 35,.ias 4 (.t 33) (.t 34),none⟩,qa 36 2 35,ql 37 36,⟨some 38,.build
 [.val (.int .i64 0),.val (.int .i64 0)] [(0, 1, (.t 32)),(1, 1, (.t 37))],none⟩,qc 39 9 38,⟨some 7,.alloc [.val (.int .i64 0),.val (.int .i64 0)],none⟩,qw 2 7 39] [(4, 12),(9, 12),(11, 12)]) (.seq (.seq (.reg false [qm 40 6,qq 41 40 4,qm 42 41,qmT
 43 4 42,⟨some 44,.bin .lss 3 false true (.t 43) (.c (.val (.int .i64 1))),some (42, true)⟩,qp 45 42 44,qm 46 45,qmF 47 6 46,⟨some 48,.bin .gtr 3 false true (.t 47) (.c (.val (.int .i64 4))),some (46, false)⟩,qmF 49 48 46,qmT 50 4 49,⟨some 51,.bin
 .lss 3 false true (.t 50) (.c (.val (.int .i64 2))),some (49, true)⟩,⟨some 52,.pick (.t 49) (.t 51) (.c (.val (.bool false))),some (46, false)⟩,qo 53 46 52] []) (.cond (.t 53) (.reg false [qi 6 2] []) .skip)) (.seq (.reg false [qm 54 6,⟨some
 55,.build [.val (.int .i64 0),.val (.int .i64 0),.val (.int .i64 0),.val (.int .i64 0)] [(0, 1, (.t 54))],none⟩,⟨some 8,.alloc [.val (.int .i64 0),.val (.int .i64 0),.val (.int .i64 0),.val (.int .i64 0)],none⟩,qw 4 8 55] []) (.seq (.seq (.reg
 false [qm 56 6,qq 57 56 2] []) (.cond (.t 57) (.reg true [qa 58 0 7,ql 59 58,qa 60 1 7,ql 61 60,qm 62 0,qm 63 5,⟨some 64,.ias 4 (.t 62) (.t 63),none⟩,qa 65 3 64,ql 66 65,⟨some 67,.cv 3 40 (.t 66),none⟩,⟨some 68,.bin .rem 40 false true (.t 67) (.c
 (.val (.int .u64 2001))),none⟩,⟨some 69,.cv 40 3 (.t 68),none⟩,⟨some 70,.build [.val (.int .i64 0),.val (.int .i64 0),.val (.int .i64 0),.val (.int .i64 0)] [(0, 1, (.c (.val (.int .i64 2)))),(1, 1, (.t 59)),(2, 1, (.t 61)),(3, 1, (.t
 69))],none⟩,qw 4 8 70] []) .skip)) (.seq (.seq (.reg false [qm 71 6,qq 72 71 3] []) (.cond (.t 72) (.reg true [qa 73 0 7,ql 74 73,qa 75 1 7,ql 76 75,qm 77 0,qm 78 5,⟨some 79,.ias 4 (.t 77) (.t 78),none⟩,qa 80 3 79,ql 81 80,⟨some 82,.cv 3 40 (.t
 81),none⟩,⟨some 83,.bin .rem 40 false true (.t 82) (.c (.val (.int .u64 4000001))),none⟩,⟨some 84,.cv 40 3 (.t 83),none⟩,⟨some 85,.bin .sub 3 false true (.t 84) (.c (.val (.int .i64 2000000))),none⟩,⟨some 86,.build [.val (.int .i64 0),.val (.int
 .i64 0),.val (.int .i64 0),.val (.int .i64 0)] [(0, 1, (.c (.val (.int .i64 3)))),(1, 1, (.t 74)),(2, 1, (.t 76)),(3, 1, (.t 85))],none⟩,qw 4 8 86] []) .skip)) (.seq (.seq (.reg false [qm 87 6,⟨some 88,.bin .leq 3 false true (.t 87) (.c (.val (.int
 .i64 3))),none⟩] []) (.cond (.t 88) (.reg false [qm 89 4,qs 90 89,qm 4 90] []) .skip)) (.seq (.seq (.reg false [qm 91 6,⟨some 92,.bin .gtr 3 false true (.t 91) (.c (.val (.int .i64 4))),none⟩] []) (.cond (.t 92) (.reg false [qm 93 4,⟨some 94,.bin
 .sub 3 false true (.t 93) (.c (.val (.int .i64 1))),none⟩,qm 4 94] []) .skip)) (.reg false [qm 95 3,⟨some 96,.ld 4 true (.t 8),none⟩,⟨some 97,.bsl 4 1 [.val (.int .i64 0),.val (.int .i64 0),.val (.int .i64 0),.val (.int .i64 0)] [(0, 4, (.t
 96))],none⟩,⟨some 98,.app 4 (.t 95) (.t 97),none⟩,qm 3 98] [])))))))))) (.reg false [qm 17 5,qs 18 17,qm 5 18] [])))
def L20_1 : CC := (.seq (.seq (.reg false [qm 103 4,⟨some 104,.bin .gtr 3 false true (.t 103) (.c (.val (.int .i64 1))),none⟩] []) (.cond (.t 104) .skip (.exit 2))) (.seq (.block 3 (.reg false [qm 107 3,⟨some 108,.build [.val (.int .i64 0),.val
 (.int .i64 0),.val (.int .i64 0),.val (.int .i64 0)] [(0, 1, (.c (.val (.int .i64 6))))],none⟩,⟨some 109,.bsl 4 1 [.val (.int .i64 0),.val (.int .i64 0),.val (.int .i64 0),.val (.int .i64 0)] [(0, 4, (.t 108))],none⟩,⟨some 110,.app 4 (.t 107) (.t
 109),none⟩,qm 3 110] [])) (.reg false [qm 105 4,⟨some 106,.bin .sub 3 false true (.t 105) (.c (.val (.int .i64 1))),none⟩,qm 4 106] [])))
def c20 : CF := ⟨.seq (.reg false [qj 2] []) (.seq (.reg false [qj 3] []) (.seq (.reg false [qi 4 0] []) (.seq (.seq (.reg false [qi 5 0] []) (.block 0 (.loop L20_0))) (.seq (.seq (.reg false [qm 99 4,qq 100 99 0] []) (.cond (.t 100) (.seq (.reg
 false [⟨some 101,.build [.val (.int .i64 0),.val (.int .i64 0),.val (.int .i64 0),.val (.int .i64 0)] [(0, 1, (.c (.val (.int .i64 1))))],none⟩,⟨some 102,.bsl 4 1 [.val (.int .i64 0),.val (.int .i64 0),.val (.int .i64 0),.val (.int .i64 0)] [(0, 4,
 (.t 101))],none⟩,qm 2 102] []) .ret) .skip)) (.seq (.block 2 (.loop L20_1)) (.seq (.reg false [qm 111 3,qm 2 111] []) .ret)))))),[.tmp 2]⟩
def c21 : CF := ⟨.seq (.reg false [⟨some 2,.box (.t 0),none⟩,⟨some 4,.alloc [.val (.string ⟨#[]⟩),.val (.int .i64 0),.val (.int .i64 0),.val (.int .i64 0),.val (.int .i64 0),.im [] true,.im [] true,.im [] true,.im [] true,.im [] true,.im [] true,.im
 [] true,.im [] true],none⟩,qi 5 0] []) (.seq (.seq (.reg false [qa 6 1 2,ql 7 6,⟨some 8,.bin .neq 3 false true (.t 7) (.c (.val (.int .i64 0))),none⟩] []) (.cond (.t 8) (.seq (.reg false [⟨some 9,.ld 13 true (.t 2),none⟩,qw 13 4 9,qi 5 5] []) .ret)
 .skip)) (.seq (.seq (.reg false [qa 10 0 2,ql 11 10,⟨some 12,.bin .eql 9 false true (.t 11) (.c (.val (.string ⟨#[48]⟩))),none⟩] []) (.cond (.t 12) (.seq (.reg false [⟨some 13,.ld 13 true (.t 2),none⟩,qw 13 4 13,qi 5 14] []) .ret) .skip)) (.seq
 (.seq (.reg false [qm 14 1,qc 15 48 14,qb 16 15] []) (.cond (.t 16) (.seq (.reg false [⟨some 17,.ld 13 true (.t 2),none⟩,qw 13 4 17,qi 5 9] []) .ret) .skip)) (.seq (.reg false [⟨some 18,.bsl 4 0 [] [],none⟩,qm 19 1,⟨some 20,.app 4 (.t 18) (.t
 19),none⟩,qa 21 9 2,qw 1 21 20] []) (.seq (.reg false [⟨some 22,.ld 13 true (.t 2),none⟩,qc 23 45 22,qw 13 4 23,qi 5 0] []) .ret))))),[.cell 4 13 true,.tmp 5]⟩
def c22 : CF := ⟨.seq (.reg false [⟨some 4,.box (.t 0),none⟩,⟨some 6,.box (.t 2),none⟩,⟨some 8,.alloc [.val (.string ⟨#[]⟩),.val (.int .i64 0),.val (.int .i64 0),.val (.int .i64 0),.val (.int .i64 0),.im [] true,.im [] true,.im [] true,.im []
 true,.im [] true,.im [] true,.im [] true,.im [] true],none⟩,qi 9 0] []) (.seq (.seq (.reg false [qa 10 1 4,ql 11 10,⟨some 12,.bin .neq 3 false true (.t 11) (.c (.val (.int .i64 0))),none⟩] []) (.cond (.t 12) (.seq (.reg false [⟨some 13,.ld 13 true
 (.t 4),none⟩,qw 13 8 13,qi 9 5] []) .ret) .skip)) (.seq (.seq (.reg false [qm 14 1,⟨some 15,.bin .lss 3 false true (.t 14) (.c (.val (.int .i64 0))),none⟩,qm 16 15,qmF 17 1 16,⟨some 18,.bin .gtr 3 false true (.t 17) (.c (.val (.int .i64 31))),some
 (16, false)⟩,qo 19 16 18] []) (.cond (.t 19) (.seq (.reg false [⟨some 20,.ld 13 true (.t 4),none⟩,qw 13 8 20,qi 9 6] []) .ret) .skip)) (.seq (.seq (.reg false [⟨some 21,.ld 2 true (.t 6),none⟩,qc 22 49 21,qb 23 22] []) (.cond (.t 23) (.seq (.reg
 false [⟨some 24,.ld 13 true (.t 4),none⟩,qw 13 8 24,qi 9 8] []) .ret) .skip)) (.seq (.seq (.reg false [qa 25 9 4,ql 26 25,⟨some 27,.ld 2 true (.t 6),none⟩,qk 28 50 26 27,qb 29 28] []) (.cond (.t 29) (.seq (.reg false [⟨some 30,.ld 13 true (.t
 4),none⟩,qw 13 8 30,qi 9 9] []) .ret) .skip)) (.seq (.seq (.reg false [qm 31 3,⟨some 32,.len true (.t 31),none⟩,⟨some 33,.bin .gtr 3 false true (.t 32) (.c (.val (.int .i64 16))),none⟩] []) (.cond (.t 33) (.seq (.reg false [⟨some 34,.ld 13 true (.t
 4),none⟩,qw 13 8 34,qi 9 7] []) .ret) .skip)) (.seq (.seq (.reg false [qa 35 3 4,ql 36 35,⟨some 37,.bin .geq 3 false true (.t 36) (.c (.val (.int .i64 1048575))),none⟩,qm 38 37,qaF 39 4 4 38,qlF 40 39 38,⟨some 41,.bin .geq 3 false true (.t 40) (.c
 (.val (.int .i64 1048575))),some (38, false)⟩,qo 42 38 41] []) (.cond (.t 42) (.seq (.reg false [⟨some 43,.ld 13 true (.t 4),none⟩,qw 13 8 43,qi 9 10] []) .ret) .skip)) (.seq (.reg false [⟨some 44,.ld 13 true (.t 4),none⟩,qm 45 1,⟨some 46,.ld 2
 true (.t 6),none⟩,qm 47 3,⟨some 48,.build [.val (.int .i64 0),.val (.string ⟨#[]⟩),.val (.int .i64 0),.val (.int .i64 0),.val (.bool false),.val (.int .i64 0),.val (.int .i64 0),.val (.string ⟨#[]⟩),.val (.bool false)] [(0, 1, (.t 45)),(5, 2, (.t
 46)),(7, 1, (.t 47)),(8, 1, (.c (.val (.bool true))))],none⟩,qk 49 51 44 48,qw 13 8 49,qi 9 0] []) .ret))))))),[.cell 8 13 true,.tmp 9]⟩
def c23 : CF := ⟨.seq (.reg false [⟨some 2,.box (.t 0),none⟩,⟨some 4,.alloc [.val (.string ⟨#[]⟩),.val (.int .i64 0),.val (.int .i64 0),.val (.int .i64 0),.val (.int .i64 0),.im [] true,.im [] true,.im [] true,.im [] true,.im [] true,.im [] true,.im
 [] true,.im [] true],none⟩,qi 5 0] []) (.seq (.seq (.reg false [qa 8 1 2,ql 9 8,⟨some 10,.bin .neq 3 false true (.t 9) (.c (.val (.int .i64 0))),none⟩] []) (.cond (.t 10) (.seq (.reg false [⟨some 11,.ld 13 true (.t 2),none⟩,qw 13 4 11,qi 5 5] [])
 .ret) .skip)) (.seq (.seq (.reg false [qm 12 1,⟨some 13,.bin .lss 3 false true (.t 12) (.c (.val (.int .i64 0))),none⟩,qm 14 13,qmF 15 1 14,⟨some 16,.bin .gtr 3 false true (.t 15) (.c (.val (.int .i64 31))),some (14, false)⟩,qo 17 14 16] []) (.cond
 (.t 17) (.seq (.reg false [⟨some 18,.ld 13 true (.t 2),none⟩,qw 13 4 18,qi 5 6] []) .ret) .skip)) (.seq (.reg false [qa 20 8 2,ql 21 20,qm 22 1,qk 23 52 21 22,qm 19 23,⟨some 24,.ext (.t 19) 0,none⟩,⟨some 25,.ext (.t 19) 1,none⟩,⟨some 6,.alloc [.val
 (.int .i64 0),.val (.string ⟨#[]⟩),.val (.int .i64 0),.val (.int .i64 0),.val (.bool false),.val (.int .i64 0),.val (.int .i64 0),.val (.string ⟨#[]⟩),.val (.bool false)],none⟩,qw 9 6 24,qm 7 25] []) (.seq (.seq (.reg false [qm 26 7,qb 27 26,qm 28
 27,qaF 29 4 6 28,qlF 30 29 28,qo 31 28 30] []) (.cond (.t 31) (.seq (.reg false [⟨some 32,.ld 13 true (.t 2),none⟩,qw 13 4 32,qi 5 11] []) .ret) .skip)) (.seq (.seq (.reg false [qa 33 3 2,ql 34 33,⟨some 35,.bin .geq 3 false true (.t 34) (.c (.val
 (.int .i64 1048575))),none⟩,qm 36 35,qaF 37 4 2 36,qlF 38 37 36,⟨some 39,.bin .geq 3 false true (.t 38) (.c (.val (.int .i64 1048575))),some (36, false)⟩,qo 40 36 39] []) (.cond (.t 40) (.seq (.reg false [⟨some 41,.ld 13 true (.t 2),none⟩,qw 13 4
 41,qi 5 10] []) .ret) .skip)) (.seq (.reg false [⟨some 42,.ld 13 true (.t 2),none⟩,qm 43 1,⟨some 44,.build [.val (.int .i64 0),.val (.string ⟨#[]⟩),.val (.int .i64 0),.val (.int .i64 0),.val (.bool false),.val (.int .i64 0),.val (.int .i64 0),.val
 (.string ⟨#[]⟩),.val (.bool false)] [(0, 1, (.t 43)),(4, 1, (.c (.val (.bool true))))],none⟩,qk 45 51 42 44,qw 13 4 45,qi 5 0] []) .ret)))))),[.cell 4 13 true,.tmp 5]⟩
def c24 : CF := ⟨.seq (.reg false [⟨some 2,.box (.t 0),none⟩,⟨some 3,.box (.t 1),none⟩,qf 4] []) (.seq (.seq (.reg false [qa 5 0 2,ql 6 5,qa 7 0 3,ql 8 7,⟨some 9,.bin .neq 9 false false (.t 6) (.t 8),none⟩,qm 10 9,qaF 11 1 2 10,qlF 12 11 10,qaF 13 1
 3 10,qlF 14 13 10,⟨some 15,.bin .neq 3 false false (.t 12) (.t 14),some (10, false)⟩,qo 16 10 15,qm 17 16,qaF 18 2 2 17,qlF 19 18 17,qaF 20 2 3 17,qlF 21 20 17,⟨some 22,.bin .neq 3 false false (.t 19) (.t 21),some (17, false)⟩,qo 23 17 22,qm 24
 23,qaF 25 3 2 24,qlF 26 25 24,qaF 27 3 3 24,qlF 28 27 24,⟨some 29,.bin .neq 3 false false (.t 26) (.t 28),some (24, false)⟩,qo 30 24 29,qm 31 30,qaF 32 4 2 31,qlF 33 32 31,qaF 34 4 3 31,qlF 35 34 31,⟨some 36,.bin .neq 3 false false (.t 33) (.t
 35),some (31, false)⟩,qo 37 31 36] []) (.cond (.t 37) (.seq (.reg false [qf 4] []) .ret) .skip)) (.seq (.reg false [qa 38 5 2,ql 39 38,qa 40 5 3,ql 41 40,qk 42 53 39 41,qm 43 42,qaT 44 6 2 43,qlT 45 44 43,qaT 46 6 3 43,qlT 47 46 43,qkT 48 54 45 47
 43,qp 49 43 48,qm 50 49,qaT 51 7 2 50,qlT 52 51 50,qaT 53 7 3 50,qlT 54 53 50,qkT 55 54 52 54 50,qp 56 50 55,qm 57 56,qaT 58 8 2 57,qlT 59 58 57,qaT 60 8 3 57,qlT 61 60 57,qkT 62 55 59 61 57,qp 63 57 62,qm 64 63,qaT 65 9 2 64,qlT 66 65 64,qaT 67 9
 3 64,qlT 68 67 64,qkT 69 56 66 68 64,qp 70 64 69,qm 71 70,qaT 72 10 2 71,qlT 73 72 71,qaT 74 10 3 71,qlT 75 74 71,qkT 76 57 73 75 71,qp 77 71 76,qm 78 77,qaT 79 11 2 78,qlT 80 79 78,qaT 81 11 3 78,qlT 82 81 78,qkT 83 54 80 82 78,qp 84 78 83,qm 85
 84,qaT 86 12 2 85,qlT 87 86 85,qaT 88 12 3 85,qlT 89 88 85,qkT 90 58 87 89 85,qp 91 85 90,qm 4 91] []) .ret)),[.tmp 4]⟩
def L25_0 : CC := (.seq (.seq (.reg false [qm 5 4,qa 6 8 1,ql 7 6,qe 8 7,qz 9 5 8] []) (.cond (.t 9) .skip (.exit 0))) (.seq (.block 1 (.reg false [qm 12 3,qa 13 8 1,ql 14 13,qm 15 4,⟨some 16,.ias 8 (.t 14) (.t 15),none⟩,⟨some 17,.ld 8 true (.t
 16),none⟩,⟨some 18,.bsl 8 1 [.val (.int .i64 0),.val (.string ⟨#[]⟩),.val (.int .i64 0),.val (.int .i64 0),.val (.bool false),.val (.complex .f64 0 0),.val (.string ⟨#[]⟩),.val (.bool false)] [(0, 8, (.t 17))],none⟩,⟨some 19,.app 8 (.t 12) (.t
 18),none⟩,qm 3 19] [])) (.reg false [qm 10 4,qs 11 10,qm 4 11] [])))
def c25 : CF := ⟨.seq (.reg false [⟨some 1,.box (.t 0),none⟩,⟨some 2,.alloc [.val (.string ⟨#[]⟩),.val (.int .i64 0),.val (.int .i64 0),.val (.int .i64 0),.val (.int .i64 0),.im [] true,.im [] true,.im [] true,.im [] true,.im [] true,.im [] true,.im
 [] true,.im [] true],none⟩] []) (.seq (.reg false [qj 3] []) (.seq (.seq (.reg false [qi 4 0] []) (.block 0 (.loop L25_0))) (.seq (.reg true [qa 20 0 1,ql 21 20,qa 22 1 1,ql 23 22,qa 24 2 1,ql 25 24,qa 26 3 1,ql 27 26,qa 28 4 1,ql 29 28,qa 30 5
 1,ql 31 30,qc 32 11 31,qa 33 6 1,ql 34 33,qc 35 59 34,qa 36 7 1,ql 37 36,qc 38 59 37,qm 39 3,qc 40 60 39,qa 41 9 1,ql 42 41,qc 43 61 42,qa 44 10 1,ql 45 44,qc 46 62 45,qa 47 11 1,ql 48 47,qc 49 59 48,qa 50 12 1,ql 51 50,qc 52 63 51,⟨some 53,.build
 [.val (.string ⟨#[]⟩),.val (.int .i64 0),.val (.int .i64 0),.val (.int .i64 0),.val (.int .i64 0),.im [] true,.im [] true,.im [] true,.im [] true,.im [] true,.im [] true,.im [] true,.im [] true] [(0, 1, (.t 21)),(1, 1, (.t 23)),(2, 1, (.t 25)),(3,
 1, (.t 27)),(4, 1, (.t 29)),(5, 1, (.t 32)),(6, 1, (.t 35)),(7, 1, (.t 38)),(8, 1, (.t 40)),(9, 1, (.t 43)),(10, 1, (.t 46)),(11, 1, (.t 49)),(12, 1, (.t 52))],none⟩,qw 13 2 53] [(1, 12),(3, 12),(5, 12),(7, 12),(9, 12),(12, 14),(1, 15),(3, 15),(5,
 15),(7, 15),(9, 15),(12, 17),(15, 17),(1, 18),(3, 18),(5, 18),(7, 18),(9, 18),(1, 20),(3, 20),(5, 20),(7, 20),(9, 20),(12, 22),(15, 22),(18, 22),(20, 22),(1, 23),(3, 23),(5, 23),(7, 23),(9, 23),(12, 25),(15, 25),(18, 25),(20, 25),(23, 25),(1,
 26),(3, 26),(5, 26),(7, 26),(9, 26),(12, 28),(15, 28),(18, 28),(20, 28),(23, 28),(26, 28),(1, 29),(3, 29),(5, 29),(7, 29),(9, 29),(12, 31),(15, 31),(18, 31),(20, 31),(23, 31),(26, 31),(29, 31),(1, 32),(3, 32),(5, 32),(7, 32),(9, 32)])
 .ret))),[.cell 2 13 true]⟩
def c26 : CF := ⟨.seq (.reg false [qj 0] []) (.seq (.reg false [⟨some 1,.build [.val (.int .i64 0),.val (.complex .f64 0 0),.val (.float .f64 0)] [(0, 1, (.c (.val (.int .i64 1))))],none⟩,⟨some 2,.bsl 3 1 [.val (.int .i64 0),.val (.complex .f64 0
 0),.val (.float .f64 0)] [(0, 3, (.t 1))],none⟩,qm 0 2] []) .ret),[.tmp 0]⟩
def c27 : CF :=  ⟨.seq (.reg false [⟨some 2,.box (.t 0),none⟩,⟨some 4,.alloc [.val (.int .i64 0),.val (.string ⟨#[]⟩),.val (.int .i64 0),.val (.int .i64 0),.val (.bool false),.val (.complex .f64 0 0),.val (.string ⟨#[]⟩),.val (.bool false)],none⟩,qi
 5 0] []) (.seq (.block 0 (.seq (.reg false [qa 9 1 2,ql 10 9,⟨some 11,.bin .neq 3 false true (.t 10) (.c (.val (.int .i64 0))),none⟩,qm 8 11] []) (.cond (.t 8) (.seq (.reg false [⟨some 12,.build [.val (.int .i64 0),.val (.string ⟨#[]⟩),.val (.int
 .i64 0),.val (.int .i64 0),.val (.bool false),.val (.complex .f64 0 0),.val (.string ⟨#[]⟩),.val (.bool false)] [],none⟩,qw 8 4 12,qi 5 5] []) .ret) (.seq (.reg false [qm 14 1,⟨some 15,.bin .lss 3 false true (.t 14) (.c (.val (.int .i64
 0))),none⟩,qm 16 15,qmF 17 1 16,⟨some 18,.bin .geq 3 false true (.t 17) (.c (.val (.int .i64 32))),some (16, false)⟩,qo 19 16 18,qm 13 19] []) (.cond (.t 13) (.seq (.reg false [⟨some 20,.build [.val (.int .i64 0),.val (.string ⟨#[]⟩),.val (.int
 .i64 0),.val (.int .i64 0),.val (.bool false),.val (.complex .f64 0 0),.val (.string ⟨#[]⟩),.val (.bool false)] [],none⟩,qw 8 4 20,qi 5 6] []) .ret) .skip))))) (.seq (.reg false [qa 22 8 2,ql 23 22,qm 24 1,qk 25 64 23 24,qm 21 25,⟨some 26,.ext (.t
 21) 0,none⟩,⟨some 27,.ext (.t 21) 1,none⟩,⟨some 6,.alloc [.val (.int .i64 0),.val (.string ⟨#[]⟩),.val (.int .i64 0),.val (.int .i64 0),.val (.bool false),.val (.complex .f64 0 0),.val (.string ⟨#[]⟩),.val (.bool false)],none⟩,qw 8 6 26,qm 7 27]
 []) (.seq (.seq (.reg false [qm 28 7,qb 29 28,qm 30 29,qaF 31 4 6 30,qlF 32 31 30,qo 33 30 32] []) (.cond (.t 33) (.seq (.reg false [⟨some 34,.build [.val (.int .i64 0),.val (.string ⟨#[]⟩),.val (.int .i64 0),.val (.int .i64 0),.val (.bool
 false),.val (.complex .f64 0 0),.val (.string ⟨#[]⟩),.val (.bool false)] [],none⟩,qw 8 4 34,qi 5 11] []) .ret) .skip)) (.seq (.reg false [⟨some 35,.ld 8 true (.t 6),none⟩,qw 8 4 35,qi 5 0] []) .ret)))),[.cell 4 8 true,.tmp 5]⟩
def c28 : CF := ⟨.seq (.reg false [⟨some 2,.box (.t 0),none⟩,⟨some 3,.box (.t 1),none⟩,⟨some 4,.alloc [.val (.string ⟨#[]⟩),.val (.int .i64 0),.val (.int .i64 0),.val (.int .i64 0),.val (.int .i64 0),.im [] true,.im [] true,.im [] true,.im []
 true,.im [] true,.im [] true,.im [] true,.im [] true],none⟩,qi 5 0] []) (.seq (.seq (.reg false [qa 6 3 2,ql 7 6,⟨some 8,.bin .geq 3 false true (.t 7) (.c (.val (.int .i64 1048575))),none⟩,qm 9 8,qaF 10 4 2 9,qlF 11 10 9,⟨some 12,.bin .geq 3 false
 true (.t 11) (.c (.val (.int .i64 1048575))),some (9, false)⟩,qo 13 9 12] []) (.cond (.t 13) (.seq (.reg false [⟨some 14,.ld 13 true (.t 2),none⟩,qw 13 4 14,qi 5 10] []) .ret) .skip)) (.seq (.reg false [⟨some 15,.ld 13 true (.t 2),none⟩,qc 16 35
 15,qw 13 2 16] []) (.seq (.reg false [qa 17 3 2,ql 18 17,qs 19 18,qa 20 3 2,qw 1 20 19] []) (.seq (.reg false [qa 21 4 2,ql 22 21,qs 23 22,qa 24 4 2,qw 1 24 23] []) (.seq (.reg false [qa 25 0 2,ql 26 25,qa 27 3 2,ql 28 27,qa 29 4 2,ql 30 29,⟨some
 31,.build [.val (.string ⟨#[]⟩),.val (.int .i64 0),.val (.int .i64 0)] [(0, 1, (.t 26)),(1, 1, (.t 28)),(2, 1, (.t 30))],none⟩,qa 32 1 3,qw 3 32 31] []) (.seq (.reg false [qa 33 5 2,ql 34 33,qa 35 0 2,ql 36 35,qa 37 3 2,ql 38 37,⟨some 39,.call (.c
 (.fn 65 [])) [.t 34,.t 36,.t 38],none⟩,qa 40 5 2,qw 1 40 39] []) (.seq (.reg false [qa 42 8 2,ql 43 42,⟨some 44,.ld 8 true (.t 3),none⟩,qk 45 66 43 44,qm 41 45,⟨some 46,.ext (.t 41) 0,none⟩,⟨some 47,.ext (.t 41) 1,none⟩,qa 48 8 2,qw 1 48 46] [])
 (.seq (.reg false [⟨some 49,.ld 13 true (.t 2),none⟩,qc 50 39 49,qw 13 4 50,qi 5 0] []) .ret)))))))),[.cell 4 13 true,.tmp 5]⟩
def c29 : CF := ⟨.seq (.reg false [qf 2] []) (.seq (.reg false [qm 3 0,⟨some 4,.fun_ .real #[50] 97 [.t 3],none⟩,⟨some 5,.call (.c (.fn 67 [])) [.t 4,.c (.val (.float .f64 13875379345695965184)),.c (.val (.float .f64 4652007308841189376))],none⟩,qm
 6 5,qmT 7 0 6,⟨some 8,.fun_ .imag #[50] 97 [.t 7],some (6, true)⟩,⟨some 9,.call (.c (.fn 67 [])) [.t 8,.c (.val (.float .f64 13875379345695965184)),.c (.val (.float .f64 4652007308841189376))],some (6, true)⟩,qp 10 6 9,qm 2 10] []) .ret),[.tmp 2]⟩
def L30_0 : CC := (.seq (.reg false [qz 20 19 18] []) (.seq (.cond (.t 20) .skip (.exit 0)) (.seq (.block 1 (.seq (.reg false [⟨some 21,.ias 3 (.t 17) (.t 19),none⟩,⟨some 22,.ld 3 true (.t 21),none⟩,⟨some 7,.alloc [.val (.int .i64 0),.val (.complex
 .f64 0 0),.val (.float .f64 0)],none⟩,qw 3 7 22] []) (.seq (.reg false [qm 23 5,qe 24 23,⟨some 25,.ld 3 true (.t 7),none⟩,qc 26 68 25,⟨some 27,.bin .sub 3 false false (.t 24) (.t 26),none⟩,qm 8 27] []) (.reg true [qm 28 5,qm 29 8,⟨some 30,.slc 1
 (.t 28) none (some (.t 29)) none,none⟩,⟨some 31,.ld 3 true (.t 7),none⟩,qm 32 1,qm 33 5,qm 34 8,⟨some 35,.slc 1 (.t 33) (some (.t 34)) none none,none⟩,⟨some 36,.call (.c (.fn 69 [])) [.t 31,.t 32,.t 35],none⟩,⟨some 37,.bsl 1 1 [.val (.bool false)]
 [(0, 1, (.t 36))],none⟩,⟨some 38,.app 1 (.t 30) (.t 37),none⟩,qm 5 38] [(2, 8),(2, 9)])))) (.reg false [qs 39 19,qm 19 39] []))))
def c30 : CF := ⟨.seq (.reg false [qf 4] []) (.seq (.seq (.reg false [qm 9 0,qc 10 46 9,qb 11 10,qm 12 11,qmF 13 1 12,⟨some 14,.call (.c (.fn 29 [])) [.t 13],some (12, false)⟩,qbF 15 14 12,qo 16 12 15] []) (.cond (.t 16) (.seq (.reg false [qf 4] [])
 .ret) .skip)) (.seq (.reg false [qj 5] []) (.seq (.seq (.reg false [qm 17 0,qe 18 17,qi 19 0] []) (.block 0 (.loop L30_0))) (.seq (.reg false [qm 40 5,⟨some 41,.ias 1 (.t 40) (.c (.val (.int .i64 0))),none⟩,ql 42 41,qm 4 42] []) .ret)))),[.tmp 4]⟩
def c31 : CF := ⟨.seq (.reg false [⟨some 1,.box (.t 0),none⟩,⟨some 2,.alloc [.val (.int .i64 0),.im [] true],none⟩] []) (.seq (.reg true [qa 3 0 1,ql 4 3,⟨some 5,.bsl 1 0 [] [],none⟩,qa 6 1 1,ql 7 6,⟨some 8,.app 1 (.t 5) (.t 7),none⟩,⟨some 9,.build
 [.val (.int .i64 0),.im [] true] [(0, 1, (.t 4)),(1, 1, (.t 8))],none⟩,qw 2 2 9] [(1, 2),(2, 4),(1, 5)]) .ret),[.cell 2 2 true]⟩
def L32_0 : CC := (.seq (.reg false [qz 14 13 12] []) (.seq (.cond (.t 14) .skip (.exit 0)) (.seq (.block 1 (.seq (.reg false [⟨some 15,.ias 3 (.t 11) (.t 13),none⟩,⟨some 16,.ld 3 true (.t 15),none⟩,⟨some 7,.alloc [.val (.string ⟨#[]⟩),.val (.int
 .i64 0),.im [] true],none⟩,qw 3 7 16] []) (.reg false [qm 17 5,qa 18 0 7,ql 19 18,qa 20 1 7,⟨some 21,.ld 2 true (.t 20),none⟩,⟨some 22,.call (.c (.fn 71 [])) [.t 17,.t 19,.t 21],none⟩,qm 5 22] []))) (.reg false [qs 23 13,qm 13 23] []))))
def c32 : CF := ⟨.seq (.reg false [qj 4] []) (.seq (.reg false [qm 8 0,qc 9 70 8,qm 5 9] []) (.seq (.seq (.reg false [qm 10 1,qc 11 70 10,qe 12 11,qi 13 0] []) (.block 0 (.loop L32_0))) (.seq (.reg false [qm 24 5,qm 4 24] []) .ret))),[.tmp 4]⟩
def L33_0 : CC := (.seq (.reg false [qz 9 8 7] []) (.seq (.cond (.t 9) .skip (.exit 0)) (.seq (.block 1 (.seq (.reg false [⟨some 10,.ias 2 (.t 6) (.t 8),none⟩,⟨some 11,.ld 2 true (.t 10),none⟩,⟨some 5,.alloc [.val (.string ⟨#[]⟩),.val (.int .i64
 0)],none⟩,qw 2 5 11] []) (.reg true [qm 12 3,qa 13 0 5,ql 14 13,qa 15 1 5,ql 16 15,qc 17 72 16,⟨some 18,.build [.val (.string ⟨#[]⟩),.val (.int .i64 0),.im [] true] [(0, 1, (.t 14)),(1, 2, (.t 17))],none⟩,⟨some 19,.bsl 3 1 [.val (.string
 ⟨#[]⟩),.val (.int .i64 0),.im [] true] [(0, 3, (.t 18))],none⟩,⟨some 20,.app 3 (.t 12) (.t 19),none⟩,qm 3 20] [(2, 5)]))) (.reg false [qs 21 8,qm 8 21] []))))
def c33 : CF := ⟨.seq (.reg false [qj 2] []) (.seq (.reg false [qj 3] []) (.seq (.seq (.reg false [qm 6 0,qe 7 6,qi 8 0] []) (.block 0 (.loop L33_0))) (.seq (.reg false [qm 22 3,qm 2 22] []) .ret))),[.tmp 2]⟩
def c34 : CF := ⟨.seq (.reg false [⟨some 4,.mv (.c (.val (.string ⟨#[]⟩))),none⟩,qi 5 0] []) (.seq (.block 0 (.seq (.reg false [qm 7 0,qc 8 73 7,qb 9 8,qm 6 9] []) (.cond (.t 6) (.seq (.reg false [⟨some 4,.mv (.c (.val (.string ⟨#[]⟩))),none⟩,qi 5
 4] []) .ret) (.seq (.reg false [qm 11 1,⟨some 12,.bin .lss 3 false true (.t 11) (.c (.val (.int .i64 1))),none⟩,qm 13 12,qmF 14 1 13,⟨some 15,.bin .gtr 3 false true (.t 14) (.c (.val (.int .i64 9))),some (13, false)⟩,qo 16 13 15,qm 10 16] [])
 (.cond (.t 10) (.seq (.reg false [⟨some 4,.mv (.c (.val (.string ⟨#[]⟩))),none⟩,qi 5 1] []) .ret) (.seq (.reg false [qm 18 0,⟨some 19,.len true (.t 18),none⟩,qq 20 19 6,qm 17 20] []) (.cond (.t 17) (.seq (.reg false [⟨some 4,.mv (.c (.val (.string
 ⟨#[]⟩))),none⟩,qi 5 18] []) .ret) .skip))))))) (.seq (.reg false [qm 21 0,qm 22 1,⟨some 23,.bin .add 3 true false (.c (.val (.int .i64 48))) (.t 22),none⟩,⟨some 24,.cv 3 5 (.t 23),none⟩,⟨some 25,.bsl 1 1 [.val (.int .u8 0)] [(0, 1, (.t
 24))],none⟩,⟨some 26,.b2s (.t 25),none⟩,⟨some 27,.bin .add 23 false false (.t 21) (.t 26),none⟩,qm 4 27,qi 5 0] []) .ret)),[.tmp 4,.tmp 5]⟩
def c35 : CF := ⟨.seq (.reg false [⟨some 1,.box (.t 0),none⟩,⟨some 2,.alloc [.val (.string ⟨#[]⟩),.val (.int .i64 0),.val (.int .i64 0),.val (.int .i64 0),.val (.int .i64 0),.im [] true,.im [] true,.im [] true,.im [] true,.im [] true,.im [] true,.im
 [] true,.im [] true],none⟩] []) (.seq (.reg true [qa 3 5 1,ql 4 3,⟨some 5,.call (.c (.fn 32 [])) [.t 4,.c (.im [] true)],none⟩,qa 6 12 1,ql 7 6,⟨some 8,.call (.c (.fn 74 [])) [.t 7,.c (.im [] true)],none⟩,qa 9 5 1,qw 1 9 5,qa 10 12 1,qw 1 10 8]
 [(2, 4)]) (.seq (.reg true [qa 11 6 1,ql 12 11,qc 13 75 12,qa 14 7 1,ql 15 14,qc 16 75 15,qa 17 11 1,ql 18 17,qc 19 75 18,qa 20 6 1,qw 1 20 13,qa 21 7 1,qw 1 21 16,qa 22 11 1,qw 1 22 19] [(2, 4),(2, 7),(5, 7)]) (.seq (.reg true [qa 23 8 1,ql 24
 23,qc 25 76 24,qa 26 9 1,ql 27 26,qc 28 47 27,qa 29 10 1,ql 30 29,qc 31 77 30,qa 32 8 1,qw 1 32 25,qa 33 9 1,qw 1 33 28,qa 34 10 1,qw 1 34 31] [(2, 4),(2, 7),(5, 7)]) (.seq (.reg false [⟨some 35,.ld 13 true (.t 1),none⟩,qw 13 2 35] [])
 .ret)))),[.cell 2 13 true]⟩
def c36 : CF := ⟨.seq (.reg false [qj 4] []) (.seq (.reg false [qm 5 0,qm 6 1,⟨some 7,.bsl 1 1 [.val (.string ⟨#[]⟩)] [(0, 1, (.t 6))],none⟩,qk 8 78 5 7,qm 4 8] []) .ret),[.tmp 4]⟩
def c37 : CF := ⟨.seq (.reg false [qj 6] []) (.seq (.reg false [qm 10 0,qc 11 79 10,qm 7 11] []) (.seq (.reg false [qm 13 7,qm 14 1,qk 15 80 13 14,qm 12 15,⟨some 16,.ext (.t 12) 0,none⟩,⟨some 17,.ext (.t 12) 1,none⟩,qm 8 16,qm 9 17] []) (.seq
 (.block 0 (.seq (.reg false [qm 19 9,qm 18 19] []) (.cond (.t 18) (.reg false [qm 20 7,qm 21 8,qm 22 7,qm 23 8,⟨some 24,.ias 2 (.t 22) (.t 23),none⟩,qa 25 1 24,ql 26 25,qm 27 2,qk 28 81 26 27,⟨some 29,.ias 2 (.t 20) (.t 21),none⟩,qa 30 1 29,qw 1 30
 28] []) (.seq (.reg false [qm 32 1,qc 33 73 32,qm 34 33,qmT 35 2 34,⟨some 36,.len false (.t 35),some (34, true)⟩,⟨some 37,.bin .gtr 3 false true (.t 36) (.c (.val (.int .i64 0))),some (34, true)⟩,qp 38 34 37,qm 31 38] []) (.cond (.t 31) (.reg false
 [qm 39 7,qm 40 8,qm 41 1,qm 42 2,qc 43 75 42,⟨some 44,.build [.val (.string ⟨#[]⟩),.im [] true] [(0, 1, (.t 41)),(1, 1, (.t 43))],none⟩,⟨some 45,.bsl 2 1 [.val (.string ⟨#[]⟩),.im [] true] [(0, 2, (.t 44))],none⟩,⟨some 46,.call (.c (.fn 82 [])) [.t
 39,.t 40,.t 45],none⟩,qm 7 46] []) .skip))))) (.seq (.reg false [qm 47 7,qm 6 47] []) .ret)))),[.tmp 6]⟩
def L38_0 : CC := (.seq (.reg false [qz 9 8 7] []) (.seq (.cond (.t 9) .skip (.exit 0)) (.seq (.block 1 (.seq (.reg false [⟨some 10,.ias 3 (.t 6) (.t 8),none⟩,⟨some 11,.ld 3 true (.t 10),none⟩,⟨some 5,.alloc [.val (.string ⟨#[]⟩),.val (.int .i64
 0),.im [] true],none⟩,qw 3 5 11] []) (.reg false [qm 12 3,qa 13 0 5,ql 14 13,qa 15 1 5,qa 16 0 15,ql 17 16,⟨some 18,.call (.c (.fn 83 [])) [.t 12,.t 14,.t 17],none⟩,qm 3 18] []))) (.reg false [qs 19 8,qm 8 19] []))))
def c38 : CF := ⟨.seq (.reg false [qj 2] []) (.seq (.reg false [qj 3] []) (.seq (.seq (.reg false [qm 6 0,qe 7 6,qi 8 0] []) (.block 0 (.loop L38_0))) (.seq (.reg false [qm 20 3,qm 2 20] []) .ret))),[.tmp 2]⟩
def c39 : CF := ⟨.seq (.reg false [⟨some 1,.box (.t 0),none⟩,⟨some 2,.alloc [.val (.string ⟨#[]⟩),.val (.int .i64 0),.val (.int .i64 0),.val (.int .i64 0),.val (.int .i64 0),.im [] true,.im [] true,.im [] true,.im [] true,.im [] true,.im [] true,.im
 [] true,.im [] true],none⟩] []) (.seq (.reg false [⟨some 3,.ld 13 true (.t 1),none⟩,qc 4 35 3,qw 13 1 4] []) (.seq (.reg true [qa 5 12 1,ql 6 5,qa 7 0 1,ql 8 7,⟨some 9,.ld 13 true (.t 1),none⟩,qc 10 12 9,qc 11 38 10,⟨some 12,.call (.c (.fn 37 []))
 [.t 6,.t 8,.t 11],none⟩,qa 13 12 1,qw 1 13 12] [(1, 5),(3, 5),(1, 6),(3, 6)]) (.seq (.reg false [⟨some 14,.ld 13 true (.t 1),none⟩,qw 13 2 14] []) .ret))),[.cell 2 13 true]⟩
def c40 : CF := ⟨.seq (.reg false [⟨some 4,.mv (.c (.val (.string ⟨#[]⟩))),none⟩,qi 5 0] []) (.seq (.seq (.reg false [qm 6 0,qc 7 84 6,qb 8 7] []) (.cond (.t 8) (.seq (.reg false [⟨some 4,.mv (.c (.val (.string ⟨#[]⟩))),none⟩,qi 5 4] []) .ret)
 .skip)) (.seq (.seq (.reg false [qm 9 1,⟨some 10,.bin .lss 3 false true (.t 9) (.c (.val (.int .i64 1))),none⟩,qm 11 10,qmF 12 1 11,⟨some 13,.bin .gtr 3 false true (.t 12) (.c (.val (.int .i64 9))),some (11, false)⟩,qo 14 11 13] []) (.cond (.t 14)
 (.seq (.reg false [⟨some 4,.mv (.c (.val (.string ⟨#[]⟩))),none⟩,qi 5 1] []) .ret) .skip)) (.seq (.seq (.reg false [qm 15 0,⟨some 16,.len true (.t 15),none⟩,qq 17 16 6] []) (.cond (.t 17) (.seq (.reg false [⟨some 4,.mv (.c (.val (.string
 ⟨#[]⟩))),none⟩,qi 5 18] []) .ret) .skip)) (.seq (.reg false [qm 18 0,qm 19 1,qm 20 1,qs 21 20,⟨some 22,.slc 0 (.c (.val (.string ⟨#[48,49,50,51,52,53,54,55,56,57]⟩))) (some (.t 19)) (some (.t 21)) none,none⟩,⟨some 23,.bin .add 9 false false (.t 18)
 (.t 22),none⟩,qm 4 23,qi 5 0] []) .ret)))),[.tmp 4,.tmp 5]⟩
def L41_0 : CC := (.seq (.seq (.reg true [qm 36 8,⟨some 37,.bin .gtr 3 false true (.t 36) (.c (.val (.int .i64 0))),none⟩,qm 38 37,qmT 39 5 38,qmT 40 8 38,⟨some 41,.bin .sub 3 false true (.t 40) (.c (.val (.int .i64 1))),some (38, true)⟩,qxT 42 39
 41 38,qlT 43 42 38,qmT 44 5 38,qmT 45 8 38,qxT 46 44 45 38,qlT 47 46 38,qkT 48 86 43 47 38,⟨some 49,.bin .gtr 3 false true (.t 48) (.c (.val (.int .i64 0))),some (38, true)⟩,qp 50 38 49] []) (.cond (.t 50) .skip (.exit 2))) (.seq (.block 3 (.reg
 true [qm 53 5,qm 54 8,⟨some 55,.bin .sub 3 false true (.t 54) (.c (.val (.int .i64 1))),none⟩,qm 56 5,qm 57 8,qm 58 5,qm 59 8,qx 60 58 59,ql 61 60,qm 62 5,qm 63 8,⟨some 64,.bin .sub 3 false true (.t 63) (.c (.val (.int .i64 1))),none⟩,qx 65 62
 64,ql 66 65,qx 67 53 55,qw 1 67 61,qx 68 56 57,qw 1 68 66] [])) (.reg false [qm 51 8,⟨some 52,.bin .sub 3 false true (.t 51) (.c (.val (.int .i64 1))),none⟩,qm 8 52] [])))
def L41_1 : CC := (.seq (.seq (.reg false [qm 14 7,qm 15 6,qe 16 15,qz 17 14 16] []) (.cond (.t 17) .skip (.exit 0))) (.seq (.block 1 (.seq (.seq (.reg false [qm 20 5,qm 21 6,qm 22 7,qx 23 21 22,ql 24 23,qk 25 85 20 24] []) (.cond (.t 25) (.exit 1)
 .skip)) (.seq (.reg false [qm 26 5,qm 27 6,qm 28 7,qx 29 27 28,ql 30 29,⟨some 31,.bsl 1 1 [.val (.string ⟨#[]⟩)] [(0, 1, (.t 30))],none⟩,⟨some 32,.app 1 (.t 26) (.t 31),none⟩,qm 5 32] []) (.seq (.reg false [qm 33 5,qe 34 33,⟨some 35,.bin .sub 3
 false true (.t 34) (.c (.val (.int .i64 1))),none⟩,qm 8 35] []) (.block 2 (.loop L41_0)))))) (.reg false [qm 18 7,qs 19 18,qm 7 19] [])))
def c41 : CF := ⟨.seq (.reg false [qj 4] []) (.seq (.reg false [qj 5] []) (.seq (.reg false [⟨some 9,.bsl 1 0 [] [],none⟩,qm 10 0,⟨some 11,.app 1 (.t 9) (.t 10),none⟩,qm 12 1,⟨some 13,.app 1 (.t 11) (.t 12),none⟩,qm 6 13] []) (.seq (.seq (.reg false
 [qi 7 0] []) (.block 0 (.loop L41_1))) (.seq (.reg false [qm 69 5,qm 4 69] []) .ret)))),[.tmp 4]⟩
def L42_0 : CC := (.seq (.seq (.reg true [qm 37 9,⟨some 38,.bin .gtr 3 false true (.t 37) (.c (.val (.int .i64 0))),none⟩,qm 39 38,qmT 40 8 39,qmT 41 9 39,⟨some 42,.bin .sub 3 false true (.t 41) (.c (.val (.int .i64 1))),some (39, true)⟩,⟨some
 43,.ias 2 (.t 40) (.t 42),some (39, true)⟩,qaT 44 0 43 39,qlT 45 44 39,qmT 46 8 39,qmT 47 9 39,⟨some 48,.ias 2 (.t 46) (.t 47),some (39, true)⟩,qaT 49 0 48 39,qlT 50 49 39,qkT 51 86 45 50 39,⟨some 52,.bin .gtr 3 false true (.t 51) (.c (.val (.int
 .i64 0))),some (39, true)⟩,qp 53 39 52] []) (.cond (.t 53) .skip (.exit 0))) (.seq (.block 1 (.reg true [qm 56 8,qm 57 9,⟨some 58,.bin .sub 3 false true (.t 57) (.c (.val (.int .i64 1))),none⟩,qm 59 8,qm 60 9,qm 61 8,qm 62 9,⟨some 63,.ias 2 (.t 61)
 (.t 62),none⟩,⟨some 64,.ld 2 true (.t 63),none⟩,qm 65 8,qm 66 9,⟨some 67,.bin .sub 3 false true (.t 66) (.c (.val (.int .i64 1))),none⟩,⟨some 68,.ias 2 (.t 65) (.t 67),none⟩,⟨some 69,.ld 2 true (.t 68),none⟩,⟨some 70,.ias 2 (.t 56) (.t 58),none⟩,qw
 2 70 64,⟨some 71,.ias 2 (.t 59) (.t 60),none⟩,qw 2 71 69] [])) (.reg false [qm 54 9,⟨some 55,.bin .sub 3 false true (.t 54) (.c (.val (.int .i64 1))),none⟩,qm 9 55] [])))
def c42 : CF := ⟨.seq (.reg false [qj 6] []) (.seq (.reg false [qm 10 0,qm 11 1,qk 12 88 10 11,qm 13 2,qk 14 87 12 13,qm 7 14] []) (.seq (.seq (.reg false [qm 15 1,qc 16 84 15,qb 17 16,qm 18 17,qmF 19 7 18,⟨some 20,.len false (.t 19),some (18,
 false)⟩,⟨some 21,.bin .lss 3 false true (.t 20) (.c (.val (.int .i64 1))),some (18, false)⟩,qo 22 18 21] []) (.cond (.t 22) (.seq (.reg false [⟨some 23,.bsl 2 0 [] [],none⟩,qm 24 0,⟨some 25,.app 2 (.t 23) (.t 24),none⟩,qm 6 25] []) .ret) .skip))
 (.seq (.reg false [qm 26 0,qm 27 1,qk 28 89 26 27,qm 29 1,qm 30 7,⟨some 31,.build [.val (.string ⟨#[]⟩),.im [] true] [(0, 1, (.t 29)),(1, 1, (.t 30))],none⟩,⟨some 32,.bsl 2 1 [.val (.string ⟨#[]⟩),.im [] true] [(0, 2, (.t 31))],none⟩,⟨some 33,.app
 2 (.t 28) (.t 32),none⟩,qm 8 33] []) (.seq (.seq (.reg false [qm 34 8,qe 35 34,⟨some 36,.bin .sub 3 false true (.t 35) (.c (.val (.int .i64 1))),none⟩,qm 9 36] []) (.block 0 (.loop L42_0))) (.seq (.reg false [qm 72 8,qm 6 72] []) .ret))))),[.tmp 6]⟩
def L43_0 : CC := (.seq (.seq (.reg false [qm 5 4,qm 6 0,qe 7 6,qz 8 5 7] []) (.cond (.t 8) .skip (.exit 0))) (.seq (.block 1 (.seq (.reg false [qm 11 0,qm 12 4,⟨some 13,.ias 3 (.t 11) (.t 12),none⟩,qa 14 1 13,qa 15 0 14,ql 16 15,⟨some 17,.bin .gtr
 3 false true (.t 16) (.c (.val (.int .i64 0))),none⟩] []) (.cond (.t 17) (.reg true [qm 18 3,qm 19 0,qm 20 4,⟨some 21,.ias 3 (.t 19) (.t 20),none⟩,qa 22 0 21,ql 23 22,qm 24 0,qm 25 4,⟨some 26,.ias 3 (.t 24) (.t 25),none⟩,qa 27 1 26,qa 28 0 27,ql 29
 28,⟨some 30,.build [.val (.string ⟨#[]⟩),.val (.int .i64 0)] [(0, 1, (.t 23)),(1, 1, (.t 29))],none⟩,⟨some 31,.bsl 2 1 [.val (.string ⟨#[]⟩),.val (.int .i64 0)] [(0, 2, (.t 30))],none⟩,⟨some 32,.app 2 (.t 18) (.t 31),none⟩,qm 3 32] []) .skip)))
 (.reg false [qm 9 4,qs 10 9,qm 4 10] [])))
def c43 : CF := ⟨.seq (.reg false [qj 2] []) (.seq (.reg false [qj 3] []) (.seq (.seq (.reg false [qi 4 0] []) (.block 0 (.loop L43_0))) (.seq (.reg false [qm 33 3,qm 2 33] []) .ret))),[.tmp 2]⟩
def c44 : CF := ⟨.seq (.reg false [⟨some 1,.box (.t 0),none⟩,qj 2] []) (.seq (.reg true [qa 3 5 1,ql 4 3,qa 5 6 1,ql 6 5,qc 7 91 6,qk 8 90 4 7,qm 2 8] [(1, 4)]) .ret),[.tmp 2]⟩
def c45 : CF := ⟨.seq (.reg false [⟨some 1,.box (.t 0),none⟩,⟨some 2,.alloc [.val (.string ⟨#[]⟩),.val (.int .i64 0),.val (.int .i64 0),.val (.int .i64 0),.val (.int .i64 0),.im [] true,.im [] true,.im [] true,.im [] true,.im [] true,.im [] true,.im
 [] true,.im [] true],none⟩] []) (.seq (.reg true [qa 3 12 1,ql 4 3,qa 5 0 1,ql 6 5,⟨some 7,.ld 13 true (.t 1),none⟩,qc 8 44 7,qc 9 43 8,⟨some 10,.call (.c (.fn 42 [])) [.t 4,.t 6,.t 9],none⟩,qa 11 12 1,qw 1 11 10] [(1, 5),(3, 5),(1, 6),(3, 6)])
 (.seq (.reg false [⟨some 12,.ld 13 true (.t 1),none⟩,qw 13 2 12] []) .ret)),[.cell 2 13 true]⟩
def L46_0 : CC := (.seq (.reg false [qz 12 11 10] []) (.seq (.cond (.t 12) .skip (.exit 0)) (.seq (.block 1 (.seq (.reg false [⟨some 13,.ias 3 (.t 9) (.t 11),none⟩,⟨some 14,.ld 3 true (.t 13),none⟩,⟨some 5,.alloc [.val (.int .i64 0),.val (.complex
 .f64 0 0),.val (.float .f64 0)],none⟩,qw 3 5 14] []) (.seq (.seq (.reg false [⟨some 15,.ld 3 true (.t 5),none⟩,qc 16 92 15,qb 17 16,qm 18 17,qmF 19 3 18,⟨some 20,.ld 3 true (.t 5),some (18, false)⟩,⟨some 21,.call (.c (.fn 68 [])) [.t 20],some (18,
 false)⟩,⟨some 22,.bin .lss 3 false false (.t 19) (.t 21),some (18, false)⟩,qo 23 18 22] []) (.cond (.t 23) (.seq (.reg false [qf 2] []) .ret) .skip)) (.reg false [qm 24 3,⟨some 25,.ld 3 true (.t 5),none⟩,qc 26 68 25,⟨some 27,.bin .sub 3 true false
 (.c (.val (.int .i64 1))) (.t 26),none⟩,⟨some 28,.bin .add 3 false false (.t 24) (.t 27),none⟩,qm 3 28] [])))) (.reg false [qs 29 11,qm 11 29] []))))
def c46 : CF := ⟨.seq (.reg false [qf 2] []) (.seq (.seq (.reg false [qm 6 0,qe 7 6,⟨some 8,.bin .gtr 3 false true (.t 7) (.c (.val (.int .i64 32))),none⟩] []) (.cond (.t 8) (.seq (.reg false [qf 2] []) .ret) .skip)) (.seq (.reg false [qi 3 0] [])
 (.seq (.seq (.reg false [qm 9 0,qe 10 9,qi 11 0] []) (.block 0 (.loop L46_0))) (.seq (.reg false [qm 30 3,qq 31 30 1,qm 2 31] []) .ret)))),[.tmp 2]⟩
def L48_0 : CC := (.seq (.seq (.reg false [qm 14 4,qm 15 0,qe 16 15,qz 17 14 16] []) (.cond (.t 17) .skip (.exit 0))) (.seq (.block 1 (.seq (.reg false [qm 20 0,qm 21 4,⟨some 22,.ias 4 (.t 20) (.t 21),none⟩,⟨some 23,.ld 4 true (.t 22),none⟩,⟨some
 5,.alloc [.val (.int .i64 0),.val (.int .i64 0),.val (.int .i64 0),.val (.int .i64 0)],none⟩,qw 4 5 23] []) (.seq (.reg false [qa 24 0 5,ql 25 24] []) (.block 2 (.seq (.reg false [qq 27 25 2,qm 26 27] []) (.cond (.t 26) (.seq (.seq (.reg false [qa
 28 1 5,ql 29 28,qa 30 2 5,ql 31 30,⟨some 32,.build [.val (.int .i64 0),.val (.int .i64 0)] [(0, 1, (.t 29)),(1, 1, (.t 31))],none⟩,qc 33 49 32,qb 34 33,qm 35 34,qaF 36 3 5 35,qlF 37 36 35,⟨some 38,.bin .lss 3 false true (.t 37) (.c (.val (.int .i64
 0))),some (35, false)⟩,qo 39 35 38,qm 40 39,qaF 41 3 5 40,qlF 42 41 40,⟨some 43,.bin .gtr 3 false true (.t 42) (.c (.val (.int .i64 2000))),some (40, false)⟩,qo 44 40 43] []) (.cond (.t 44) (.seq (.reg false [qf 2] []) .ret) .skip)) (.reg false [qm
 45 3,qs 46 45,qm 3 46] [])) (.seq (.reg false [qq 48 25 3,qm 47 48] []) (.cond (.t 47) (.seq (.seq (.reg false [qa 49 1 5,ql 50 49,qa 51 2 5,ql 52 51,⟨some 53,.build [.val (.int .i64 0),.val (.int .i64 0)] [(0, 1, (.t 50)),(1, 1, (.t 52))],none⟩,qc
 54 49 53,qb 55 54,qm 56 55,qaF 57 3 5 56,qlF 58 57 56,⟨some 59,.call (.c (.fn 93 [])) [.t 58,.c (.val (.int .i64 2000000))],some (56, false)⟩,qbF 60 59 56,qo 61 56 60] []) (.cond (.t 61) (.seq (.reg false [qf 2] []) .ret) .skip)) (.reg false [qm 62
 3,qs 63 62,qm 3 63] [])) (.seq (.seq (.reg false [qq 65 25 1,qm 64 65] []) (.cond (.t 64) .skip (.seq (.reg false [qq 66 25 4,qm 64 66] []) (.cond (.t 64) .skip (.seq (.reg false [qq 67 25 5,qm 64 67] []) (.cond (.t 64) .skip (.reg false [qq 68 25
 6,qm 64 68] []))))))) (.cond (.t 64) (.seq (.seq (.reg false [qa 69 1 5,ql 70 69,⟨some 71,.bin .neq 3 false true (.t 70) (.c (.val (.int .i64 0))),none⟩,qm 72 71,qaF 73 2 5 72,qlF 74 73 72,⟨some 75,.bin .neq 3 false true (.t 74) (.c (.val (.int
 .i64 0))),some (72, false)⟩,qo 76 72 75,qm 77 76,qaF 78 3 5 77,qlF 79 78 77,⟨some 80,.bin .neq 3 false true (.t 79) (.c (.val (.int .i64 0))),some (77, false)⟩,qo 81 77 80] []) (.cond (.t 81) (.seq (.reg false [qf 2] []) .ret) .skip)) (.seq (.seq
 (.reg false [qa 82 0 5,ql 83 82,qq 84 83 1] []) (.cond (.t 84) (.reg false [qm 85 3,qs 86 85,qm 3 86] []) .skip)) (.seq (.seq (.reg false [qa 87 0 5,ql 88 87,qq 89 88 4,qm 90 89,qmT 91 3 90,⟨some 92,.bin .lss 3 false true (.t 91) (.c (.val (.int
 .i64 1))),some (90, true)⟩,qp 93 90 92,qm 94 93,qaF 95 0 5 94,qlF 96 95 94,⟨some 97,.bin .gtr 3 false true (.t 96) (.c (.val (.int .i64 4))),some (94, false)⟩,qmF 98 97 94,qmT 99 3 98,⟨some 100,.bin .lss 3 false true (.t 99) (.c (.val (.int .i64
 2))),some (98, true)⟩,⟨some 101,.pick (.t 98) (.t 100) (.c (.val (.bool false))),some (94, false)⟩,qo 102 94 101] []) (.cond (.t 102) (.seq (.reg false [qf 2] []) .ret) .skip)) (.seq (.reg false [qa 103 0 5,ql 104 103,⟨some 105,.bin .gtr 3 false
 true (.t 104) (.c (.val (.int .i64 4))),none⟩] []) (.cond (.t 105) (.reg false [qm 106 3,⟨some 107,.bin .sub 3 false true (.t 106) (.c (.val (.int .i64 1))),none⟩,qm 3 107] []) .skip))))) (.seq (.reg false [qf 2] []) .ret))))))))))) (.reg false [qm
 18 4,qs 19 18,qm 4 19] [])))
def c48 : CF := ⟨.seq (.reg false [qf 2] []) (.seq (.seq (.reg false [qm 6 0,qe 7 6,⟨some 8,.bin .lss 3 false true (.t 7) (.c (.val (.int .i64 1))),none⟩,qm 9 8,qmF 10 0 9,⟨some 11,.len false (.t 10),some (9, false)⟩,⟨some 12,.bin .gtr 3 false true
 (.t 11) (.c (.val (.int .i64 32))),some (9, false)⟩,qo 13 9 12] []) (.cond (.t 13) (.seq (.reg false [qf 2] []) .ret) .skip)) (.seq (.reg false [qi 3 0] []) (.seq (.seq (.reg false [qi 4 0] []) (.block 0 (.loop L48_0))) (.seq (.reg false [qm 108
 3,qq 109 108 1,qm 2 109] []) .ret)))),[.tmp 2]⟩
def c49 : CF := ⟨.seq (.reg false [⟨some 1,.box (.t 0),none⟩,qf 2] []) (.seq (.reg false [qa 3 0 1,ql 4 3,⟨some 5,.call (.c (.fn 93 [])) [.t 4,.c (.val (.int .i64 1000))],none⟩,qm 6 5,qaT 7 1 1 6,qlT 8 7 6,⟨some 9,.call (.c (.fn 93 [])) [.t 8,.c
 (.val (.int .i64 1000))],some (6, true)⟩,qp 10 6 9,qm 2 10] []) .ret),[.tmp 2]⟩
def L50_0 : CC := (.seq (.seq (.reg false [qm 17 6,qm 18 0,qe 19 18,qz 20 17 19] []) (.cond (.t 20) .skip (.exit 0))) (.seq (.block 1 (.seq (.reg false [qm 23 0,qm 24 6,⟨some 25,.ias 4 (.t 23) (.t 24),none⟩,⟨some 26,.ld 4 true (.t 25),none⟩,⟨some
 7,.alloc [.val (.int .i64 0),.val (.int .i64 0),.val (.int .i64 0),.val (.int .i64 0)],none⟩,qw 4 7 26] []) (.seq (.reg false [qm 27 5,qe 28 27,qm 8 28] []) (.seq (.reg false [qa 29 0 7,ql 30 29] []) (.block 2 (.seq (.reg false [qq 32 30 1,qm 31
 32] []) (.cond (.t 31) (.reg false [qm 33 5,⟨some 34,.bsl 1 1 [.val (.bool false)] [(0, 1, (.c (.val (.bool true))))],none⟩,⟨some 35,.app 1 (.t 33) (.t 34),none⟩,qm 5 35] []) (.seq (.reg false [qq 37 30 2,qm 36 37] []) (.cond (.t 36) (.reg false
 [qm 38 5,qa 39 0 3,ql 40 39,qa 41 1 7,ql 42 41,⟨some 43,.bin .sub 3 false false (.t 40) (.t 42),none⟩,qa 44 0 3,ql 45 44,qa 46 1 7,ql 47 46,⟨some 48,.bin .sub 3 false false (.t 45) (.t 47),none⟩,⟨some 49,.bin .mul 3 false false (.t 43) (.t
 48),none⟩,qa 50 1 3,ql 51 50,qa 52 2 7,ql 53 52,⟨some 54,.bin .sub 3 false false (.t 51) (.t 53),none⟩,qa 55 1 3,ql 56 55,qa 57 2 7,ql 58 57,⟨some 59,.bin .sub 3 false false (.t 56) (.t 58),none⟩,⟨some 60,.bin .mul 3 false false (.t 54) (.t
 59),none⟩,⟨some 61,.bin .add 3 false false (.t 49) (.t 60),none⟩,qa 62 3 7,ql 63 62,qa 64 3 7,ql 65 64,⟨some 66,.bin .mul 3 false false (.t 63) (.t 65),none⟩,⟨some 67,.bin .leq 3 false false (.t 61) (.t 66),none⟩,⟨some 68,.bsl 1 1 [.val (.bool
 false)] [(0, 1, (.t 67))],none⟩,⟨some 69,.app 1 (.t 38) (.t 68),none⟩,qm 5 69] []) (.seq (.reg false [qq 71 30 3,qm 70 71] []) (.cond (.t 70) (.reg false [qm 72 5,qa 73 0 3,ql 74 73,qa 75 1 7,ql 76 75,⟨some 77,.bin .mul 3 false false (.t 74) (.t
 76),none⟩,qa 78 1 3,ql 79 78,qa 80 2 7,ql 81 80,⟨some 82,.bin .mul 3 false false (.t 79) (.t 81),none⟩,⟨some 83,.bin .add 3 false false (.t 77) (.t 82),none⟩,qa 84 3 7,ql 85 84,⟨some 86,.bin .geq 3 false false (.t 83) (.t 85),none⟩,⟨some 87,.bsl 1
 1 [.val (.bool false)] [(0, 1, (.t 86))],none⟩,⟨some 88,.app 1 (.t 72) (.t 87),none⟩,qm 5 88] []) (.seq (.reg false [qq 90 30 4,qm 89 90] []) (.cond (.t 89) (.reg false [qm 91 5,qm 92 8,⟨some 93,.bin .sub 3 false true (.t 92) (.c (.val (.int .i64
 1))),none⟩,qm 94 5,qm 95 8,⟨some 96,.bin .sub 3 false true (.t 95) (.c (.val (.int .i64 1))),none⟩,qx 97 94 96,ql 98 97,qb 99 98,qx 100 91 93,qw 1 100 99] []) (.seq (.reg false [qq 102 30 5,qm 101 102] []) (.cond (.t 101) (.reg true [qm 103 5,qm
 104 8,⟨some 105,.bin .sub 3 false true (.t 104) (.c (.val (.int .i64 2))),none⟩,⟨some 106,.slc 1 (.t 103) none (some (.t 105)) none,none⟩,qm 107 5,qm 108 8,⟨some 109,.bin .sub 3 false true (.t 108) (.c (.val (.int .i64 2))),none⟩,qx 110 107 109,ql
 111 110,qm 112 111,qmT 113 5 112,qmT 114 8 112,⟨some 115,.bin .sub 3 false true (.t 114) (.c (.val (.int .i64 1))),some (112, true)⟩,qxT 116 113 115 112,qlT 117 116 112,qp 118 112 117,⟨some 119,.bsl 1 1 [.val (.bool false)] [(0, 1, (.t
 118))],none⟩,⟨some 120,.app 1 (.t 106) (.t 119),none⟩,qm 5 120] [(3, 16)]) (.seq (.reg false [qq 122 30 6,qm 121 122] []) (.cond (.t 121) (.reg true [qm 123 5,qm 124 8,⟨some 125,.bin .sub 3 false true (.t 124) (.c (.val (.int .i64 2))),none⟩,⟨some
 126,.slc 1 (.t 123) none (some (.t 125)) none,none⟩,qm 127 5,qm 128 8,⟨some 129,.bin .sub 3 false true (.t 128) (.c (.val (.int .i64 2))),none⟩,qx 130 127 129,ql 131 130,qm 132 131,qmF 133 5 132,qmF 134 8 132,⟨some 135,.bin .sub 3 false true (.t
 134) (.c (.val (.int .i64 1))),some (132, false)⟩,⟨some 136,.ias 1 (.t 133) (.t 135),some (132, false)⟩,qlF 137 136 132,qo 138 132 137,⟨some 139,.bsl 1 1 [.val (.bool false)] [(0, 1, (.t 138))],none⟩,⟨some 140,.app 1 (.t 126) (.t 139),none⟩,qm 5
 140] [(3, 16)]) .skip))))))))))))))))) (.reg false [qm 21 6,qs 22 21,qm 6 22] [])))
def c50 : CF := ⟨.seq (.reg false [⟨some 3,.box (.t 1),none⟩,qf 4] []) (.seq (.seq (.reg false [qm 9 0,qc 10 48 9,qb 11 10,qm 12 11,⟨some 13,.ld 2 true (.t 3),some (12, false)⟩,⟨some 14,.call (.c (.fn 49 [])) [.t 13],some (12, false)⟩,qbF 15 14
 12,qo 16 12 15] []) (.cond (.t 16) (.seq (.reg false [qf 4] []) .ret) .skip)) (.seq (.reg false [qj 5] []) (.seq (.seq (.reg false [qi 6 0] []) (.block 0 (.loop L50_0))) (.seq (.reg false [qm 141 5,⟨some 142,.ias 1 (.t 141) (.c (.val (.int .i64
 0))),none⟩,ql 143 142,qm 4 143] []) .ret)))),[.tmp 4]⟩
def c51 : CF := ⟨.seq (.reg false [⟨some 2,.box (.t 0),none⟩,⟨some 3,.box (.t 1),none⟩,⟨some 4,.alloc [.val (.string ⟨#[]⟩),.val (.int .i64 0),.val (.int .i64 0),.val (.int .i64 0),.val (.int .i64 0),.im [] true,.im [] true,.im [] true,.im []
 true,.im [] true,.im [] true,.im [] true,.im [] true],none⟩] []) (.seq (.reg false [qa 5 3 2,ql 6 5,qs 7 6,qa 8 3 2,qw 1 8 7] []) (.seq (.reg false [qa 9 4 2,ql 10 9,qs 11 10,qa 12 4 2,qw 1 12 11] []) (.seq (.reg false [qa 13 0 2,ql 14 13,qa 15 3
 2,ql 16 15,qa 17 4 2,ql 18 17,⟨some 19,.build [.val (.string ⟨#[]⟩),.val (.int .i64 0),.val (.int .i64 0)] [(0, 1, (.t 14)),(1, 1, (.t 16)),(2, 1, (.t 18))],none⟩,qa 20 1 3,qw 3 20 19] []) (.seq (.reg false [qa 21 5 2,ql 22 21,qa 23 0 2,ql 24 23,qa
 25 3 2,ql 26 25,⟨some 27,.call (.c (.fn 94 [])) [.t 22,.t 24,.t 26],none⟩,qa 28 5 2,qw 1 28 27] []) (.seq (.reg false [qa 30 8 2,ql 31 30,⟨some 32,.ld 9 true (.t 3),none⟩,qk 33 95 31 32,qm 29 33,⟨some 34,.ext (.t 29) 0,none⟩,⟨some 35,.ext (.t 29)
 1,none⟩,qa 36 8 2,qw 1 36 34] []) (.seq (.reg false [⟨some 37,.ld 13 true (.t 2),none⟩,qc 38 45 37,qw 13 4 38] []) .ret)))))),[.cell 4 13 true]⟩
def L52_0 : CC := (.seq (.seq (.reg false [qm 7 6,qm 8 0,qe 9 8,qz 10 7 9] []) (.cond (.t 10) .skip (.exit 0))) (.seq (.block 1 (.seq (.reg false [qm 13 0,qm 14 6,⟨some 15,.ias 9 (.t 13) (.t 14),none⟩,qa 16 0 15,ql 17 16,qm 18 1,⟨some 19,.bin .eql 3
 false false (.t 17) (.t 18),none⟩] []) (.cond (.t 19) (.seq (.reg false [qm 20 0,qm 21 6,⟨some 22,.ias 9 (.t 20) (.t 21),none⟩,⟨some 23,.ld 9 true (.t 22),none⟩,qw 9 4 23,qt 5] []) .ret) .skip))) (.reg false [qm 11 6,qs 12 11,qm 6 12] [])))
def c52 : CF :=  ⟨.seq (.reg false [⟨some 4,.alloc [.val (.int .i64 0),.val (.string ⟨#[]⟩),.val (.int .i64 0),.val (.int .i64 0),.val (.bool false),.val (.int .i64 0),.val (.int .i64 0),.val (.string ⟨#[]⟩),.val (.bool false)],none⟩,qf 5] []) (.seq
 (.seq (.reg false [qi 6 0] []) (.block 0 (.loop L52_0))) (.seq (.reg false [⟨some 24,.build [.val (.int .i64 0),.val (.string ⟨#[]⟩),.val (.int .i64 0),.val (.int .i64 0),.val (.bool false),.val (.int .i64 0),.val (.int .i64 0),.val (.string
 ⟨#[]⟩),.val (.bool false)] [],none⟩,qw 9 4 24,qf 5] []) .ret)),[.cell 4 9 true,.tmp 5]⟩
def L53_0 : CC := (.seq (.seq (.reg false [qm 11 5,qm 12 0,qe 13 12,qz 14 11 13] []) (.cond (.t 14) .skip (.exit 0))) (.seq (.block 1 (.seq (.reg true [qm 17 0,qm 18 5,⟨some 19,.ias 3 (.t 17) (.t 18),none⟩,qa 20 0 19,ql 21 20,qm 22 1,qm 23 5,⟨some
 24,.ias 3 (.t 22) (.t 23),none⟩,qa 25 0 24,ql 26 25,⟨some 27,.bin .neq 9 false false (.t 21) (.t 26),none⟩,qm 28 27,qmF 29 0 28,qmF 30 5 28,⟨some 31,.ias 3 (.t 29) (.t 30),some (28, false)⟩,qaF 32 1 31 28,⟨some 33,.ld 2 true (.t 32),some (28,
 false)⟩,qmF 34 1 28,qmF 35 5 28,⟨some 36,.ias 3 (.t 34) (.t 35),some (28, false)⟩,qaF 37 1 36 28,⟨some 38,.ld 2 true (.t 37),some (28, false)⟩,⟨some 39,.call (.c (.fn 96 [])) [.t 33,.t 38],some (28, false)⟩,qbF 40 39 28,qo 41 28 40] []) (.cond (.t
 41) (.seq (.reg false [qf 4] []) .ret) .skip))) (.reg false [qm 15 5,qs 16 15,qm 5 16] [])))
def c53 : CF := ⟨.seq (.reg false [qf 4] []) (.seq (.seq (.reg false [qm 6 0,qe 7 6,qm 8 1,qe 9 8,⟨some 10,.bin .neq 3 false false (.t 7) (.t 9),none⟩] []) (.cond (.t 10) (.seq (.reg false [qf 4] []) .ret) .skip)) (.seq (.seq (.reg false [qi 5 0]
 []) (.block 0 (.loop L53_0))) (.seq (.reg false [qt 4] []) .ret))),[.tmp 4]⟩
def L54_0 : CC := (.seq (.seq (.reg false [qm 11 5,qm 12 0,qe 13 12,qz 14 11 13] []) (.cond (.t 14) .skip (.exit 0))) (.seq (.block 1 (.seq (.reg true [qm 17 0,qm 18 5,⟨some 19,.ias 2 (.t 17) (.t 18),none⟩,⟨some 20,.ld 2 true (.t 19),none⟩,qm 21
 1,qm 22 5,⟨some 23,.ias 2 (.t 21) (.t 22),none⟩,⟨some 24,.ld 2 true (.t 23),none⟩,⟨some 25,.bin .neq 182 false false (.t 20) (.t 24),none⟩] []) (.cond (.t 25) (.seq (.reg false [qf 4] []) .ret) .skip))) (.reg false [qm 15 5,qs 16 15,qm 5 16] [])))
def c54 : CF := ⟨.seq (.reg false [qf 4] []) (.seq (.seq (.reg false [qm 6 0,qe 7 6,qm 8 1,qe 9 8,⟨some 10,.bin .neq 3 false false (.t 7) (.t 9),none⟩] []) (.cond (.t 10) (.seq (.reg false [qf 4] []) .ret) .skip)) (.seq (.seq (.reg false [qi 5 0]
 []) (.block 0 (.loop L54_0))) (.seq (.reg false [qt 4] []) .ret))),[.tmp 4]⟩
def L55_0 : CC := (.seq (.seq (.reg false [qm 11 5,qm 12 0,qe 13 12,qz 14 11 13] []) (.cond (.t 14) .skip (.exit 0))) (.seq (.block 1 (.seq (.reg true [qm 17 0,qm 18 5,⟨some 19,.ias 9 (.t 17) (.t 18),none⟩,⟨some 20,.ld 9 true (.t 19),none⟩,qm 21
 1,qm 22 5,⟨some 23,.ias 9 (.t 21) (.t 22),none⟩,⟨some 24,.ld 9 true (.t 23),none⟩,⟨some 25,.bin .neq 130 false false (.t 20) (.t 24),none⟩] []) (.cond (.t 25) (.seq (.reg false [qf 4] []) .ret) .skip))) (.reg false [qm 15 5,qs 16 15,qm 5 16] [])))
def c55 : CF := ⟨.seq (.reg false [qf 4] []) (.seq (.seq (.reg false [qm 6 0,qe 7 6,qm 8 1,qe 9 8,⟨some 10,.bin .neq 3 false false (.t 7) (.t 9),none⟩] []) (.cond (.t 10) (.seq (.reg false [qf 4] []) .ret) .skip)) (.seq (.seq (.reg false [qi 5 0]
 []) (.block 0 (.loop L55_0))) (.seq (.reg false [qt 4] []) .ret))),[.tmp 4]⟩
def L56_0 : CC := (.seq (.seq (.reg false [qm 11 5,qm 12 0,qe 13 12,qz 14 11 13] []) (.cond (.t 14) .skip (.exit 0))) (.seq (.block 1 (.seq (.reg true [qm 17 0,qm 18 5,⟨some 19,.ias 4 (.t 17) (.t 18),none⟩,⟨some 20,.ld 4 true (.t 19),none⟩,qm 21
 1,qm 22 5,⟨some 23,.ias 4 (.t 21) (.t 22),none⟩,⟨some 24,.ld 4 true (.t 23),none⟩,⟨some 25,.bin .neq 105 false false (.t 20) (.t 24),none⟩] []) (.cond (.t 25) (.seq (.reg false [qf 4] []) .ret) .skip))) (.reg false [qm 15 5,qs 16 15,qm 5 16] [])))
def c56 : CF := ⟨.seq (.reg false [qf 4] []) (.seq (.seq (.reg false [qm 6 0,qe 7 6,qm 8 1,qe 9 8,⟨some 10,.bin .neq 3 false false (.t 7) (.t 9),none⟩] []) (.cond (.t 10) (.seq (.reg false [qf 4] []) .ret) .skip)) (.seq (.seq (.reg false [qi 5 0]
 []) (.block 0 (.loop L56_0))) (.seq (.reg false [qt 4] []) .ret))),[.tmp 4]⟩
def L57_0 : CC := (.seq (.seq (.reg false [qm 11 5,qm 12 0,qe 13 12,qz 14 11 13] []) (.cond (.t 14) .skip (.exit 0))) (.seq (.block 1 (.seq (.reg true [qm 17 0,qm 18 5,qx 19 17 18,ql 20 19,qm 21 1,qm 22 5,qx 23 21 22,ql 24 23,⟨some 25,.bin .neq 9
 false false (.t 20) (.t 24),none⟩] []) (.cond (.t 25) (.seq (.reg false [qf 4] []) .ret) .skip))) (.reg false [qm 15 5,qs 16 15,qm 5 16] [])))
def c57 : CF := ⟨.seq (.reg false [qf 4] []) (.seq (.seq (.reg false [qm 6 0,qe 7 6,qm 8 1,qe 9 8,⟨some 10,.bin .neq 3 false false (.t 7) (.t 9),none⟩] []) (.cond (.t 10) (.seq (.reg false [qf 4] []) .ret) .skip)) (.seq (.seq (.reg false [qi 5 0]
 []) (.block 0 (.loop L57_0))) (.seq (.reg false [qt 4] []) .ret))),[.tmp 4]⟩
def L58_0 : CC := (.seq (.seq (.reg false [qm 11 5,qm 12 0,qe 13 12,qz 14 11 13] []) (.cond (.t 14) .skip (.exit 0))) (.seq (.block 1 (.seq (.reg true [qm 17 0,qm 18 5,⟨some 19,.ias 2 (.t 17) (.t 18),none⟩,qa 20 0 19,ql 21 20,qm 22 1,qm 23 5,⟨some
 24,.ias 2 (.t 22) (.t 23),none⟩,qa 25 0 24,ql 26 25,⟨some 27,.bin .neq 9 false false (.t 21) (.t 26),none⟩,qm 28 27,qmF 29 0 28,qmF 30 5 28,⟨some 31,.ias 2 (.t 29) (.t 30),some (28, false)⟩,qaF 32 1 31 28,qlF 33 32 28,qmF 34 1 28,qmF 35 5 28,⟨some
 36,.ias 2 (.t 34) (.t 35),some (28, false)⟩,qaF 37 1 36 28,qlF 38 37 28,⟨some 39,.call (.c (.fn 54 [])) [.t 33,.t 38],some (28, false)⟩,qbF 40 39 28,qo 41 28 40] []) (.cond (.t 41) (.seq (.reg false [qf 4] []) .ret) .skip))) (.reg false [qm 15 5,qs
 16 15,qm 5 16] [])))
def c58 : CF := ⟨.seq (.reg false [qf 4] []) (.seq (.seq (.reg false [qm 6 0,qe 7 6,qm 8 1,qe 9 8,⟨some 10,.bin .neq 3 false false (.t 7) (.t 9),none⟩] []) (.cond (.t 10) (.seq (.reg false [qf 4] []) .ret) .skip)) (.seq (.seq (.reg false [qi 5 0]
 []) (.block 0 (.loop L58_0))) (.seq (.reg false [qt 4] []) .ret))),[.tmp 4]⟩
def L59_0 : CC := (.seq (.seq (.reg false [qm 5 4,qm 6 0,qe 7 6,qz 8 5 7] []) (.cond (.t 8) .skip (.exit 0))) (.seq (.block 1 (.reg true [qm 11 3,qm 12 0,qm 13 4,⟨some 14,.ias 2 (.t 12) (.t 13),none⟩,qa 15 0 14,ql 16 15,qm 17 0,qm 18 4,⟨some 19,.ias
 2 (.t 17) (.t 18),none⟩,qa 20 1 19,ql 21 20,⟨some 22,.build [.val (.string ⟨#[]⟩),.val (.int .i64 0)] [(0, 1, (.t 16)),(1, 1, (.t 21))],none⟩,⟨some 23,.bsl 2 1 [.val (.string ⟨#[]⟩),.val (.int .i64 0)] [(0, 2, (.t 22))],none⟩,⟨some 24,.app 2 (.t
 11) (.t 23),none⟩,qm 3 24] [])) (.reg false [qm 9 4,qs 10 9,qm 4 10] [])))
def c59 : CF := ⟨.seq (.reg false [qj 2] []) (.seq (.reg false [qj 3] []) (.seq (.seq (.reg false [qi 4 0] []) (.block 0 (.loop L59_0))) (.seq (.reg false [qm 25 3,qm 2 25] []) .ret))),[.tmp 2]⟩
def L60_0 : CC := (.seq (.seq (.reg false [qm 5 4,qm 6 0,qe 7 6,qz 8 5 7] []) (.cond (.t 8) .skip (.exit 0))) (.seq (.block 1 (.reg false [qm 11 3,qm 12 0,qm 13 4,⟨some 14,.ias 8 (.t 12) (.t 13),none⟩,⟨some 15,.ld 8 true (.t 14),none⟩,qc 16 97
 15,⟨some 17,.bsl 9 1 [.val (.int .i64 0),.val (.string ⟨#[]⟩),.val (.int .i64 0),.val (.int .i64 0),.val (.bool false),.val (.int .i64 0),.val (.int .i64 0),.val (.string ⟨#[]⟩),.val (.bool false)] [(0, 9, (.t 16))],none⟩,⟨some 18,.app 9 (.t 11)
 (.t 17),none⟩,qm 3 18] [])) (.reg false [qm 9 4,qs 10 9,qm 4 10] [])))
def c60 : CF := ⟨.seq (.reg false [qj 2] []) (.seq (.reg false [qj 3] []) (.seq (.seq (.reg false [qi 4 0] []) (.block 0 (.loop L60_0))) (.seq (.reg false [qm 19 3,qm 2 19] []) .ret))),[.tmp 2]⟩
def L61_0 : CC := (.seq (.seq (.reg false [qm 6 4,qm 7 0,qe 8 7,qz 9 6 8] []) (.cond (.t 9) .skip (.exit 0))) (.seq (.block 1 (.seq (.reg false [qm 12 0,qm 13 4,⟨some 14,.ias 3 (.t 12) (.t 13),none⟩,qa 15 1 14,ql 16 15,qc 17 98 16,⟨some 5,.alloc
 [.val (.int .i64 0),.val (.int .i64 0)],none⟩,qw 2 5 17] []) (.reg true [qm 18 3,qm 19 0,qm 20 4,⟨some 21,.ias 3 (.t 19) (.t 20),none⟩,qa 22 0 21,ql 23 22,qa 24 0 5,ql 25 24,qa 26 1 5,ql 27 26,qm 28 0,qm 29 4,⟨some 30,.ias 3 (.t 28) (.t
 29),none⟩,qa 31 2 30,ql 32 31,⟨some 33,.cv 97 3 (.t 32),none⟩,⟨some 34,.build [.val (.int .i64 0),.val (.int .i64 0),.val (.int .i64 0),.val (.int .i64 0)] [(0, 1, (.t 23)),(1, 1, (.t 25)),(2, 1, (.t 27)),(3, 1, (.t 33))],none⟩,⟨some 35,.bsl 4 1
 [.val (.int .i64 0),.val (.int .i64 0),.val (.int .i64 0),.val (.int .i64 0)] [(0, 4, (.t 34))],none⟩,⟨some 36,.app 4 (.t 18) (.t 35),none⟩,qm 3 36] []))) (.reg false [qm 10 4,qs 11 10,qm 4 11] [])))
def c61 : CF := ⟨.seq (.reg false [qj 2] []) (.seq (.reg false [qj 3] []) (.seq (.seq (.reg false [qi 4 0] []) (.block 0 (.loop L61_0))) (.seq (.reg false [qm 37 3,qm 2 37] []) .ret))),[.tmp 2]⟩
def L62_0 : CC := (.seq (.seq (.reg false [qm 5 4,qm 6 0,qe 7 6,qz 8 5 7] []) (.cond (.t 8) .skip (.exit 0))) (.seq (.block 1 (.reg false [qm 11 3,qm 12 0,qm 13 4,qx 14 12 13,ql 15 14,⟨some 16,.bsl 1 1 [.val (.string ⟨#[]⟩)] [(0, 1, (.t
 15))],none⟩,⟨some 17,.app 1 (.t 11) (.t 16),none⟩,qm 3 17] [])) (.reg false [qm 9 4,qs 10 9,qm 4 10] [])))
def c62 : CF := ⟨.seq (.reg false [qj 2] []) (.seq (.reg false [qj 3] []) (.seq (.seq (.reg false [qi 4 0] []) (.block 0 (.loop L62_0))) (.seq (.reg false [qm 18 3,qm 2 18] []) .ret))),[.tmp 2]⟩
def L63_0 : CC := (.seq (.seq (.reg false [qm 5 4,qm 6 0,qe 7 6,qz 8 5 7] []) (.cond (.t 8) .skip (.exit 0))) (.seq (.block 1 (.reg true [qm 11 3,qm 12 0,qm 13 4,⟨some 14,.ias 2 (.t 12) (.t 13),none⟩,qa 15 0 14,ql 16 15,qm 17 0,qm 18 4,⟨some 19,.ias
 2 (.t 17) (.t 18),none⟩,qa 20 1 19,ql 21 20,qc 22 59 21,⟨some 23,.build [.val (.string ⟨#[]⟩),.im [] true] [(0, 1, (.t 16)),(1, 1, (.t 22))],none⟩,⟨some 24,.bsl 2 1 [.val (.string ⟨#[]⟩),.im [] true] [(0, 2, (.t 23))],none⟩,⟨some 25,.app 2 (.t 11)
 (.t 24),none⟩,qm 3 25] [(5, 11)])) (.reg false [qm 9 4,qs 10 9,qm 4 10] [])))
def c63 : CF := ⟨.seq (.reg false [qj 2] []) (.seq (.reg false [qj 3] []) (.seq (.seq (.reg false [qi 4 0] []) (.block 0 (.loop L63_0))) (.seq (.reg false [qm 26 3,qm 2 26] []) .ret))),[.tmp 2]⟩
def c64 : CF :=  ⟨.seq (.reg false [⟨some 4,.alloc [.val (.int .i64 0),.val (.string ⟨#[]⟩),.val (.int .i64 0),.val (.int .i64 0),.val (.bool false),.val (.complex .f64 0 0),.val (.string ⟨#[]⟩),.val (.bool false)],none⟩,qf 5] []) (.seq (.reg false
 [qm 9 0,qm 10 1,qk 11 99 9 10,qm 8 11,⟨some 12,.ext (.t 8) 0,none⟩,⟨some 13,.ext (.t 8) 1,none⟩,qm 6 12,qm 7 13] []) (.seq (.seq (.reg false [qm 14 7,qb 15 14] []) (.cond (.t 15) (.seq (.reg false [⟨some 16,.build [.val (.int .i64 0),.val (.string
 ⟨#[]⟩),.val (.int .i64 0),.val (.int .i64 0),.val (.bool false),.val (.complex .f64 0 0),.val (.string ⟨#[]⟩),.val (.bool false)] [],none⟩,qw 8 4 16,qf 5] []) .ret) .skip)) (.seq (.reg false [qm 17 0,qm 18 6,⟨some 19,.ias 8 (.t 17) (.t
 18),none⟩,⟨some 20,.ld 8 true (.t 19),none⟩,qw 8 4 20,qt 5] []) .ret))),[.cell 4 8 true,.tmp 5]⟩
def c65 : CF := ⟨.seq (.reg false [qj 6] []) (.seq (.seq (.reg false [qm 7 1,qc 8 73 7,qb 9 8] []) (.cond (.t 9) (.seq (.reg false [qm 10 0,qc 11 70 10,qm 6 11] []) .ret) .skip)) (.seq (.reg false [qm 12 0,qc 13 70 12,qm 14 1,⟨some 15,.build [.val
 (.int .i64 0),.im [] true] [],none⟩,qm 16 2,qk 17 100 15 16,⟨some 18,.call (.c (.fn 71 [])) [.t 13,.t 14,.t 17],none⟩,qm 6 18] []) .ret)),[.tmp 6]⟩
def c66 : CF := ⟨.seq (.reg false [⟨some 3,.box (.t 1),none⟩,qj 4,qf 5] []) (.seq (.reg false [qm 9 0,qc 10 76 9,qm 6 10] []) (.seq (.reg false [qm 12 6,qa 13 0 3,ql 14 13,qk 15 99 12 14,qm 11 15,⟨some 16,.ext (.t 11) 0,none⟩,⟨some 17,.ext (.t 11)
 1,none⟩,qm 7 16,qm 8 17] []) (.seq (.block 0 (.seq (.reg false [qm 19 8,qb 20 19,qm 18 20] []) (.cond (.t 18) (.seq (.reg false [qm 21 6,qm 22 7,⟨some 23,.ld 8 true (.t 3),none⟩,⟨some 24,.bsl 8 1 [.val (.int .i64 0),.val (.string ⟨#[]⟩),.val (.int
 .i64 0),.val (.int .i64 0),.val (.bool false),.val (.complex .f64 0 0),.val (.string ⟨#[]⟩),.val (.bool false)] [(0, 8, (.t 23))],none⟩,⟨some 25,.call (.c (.fn 101 [])) [.t 21,.t 22,.t 24],none⟩,qm 4 25,qt 5] []) .ret) (.seq (.reg true [qm 27 6,qm
 28 7,⟨some 29,.ias 8 (.t 27) (.t 28),none⟩,⟨some 30,.ld 8 true (.t 29),none⟩,⟨some 31,.ld 8 true (.t 3),none⟩,qk 32 102 30 31,qm 26 32] []) (.cond (.t 26) (.seq (.reg false [qm 33 6,qm 34 7,⟨some 35,.ld 8 true (.t 3),none⟩,⟨some 36,.ias 8 (.t 33)
 (.t 34),none⟩,qw 8 36 35] []) (.seq (.reg false [qm 37 6,qm 4 37,qt 5] []) .ret)) .skip))))) (.seq (.reg false [qm 38 6,qm 4 38,qf 5] []) .ret)))),[.tmp 4,.tmp 5]⟩
def c67 : CF := ⟨.seq (.reg false [qf 6] []) (.seq (.reg false [qm 7 0,qm 8 1,⟨some 9,.bin .geq 97 false false (.t 7) (.t 8),none⟩,qm 10 9,qmT 11 0 10,qmT 12 2 10,⟨some 13,.bin .leq 97 false false (.t 11) (.t 12),some (10, true)⟩,qp 14 10 13,qm 15
 14,qmT 16 0 15,qmT 17 0 15,⟨some 18,.call (.c (.fn 103 [])) [.t 17],some (15, true)⟩,⟨some 19,.bin .eql 97 false false (.t 16) (.t 18),some (15, true)⟩,qp 20 15 19,qm 6 20] []) .ret),[.tmp 6]⟩
def c68 : CF := ⟨.seq (.reg false [⟨some 1,.box (.t 0),none⟩,qi 2 0] []) (.seq (.seq (.reg false [qa 3 0 1,ql 4 3] []) (.block 0 (.seq (.reg false [qq 6 4 4,qm 5 6] []) (.cond (.t 5) (.seq (.reg false [qi 2 1] []) .ret) (.seq (.seq (.reg false [qq 8
 4 5,qm 7 8] []) (.cond (.t 7) .skip (.reg false [qq 9 4 6,qm 7 9] []))) (.cond (.t 7) (.seq (.reg false [qi 2 2] []) .ret) .skip)))))) (.seq (.reg false [qi 2 0] []) .ret)),[.tmp 2]⟩
def c69 : CF := ⟨.seq (.reg false [⟨some 3,.box (.t 0),none⟩,qf 6] []) (.seq (.seq (.reg false [qa 7 0 3,ql 8 7] []) (.block 0 (.seq (.reg false [qq 10 8 2,qm 9 10] []) (.cond (.t 9) (.seq (.reg true [qm 11 1,qa 12 1 3,ql 13 12,⟨some 14,.bin .sub 50
 false false (.t 11) (.t 13),none⟩,qm 15 1,qa 16 1 3,ql 17 16,⟨some 18,.bin .sub 50 false false (.t 15) (.t 17),none⟩,qk 19 104 14 18,qa 20 2 3,ql 21 20,qa 22 2 3,ql 23 22,⟨some 24,.bin .mul 97 false false (.t 21) (.t 23),none⟩,⟨some 25,.bin .leq 97
 false false (.t 19) (.t 24),none⟩,qm 6 25] [(8, 10),(8, 12)]) .ret) (.seq (.reg false [qq 27 8 3,qm 26 27] []) (.cond (.t 26) (.seq (.reg true [qm 28 1,qa 29 1 3,ql 30 29,qk 31 104 28 30,qa 32 2 3,ql 33 32,⟨some 34,.bin .geq 97 false false (.t 31)
 (.t 33),none⟩,qm 6 34] [(3, 5)]) .ret) (.seq (.reg false [qq 36 8 4,qm 35 36] []) (.cond (.t 35) (.seq (.reg false [qm 37 2,⟨some 38,.ias 1 (.t 37) (.c (.val (.int .i64 0))),none⟩,ql 39 38,qb 40 39,qm 6 40] []) .ret) (.seq (.reg false [qq 42 8 5,qm
 41 42] []) (.cond (.t 41) (.seq (.reg false [qm 43 2,⟨some 44,.ias 1 (.t 43) (.c (.val (.int .i64 0))),none⟩,ql 45 44,qm 46 45,qmT 47 2 46,⟨some 48,.ias 1 (.t 47) (.c (.val (.int .i64 1))),some (46, true)⟩,qlT 49 48 46,qp 50 46 49,qm 6 50] [])
 .ret) (.seq (.reg false [qq 52 8 6,qm 51 52] []) (.cond (.t 51) (.seq (.reg false [qm 53 2,⟨some 54,.ias 1 (.t 53) (.c (.val (.int .i64 0))),none⟩,ql 55 54,qm 56 55,qmF 57 2 56,⟨some 58,.ias 1 (.t 57) (.c (.val (.int .i64 1))),some (56, false)⟩,qlF
 59 58 56,qo 60 56 59,qm 6 60] []) .ret) .skip)))))))))))) (.seq (.reg false [qt 6] []) .ret)),[.tmp 6]⟩
def L70_0 : CC := (.seq (.reg false [qz 10 9 8] []) (.seq (.cond (.t 10) .skip (.exit 0)) (.seq (.block 1 (.seq (.reg false [qm 11 9,qm 4 11] []) (.reg false [qm 12 3,qm 13 4,qm 14 3,qm 15 4,⟨some 16,.ias 3 (.t 14) (.t 15),none⟩,qa 17 1 16,qa 18 1
 17,ql 19 18,qc 20 106 19,⟨some 21,.ias 3 (.t 12) (.t 13),none⟩,qa 22 1 21,qa 23 1 22,qw 1 23 20] []))) (.reg false [qs 24 9,qm 9 24] []))))
def c70 : CF := ⟨.seq (.reg false [qj 2] []) (.seq (.reg false [qm 5 0,qc 6 105 5,qm 3 6] []) (.seq (.seq (.reg false [qm 7 3,qe 8 7,qi 9 0] []) (.block 0 (.loop L70_0))) (.seq (.reg false [qm 25 3,qm 2 25] []) .ret))),[.tmp 2]⟩
def c71 : CF := ⟨.seq (.reg false [⟨some 5,.box (.t 2),none⟩,qj 6] []) (.seq (.seq (.reg false [⟨some 9,.ld 2 true (.t 5),none⟩,qc 10 107 9,qq 11 10 0] []) (.cond (.t 11) (.seq (.reg false [qm 12 0,qm 6 12] []) .ret) .skip)) (.seq (.reg false [qm 14
 0,qm 15 1,qk 16 108 14 15,qm 13 16,⟨some 17,.ext (.t 13) 0,none⟩,⟨some 18,.ext (.t 13) 1,none⟩,qm 7 17,qm 8 18] []) (.seq (.seq (.reg false [qm 19 8,qb 20 19] []) (.cond (.t 20) (.seq (.reg false [qm 21 0,qm 22 7,qm 23 1,⟨some 24,.ld 2 true (.t
 5),none⟩,⟨some 25,.build [.val (.string ⟨#[]⟩),.val (.int .i64 0),.im [] true] [(0, 1, (.t 23)),(1, 2, (.t 24))],none⟩,⟨some 26,.bsl 3 1 [.val (.string ⟨#[]⟩),.val (.int .i64 0),.im [] true] [(0, 3, (.t 25))],none⟩,⟨some 27,.call (.c (.fn 109 []))
 [.t 21,.t 22,.t 26],none⟩,qm 6 27] []) .ret) .skip)) (.seq (.reg true [qm 28 0,qm 29 7,qm 30 0,qm 31 7,⟨some 32,.ias 3 (.t 30) (.t 31),none⟩,qa 33 1 32,⟨some 34,.ld 2 true (.t 33),none⟩,⟨some 35,.ld 2 true (.t 5),none⟩,qk 36 110 34 35,⟨some 37,.ias
 3 (.t 28) (.t 29),none⟩,qa 38 1 37,qw 2 38 36] []) (.seq (.reg false [qm 39 0,qm 6 39] []) .ret))))),[.tmp 6]⟩
def c72 : CF := ⟨.seq (.reg false [⟨some 2,.alloc [.val (.int .i64 0),.im [] true],none⟩] []) (.seq (.reg false [qm 3 0,⟨some 4,.fun_ .min #[3,3] 3 [.t 3,.c (.val (.int .i64 1048576))],none⟩,⟨some 5,.fun_ .max #[3,3] 3 [.c (.val (.int .i64 0)),.t
 4],none⟩,⟨some 6,.build [.val (.int .i64 0),.im [] true] [(0, 1, (.t 5))],none⟩,qw 2 2 6] []) .ret),[.cell 2 2 true]⟩
def L73_0 : CC := (.seq (.reg false [qz 18 17 16] []) (.seq (.cond (.t 18) .skip (.exit 0)) (.seq (.block 1 (.seq (.reg false [qx 19 15 17,ql 20 19,qm 4 20] []) (.seq (.reg false [qm 21 4,⟨some 22,.bin .leq 5 false true (.t 21) (.c (.val (.int .u8
 48))),none⟩,qm 23 22,qmF 24 4 23,⟨some 25,.bin .gtr 5 false true (.t 24) (.c (.val (.int .u8 57))),some (23, false)⟩,qo 26 23 25] []) (.cond (.t 26) (.seq (.reg false [qf 2] []) .ret) .skip)))) (.reg false [qs 27 17,qm 17 27] []))))
def c73 : CF := ⟨.seq (.reg false [qf 2] []) (.seq (.seq (.reg false [qm 5 0,⟨some 6,.call (.c (.fn 111 [])) [.t 5,.c (.val (.string ⟨#[48]⟩))],none⟩,qb 7 6,qm 8 7,qmF 9 0 8,⟨some 10,.len true (.t 9),some (8, false)⟩,⟨some 11,.bin .gtr 3 false true
 (.t 10) (.c (.val (.int .i64 6))),some (8, false)⟩,qo 12 8 11] []) (.cond (.t 12) (.seq (.reg false [qf 2] []) .ret) .skip)) (.seq (.seq (.reg false [qm 13 0,⟨some 14,.slc 0 (.t 13) (some (.c (.val (.int .i64 1)))) none none,none⟩,⟨some 15,.s2b (.t
 14),none⟩,qe 16 15,qi 17 0] []) (.block 0 (.loop L73_0))) (.seq (.reg false [qt 2] []) .ret))),[.tmp 2]⟩
def L74_0 : CC := (.seq (.reg false [qz 13 12 11] []) (.seq (.cond (.t 13) .skip (.exit 0)) (.seq (.block 1 (.seq (.reg false [⟨some 14,.ias 2 (.t 10) (.t 12),none⟩,⟨some 15,.ld 2 true (.t 14),none⟩,⟨some 7,.alloc [.val (.string ⟨#[]⟩),.im []
 true],none⟩,qw 2 7 15] []) (.reg false [qm 16 5,qa 17 0 7,ql 18 17,qa 19 1 7,ql 20 19,⟨some 21,.call (.c (.fn 37 [])) [.t 16,.t 18,.t 20],none⟩,qm 5 21] []))) (.reg false [qs 22 12,qm 12 22] []))))
def c74 : CF := ⟨.seq (.reg false [qj 4] []) (.seq (.reg false [qm 8 0,qc 9 79 8,qm 5 9] []) (.seq (.seq (.reg false [qm 10 1,qe 11 10,qi 12 0] []) (.block 0 (.loop L74_0))) (.seq (.reg false [qm 23 5,qm 4 23] []) .ret))),[.tmp 4]⟩
def c78 : CF := ⟨.seq (.reg false [qj 4] []) (.seq (.reg false [qm 6 0,qm 7 1,⟨some 8,.bsl 1 2 [.im [] true,.im [] true] [(0, 1, (.t 6)),(1, 1, (.t 7))],none⟩,qc 9 112 8,qm 5 9] []) (.seq (.reg false [qm 10 5,⟨some 11,.call (.c (.fn 113 [])) [.t
 10,.c (.fn 114 [])],none⟩] []) (.seq (.reg false [qm 12 5,qc 13 115 12,qm 4 13] []) .ret))),[.tmp 4]⟩
def L79_0 : CC := (.seq (.reg false [qz 10 9 8] []) (.seq (.cond (.t 10) .skip (.exit 0)) (.seq (.block 1 (.seq (.reg false [qm 11 9,qm 4 11] []) (.reg false [qm 12 3,qm 13 4,qm 14 3,qm 15 4,⟨some 16,.ias 2 (.t 14) (.t 15),none⟩,qa 17 1 16,ql 18
 17,qc 19 75 18,⟨some 20,.ias 2 (.t 12) (.t 13),none⟩,qa 21 1 20,qw 1 21 19] []))) (.reg false [qs 22 9,qm 9 22] []))))
def c79 : CF := ⟨.seq (.reg false [qj 2] []) (.seq (.reg false [qm 5 0,qc 6 116 5,qm 3 6] []) (.seq (.seq (.reg false [qm 7 3,qe 8 7,qi 9 0] []) (.block 0 (.loop L79_0))) (.seq (.reg false [qm 23 3,qm 2 23] []) .ret))),[.tmp 2]⟩
def c80 : CF := ⟨.seq (.reg false [qi 4 0,qf 5] []) (.seq (.reg false [qm 6 0,qm 7 1,⟨some 8,.build [.val (.string ⟨#[]⟩),.im [] true] [(0, 1, (.t 7))],none⟩,⟨some 9,.call (.c (.fn 117 [])) [.t 6,.t 8,.c (.fn 118 [])],none⟩,⟨some 10,.ext (.t 9)
 0,none⟩,⟨some 11,.ext (.t 9) 1,none⟩,qm 4 10,qm 5 11] []) .ret),[.tmp 4,.tmp 5]⟩
def L81_0 : CC := (.seq (.reg false [qz 13 12 11] []) (.seq (.cond (.t 13) .skip (.exit 0)) (.seq (.block 1 (.seq (.reg false [⟨some 14,.ias 2 (.t 10) (.t 12),none⟩,⟨some 15,.ld 2 true (.t 14),none⟩,⟨some 7,.alloc [.val (.string ⟨#[]⟩),.val (.int
 .i64 0)],none⟩,qw 2 7 15] []) (.reg false [qm 16 5,qa 17 0 7,ql 18 17,qa 19 1 7,ql 20 19,⟨some 21,.call (.c (.fn 83 [])) [.t 16,.t 18,.t 20],none⟩,qm 5 21] []))) (.reg false [qs 22 12,qm 12 22] []))))
def c81 : CF := ⟨.seq (.reg false [qj 4] []) (.seq (.reg false [qm 8 0,qc 9 75 8,qm 5 9] []) (.seq (.seq (.reg false [qm 10 1,qe 11 10,qi 12 0] []) (.block 0 (.loop L81_0))) (.seq (.reg false [qm 23 5,qm 4 23] []) .ret))),[.tmp 4]⟩
def c82 : CF := ⟨.seq (.reg false [qj 6] []) (.seq (.reg false [qm 10 0,qm 11 1,⟨some 12,.slc 2 (.t 10) (some (.t 11)) none none,none⟩] []) (.seq (.reg false [qm 13 2,qe 14 13,qm 7 14] []) (.seq (.seq (.reg false [qm 15 7,qq 16 15 0] []) (.cond (.t
 16) (.seq (.reg false [qm 17 0,qm 6 17] []) .ret) .skip)) (.seq (.reg false [qm 18 0,qe 19 18,qm 8 19] []) (.seq (.seq (.reg false [qm 20 1,qm 21 8,⟨some 22,.bin .eql 3 false false (.t 20) (.t 21),none⟩] []) (.cond (.t 22) (.seq (.reg false [qm 23
 0,qm 24 2,⟨some 25,.app 2 (.t 23) (.t 24),none⟩,qm 6 25] []) .ret) .skip)) (.seq (.seq (.reg false [qm 26 8,qm 27 7,⟨some 28,.bin .add 3 false false (.t 26) (.t 27),none⟩,qm 29 0,⟨some 30,.bad,none⟩,⟨some 31,.bin .gtr 3 false false (.t 28) (.t
 30),none⟩] []) (.cond (.t 31) (.seq (.reg false [qm 32 0,qm 33 1,⟨some 34,.slc 2 (.t 32) none (some (.t 33)) none,none⟩,qm 35 8,qm 36 7,⟨some 37,.bin .add 3 false false (.t 35) (.t 36),none⟩,qm 38 1,⟨some 39,.bin .sub 3 false false (.t 37) (.t
 38),none⟩,⟨some 40,.bad,none⟩,qm 9 40] []) (.seq (.reg false [qm 41 9,qm 42 1,⟨some 43,.slc 2 (.t 41) (some (.t 42)) none none,none⟩,qm 44 2,⟨some 45,.copy 2 (.t 43) (.t 44),none⟩] []) (.seq (.reg true [qm 46 9,qm 47 1,qm 48 7,⟨some 49,.bin .add 3
 false false (.t 47) (.t 48),none⟩,⟨some 50,.slc 2 (.t 46) (some (.t 49)) none none,none⟩,qm 51 0,qm 52 1,⟨some 53,.slc 2 (.t 51) (some (.t 52)) none none,none⟩,⟨some 54,.copy 2 (.t 50) (.t 53),none⟩] []) (.seq (.reg false [qm 55 9,qm 6 55] [])
 .ret)))) .skip)) (.seq (.reg false [qm 56 0,qm 57 8,qm 58 7,⟨some 59,.bin .add 3 false false (.t 57) (.t 58),none⟩,⟨some 60,.slc 2 (.t 56) none (some (.t 59)) none,none⟩,qm 0 60] []) (.seq (.seq (.reg false [qm 61 2,qm 62 0,qm 63 1,qm 64 7,⟨some
 65,.bin .add 3 false false (.t 63) (.t 64),none⟩,⟨some 66,.slc 2 (.t 62) (some (.t 65)) none none,none⟩,qk 67 119 61 66,qb 68 67] []) (.cond (.t 68) (.seq (.reg true [qm 69 0,qm 70 1,qm 71 7,⟨some 72,.bin .add 3 false false (.t 70) (.t
 71),none⟩,⟨some 73,.slc 2 (.t 69) (some (.t 72)) none none,none⟩,qm 74 0,qm 75 1,⟨some 76,.slc 2 (.t 74) (some (.t 75)) none none,none⟩,⟨some 77,.copy 2 (.t 73) (.t 76),none⟩] []) (.seq (.reg false [qm 78 0,qm 79 1,⟨some 80,.slc 2 (.t 78) (some (.t
 79)) none none,none⟩,qm 81 2,⟨some 82,.copy 2 (.t 80) (.t 81),none⟩] []) (.seq (.reg false [qm 83 0,qm 6 83] []) .ret))) .skip)) (.seq (.reg false [qm 84 0,qm 85 8,⟨some 86,.slc 2 (.t 84) (some (.t 85)) none none,none⟩,qm 87 2,⟨some 88,.copy 2 (.t
 86) (.t 87),none⟩] []) (.seq (.reg false [qm 89 0,qm 90 1,⟨some 91,.slc 2 (.t 89) (some (.t 90)) none none,none⟩,qm 92 7,qk 93 120 91 92] []) (.seq (.reg false [qm 94 0,qm 6 94] []) .ret))))))))))),[.tmp 6]⟩
def c83 : CF := ⟨.seq (.reg false [qj 6] []) (.seq (.reg false [qm 10 0,qc 11 75 10,qm 7 11] []) (.seq (.seq (.reg false [qm 12 1,qc 13 73 12,qb 14 13,qm 15 14,qmF 16 2 15,⟨some 17,.bin .lss 3 false true (.t 16) (.c (.val (.int .i64 1))),some (15,
 false)⟩,qo 18 15 17] []) (.cond (.t 18) (.seq (.reg false [qm 19 7,qm 6 19] []) .ret) .skip)) (.seq (.reg false [qm 20 2,⟨some 21,.fun_ .min #[3,3] 3 [.t 20,.c (.val (.int .i64 1048576))],none⟩,qm 2 21] []) (.seq (.reg false [qm 23 7,qm 24 1,qk 25
 121 23 24,qm 22 25,⟨some 26,.ext (.t 22) 0,none⟩,⟨some 27,.ext (.t 22) 1,none⟩,qm 8 26,qm 9 27] []) (.seq (.seq (.reg false [qm 28 9,qb 29 28] []) (.cond (.t 29) (.seq (.reg false [qm 30 7,qm 31 8,qm 32 1,qm 33 2,⟨some 34,.build [.val (.string
 ⟨#[]⟩),.val (.int .i64 0)] [(0, 1, (.t 32)),(1, 1, (.t 33))],none⟩,⟨some 35,.bsl 2 1 [.val (.string ⟨#[]⟩),.val (.int .i64 0)] [(0, 2, (.t 34))],none⟩,⟨some 36,.call (.c (.fn 122 [])) [.t 30,.t 31,.t 35],none⟩,qm 6 36] []) .ret) .skip)) (.seq (.reg
 false [qm 37 7,qm 38 8,qm 39 7,qm 40 8,⟨some 41,.ias 2 (.t 39) (.t 40),none⟩,qa 42 1 41,ql 43 42,qm 44 2,⟨some 45,.fun_ .max #[3,3] 3 [.t 43,.t 44],none⟩,⟨some 46,.ias 2 (.t 37) (.t 38),none⟩,qa 47 1 46,qw 1 47 45] []) (.seq (.reg false [qm 48 7,qm
 6 48] []) .ret))))))),[.tmp 6]⟩
def L84_0 : CC := (.seq (.seq (.reg false [qm 17 3,qm 18 0,⟨some 19,.len true (.t 18),none⟩,qz 20 17 19] []) (.cond (.t 20) .skip (.exit 0))) (.seq (.block 1 (.seq (.reg false [qm 23 0,qm 24 3,⟨some 25,.ixs (.t 23) (.t 24),none⟩,⟨some 26,.bin .lss 5
 false true (.t 25) (.c (.val (.int .u8 49))),none⟩,qm 27 26,qmF 28 0 27,qmF 29 3 27,⟨some 30,.ixs (.t 28) (.t 29),some (27, false)⟩,⟨some 31,.bin .gtr 5 false true (.t 30) (.c (.val (.int .u8 57))),some (27, false)⟩,qo 32 27 31] []) (.cond (.t 32)
 (.seq (.reg false [qf 2] []) .ret) .skip))) (.reg false [qm 21 3,qs 22 21,qm 3 22] [])))
def c84 : CF := ⟨.seq (.reg false [qf 2] []) (.seq (.seq (.reg false [qm 4 0,⟨some 5,.len true (.t 4),none⟩,⟨some 6,.bin .lss 3 false true (.t 5) (.c (.val (.int .i64 1))),none⟩,qm 7 6,qmF 8 0 7,⟨some 9,.len true (.t 8),some (7, false)⟩,⟨some
 10,.bin .gtr 3 false true (.t 9) (.c (.val (.int .i64 6))),some (7, false)⟩,qo 11 7 10,qm 12 11,qmF 13 0 12,⟨some 14,.ixs (.t 13) (.c (.val (.int .i64 0))),some (12, false)⟩,⟨some 15,.bin .neq 5 false true (.t 14) (.c (.val (.int .u8 48))),some
 (12, false)⟩,qo 16 12 15] []) (.cond (.t 16) (.seq (.reg false [qf 2] []) .ret) .skip)) (.seq (.seq (.reg false [qi 3 1] []) (.block 0 (.loop L84_0))) (.seq (.reg false [qt 2] []) .ret))),[.tmp 2]⟩
def L85_0 : CC := (.seq (.seq (.reg false [qm 6 5,qm 7 0,qe 8 7,qz 9 6 8] []) (.cond (.t 9) .skip (.exit 0))) (.seq (.block 1 (.seq (.reg false [qm 12 0,qm 13 5,qx 14 12 13,ql 15 14,qm 16 1,⟨some 17,.bin .eql 9 false false (.t 15) (.t 16),none⟩] [])
 (.cond (.t 17) (.seq (.reg false [qt 4] []) .ret) .skip))) (.reg false [qm 10 5,qs 11 10,qm 5 11] [])))
def c85 : CF := ⟨.seq (.reg false [qf 4] []) (.seq (.seq (.reg false [qi 5 0] []) (.block 0 (.loop L85_0))) (.seq (.reg false [qf 4] []) .ret)),[.tmp 4]⟩
def L86_0 : CC := (.seq (.seq (.reg false [qm 6 5,qm 7 0,⟨some 8,.len true (.t 7),none⟩,qz 9 6 8,qm 10 9,qmT 11 5 10,qmT 12 1 10,⟨some 13,.len true (.t 12),some (10, true)⟩,⟨some 14,.bin .lss 3 false false (.t 11) (.t 13),some (10, true)⟩,qp 15 10
 14] []) (.cond (.t 15) .skip (.exit 0))) (.seq (.block 1 (.seq (.seq (.reg true [qm 18 0,qm 19 5,⟨some 20,.ixs (.t 18) (.t 19),none⟩,qm 21 1,qm 22 5,⟨some 23,.ixs (.t 21) (.t 22),none⟩,⟨some 24,.bin .lss 5 false false (.t 20) (.t 23),none⟩] [])
 (.cond (.t 24) (.seq (.reg false [⟨some 4,.mv (.c (.val (.int .i64 (-1)))),none⟩] []) .ret) .skip)) (.seq (.reg true [qm 25 0,qm 26 5,⟨some 27,.ixs (.t 25) (.t 26),none⟩,qm 28 1,qm 29 5,⟨some 30,.ixs (.t 28) (.t 29),none⟩,⟨some 31,.bin .gtr 5 false
 false (.t 27) (.t 30),none⟩] []) (.cond (.t 31) (.seq (.reg false [qi 4 1] []) .ret) .skip)))) (.reg false [qm 16 5,qs 17 16,qm 5 17] [])))
def c86 : CF := ⟨.seq (.reg false [qi 4 0] []) (.seq (.seq (.reg false [qi 5 0] []) (.block 0 (.loop L86_0))) (.seq (.seq (.reg false [qm 32 0,⟨some 33,.len true (.t 32),none⟩,qm 34 1,⟨some 35,.len true (.t 34),none⟩,qz 36 33 35] []) (.cond (.t 36)
 (.seq (.reg false [⟨some 4,.mv (.c (.val (.int .i64 (-1)))),none⟩] []) .ret) .skip)) (.seq (.seq (.reg false [qm 37 0,⟨some 38,.len true (.t 37),none⟩,qm 39 1,⟨some 40,.len true (.t 39),none⟩,⟨some 41,.bin .gtr 3 false false (.t 38) (.t 40),none⟩]
 []) (.cond (.t 41) (.seq (.reg false [qi 4 1] []) .ret) .skip)) (.seq (.reg false [qi 4 0] []) .ret)))),[.tmp 4]⟩
def L87_0 : CC := (.seq (.seq (.reg false [qm 10 6,qm 11 1,qe 12 11,qz 13 10 12] []) (.cond (.t 13) .skip (.exit 0))) (.seq (.block 1 (.reg true [qm 16 5,qm 17 1,qm 18 6,⟨some 19,.ias 2 (.t 17) (.t 18),none⟩,qa 20 0 19,ql 21 20,qm 22 5,qm 23 1,qm 24
 6,⟨some 25,.ias 2 (.t 23) (.t 24),none⟩,qa 26 0 25,ql 27 26,qk 28 124 22 27,qm 29 1,qm 30 6,⟨some 31,.ias 2 (.t 29) (.t 30),none⟩,qa 32 1 31,ql 33 32,⟨some 34,.fun_ .max #[3,3] 3 [.t 28,.t 33],none⟩,⟨some 35,.call (.c (.fn 123 [])) [.t 16,.t 21,.t
 34],none⟩,qm 5 35] [(5, 12),(12, 17)])) (.reg false [qm 14 6,qs 15 14,qm 6 15] [])))
def c87 : CF := ⟨.seq (.reg false [qj 4] []) (.seq (.reg false [⟨some 7,.bsl 2 0 [] [],none⟩,qm 8 0,⟨some 9,.app 2 (.t 7) (.t 8),none⟩,qm 5 9] []) (.seq (.seq (.reg false [qi 6 0] []) (.block 0 (.loop L87_0))) (.seq (.reg false [qm 36 5,qm 4 36] [])
 .ret))),[.tmp 4]⟩
def L88_0 : CC := (.seq (.seq (.reg false [qm 6 5,qm 7 0,qe 8 7,qz 9 6 8] []) (.cond (.t 9) .skip (.exit 0))) (.seq (.block 1 (.seq (.reg false [qm 12 0,qm 13 5,⟨some 14,.ias 2 (.t 12) (.t 13),none⟩,qa 15 0 14,ql 16 15,qm 17 1,⟨some 18,.bin .eql 9
 false false (.t 16) (.t 17),none⟩] []) (.cond (.t 18) (.seq (.reg false [qm 19 0,qm 20 5,⟨some 21,.ias 2 (.t 19) (.t 20),none⟩,qa 22 1 21,ql 23 22,qm 4 23] []) .ret) .skip))) (.reg false [qm 10 5,qs 11 10,qm 5 11] [])))
def c88 : CF := ⟨.seq (.reg false [qj 4] []) (.seq (.seq (.reg false [qi 5 0] []) (.block 0 (.loop L88_0))) (.seq (.reg false [qj 4] []) .ret)),[.tmp 4]⟩
def L89_0 : CC := (.seq (.seq (.reg false [qm 7 6,qm 8 0,qe 9 8,qz 10 7 9] []) (.cond (.t 10) .skip (.exit 0))) (.seq (.block 1 (.seq (.reg false [qm 13 0,qm 14 6,⟨some 15,.ias 2 (.t 13) (.t 14),none⟩,qa 16 0 15,ql 17 16,qm 18 1,⟨some 19,.bin .neq 9
 false false (.t 17) (.t 18),none⟩] []) (.cond (.t 19) (.reg false [qm 20 5,qm 21 0,qm 22 6,⟨some 23,.ias 2 (.t 21) (.t 22),none⟩,⟨some 24,.ld 2 true (.t 23),none⟩,⟨some 25,.bsl 2 1 [.val (.string ⟨#[]⟩),.im [] true] [(0, 2, (.t 24))],none⟩,⟨some
 26,.app 2 (.t 20) (.t 25),none⟩,qm 5 26] []) .skip))) (.reg false [qm 11 6,qs 12 11,qm 6 12] [])))
def c89 : CF := ⟨.seq (.reg false [qj 4] []) (.seq (.reg false [qj 5] []) (.seq (.seq (.reg false [qi 6 0] []) (.block 0 (.loop L89_0))) (.seq (.reg false [qm 27 5,qm 4 27] []) .ret))),[.tmp 4]⟩
def L90_0 : CC := (.seq (.seq (.reg false [qm 10 6,qm 11 1,qe 12 11,qz 13 10 12] []) (.cond (.t 13) .skip (.exit 0))) (.seq (.block 1 (.reg true [qm 16 5,qm 17 1,qm 18 6,⟨some 19,.ias 3 (.t 17) (.t 18),none⟩,qa 20 0 19,ql 21 20,qm 22 5,qm 23 1,qm 24
 6,⟨some 25,.ias 3 (.t 23) (.t 24),none⟩,qa 26 0 25,ql 27 26,qk 28 127 22 27,qm 29 1,qm 30 6,⟨some 31,.ias 3 (.t 29) (.t 30),none⟩,qa 32 1 31,⟨some 33,.ld 2 true (.t 32),none⟩,qk 34 126 28 33,⟨some 35,.call (.c (.fn 125 [])) [.t 16,.t 21,.t
 34],none⟩,qm 5 35] [(5, 12),(12, 17),(5, 18)])) (.reg false [qm 14 6,qs 15 14,qm 6 15] [])))
def c90 : CF := ⟨.seq (.reg false [qj 4] []) (.seq (.reg false [⟨some 7,.bsl 3 0 [] [],none⟩,qm 8 0,⟨some 9,.app 3 (.t 7) (.t 8),none⟩,qm 5 9] []) (.seq (.seq (.reg false [qi 6 0] []) (.block 0 (.loop L90_0))) (.seq (.reg false [qm 36 5,qm 4 36] [])
 .ret))),[.tmp 4]⟩
def L91_0 : CC := (.seq (.seq (.reg false [qm 5 4,qm 6 0,qe 7 6,qz 8 5 7] []) (.cond (.t 8) .skip (.exit 0))) (.seq (.block 1 (.reg true [qm 11 3,qm 12 0,qm 13 4,⟨some 14,.ias 2 (.t 12) (.t 13),none⟩,qa 15 0 14,ql 16 15,qm 17 0,qm 18 4,⟨some 19,.ias
 2 (.t 17) (.t 18),none⟩,qa 20 1 19,ql 21 20,⟨some 22,.build [.val (.int .i64 0),.im [] true] [(0, 1, (.t 21))],none⟩,⟨some 23,.build [.val (.string ⟨#[]⟩),.val (.int .i64 0),.im [] true] [(0, 1, (.t 16)),(1, 2, (.t 22))],none⟩,⟨some 24,.bsl 3 1
 [.val (.string ⟨#[]⟩),.val (.int .i64 0),.im [] true] [(0, 3, (.t 23))],none⟩,⟨some 25,.app 3 (.t 11) (.t 24),none⟩,qm 3 25] [])) (.reg false [qm 9 4,qs 10 9,qm 4 10] [])))
def c91 : CF := ⟨.seq (.reg false [qj 2] []) (.seq (.reg false [qj 3] []) (.seq (.seq (.reg false [qi 4 0] []) (.block 0 (.loop L91_0))) (.seq (.reg false [qm 26 3,qm 2 26] []) .ret))),[.tmp 2]⟩
def c92 : CF := ⟨.seq (.reg false [⟨some 1,.box (.t 0),none⟩,qf 2] []) (.seq (.seq (.reg false [qa 3 0 1,ql 4 3] []) (.block 0 (.seq (.reg false [qq 6 4 2,qm 5 6] []) (.cond (.t 5) (.seq (.reg false [qa 7 1 1,ql 8 7,qc 9 29 8,qm 10 9,qaT 11 2 1
 10,qlT 12 11 10,⟨some 13,.call (.c (.fn 67 [])) [.t 12,.c (.val (.float .f64 0)),.c (.val (.float .f64 4656510908468559872))],some (10, true)⟩,qp 14 10 13,qm 2 14] []) .ret) (.seq (.reg false [qq 16 4 3,qm 15 16] []) (.cond (.t 15) (.seq (.reg
 false [qa 17 1 1,ql 18 17,qc 19 29 18,qm 20 19,qaT 21 2 1 20,qlT 22 21 20,⟨some 23,.call (.c (.fn 67 [])) [.t 22,.c (.val (.float .f64 13924712783166832640)),.c (.val (.float .f64 4701340746312056832))],some (20, true)⟩,qp 24 20 23,qm 2 24] [])
 .ret) (.seq (.seq (.reg false [qq 26 4 1,qm 25 26] []) (.cond (.t 25) .skip (.seq (.reg false [qq 27 4 4,qm 25 27] []) (.cond (.t 25) .skip (.seq (.reg false [qq 28 4 5,qm 25 28] []) (.cond (.t 25) .skip (.reg false [qq 29 4 6,qm 25 29] [])))))))
 (.cond (.t 25) (.seq (.reg false [qa 30 1 1,ql 31 30,⟨some 32,.bin .eql 50 false true (.t 31) (.c (.val (.complex .f64 0 0))),none⟩,qm 33 32,qaT 34 2 1 33,qlT 35 34 33,⟨some 36,.bin .eql 97 false true (.t 35) (.c (.val (.float .f64 0))),some (33,
 true)⟩,qp 37 33 36,qm 2 37] []) .ret) .skip)))))))) (.seq (.reg false [qf 2] []) .ret)),[.tmp 2]⟩
def c93 : CF := ⟨.seq (.reg false [qf 4] []) (.seq (.reg false [qm 5 0,qm 6 1,⟨some 7,.un .neg (.t 6),none⟩,⟨some 8,.bin .geq 3 false false (.t 5) (.t 7),none⟩,qm 9 8,qmT 10 0 9,qmT 11 1 9,⟨some 12,.bin .leq 3 false false (.t 10) (.t 11),some (9,
 true)⟩,qp 13 9 12,qm 4 13] []) .ret),[.tmp 4]⟩
def c94 : CF := ⟨.seq (.reg false [qj 6] []) (.seq (.seq (.reg false [qm 7 1,qc 8 84 7,qb 9 8] []) (.cond (.t 9) (.seq (.reg false [⟨some 10,.bsl 3 0 [] [],none⟩,qm 11 0,⟨some 12,.app 3 (.t 10) (.t 11),none⟩,qm 6 12] []) .ret) .skip)) (.seq (.reg
 false [qm 13 0,qm 14 1,qm 15 0,qm 16 1,qk 17 127 15 16,qm 18 2,qk 19 128 17 18,⟨some 20,.call (.c (.fn 125 [])) [.t 13,.t 14,.t 19],none⟩,qm 6 20] []) .ret)),[.tmp 6]⟩
def L95_0 : CC := (.seq (.seq (.reg true [qm 61 9,⟨some 62,.bin .gtr 3 false true (.t 61) (.c (.val (.int .i64 0))),none⟩,qm 63 62,qmT 64 8 63,qmT 65 9 63,⟨some 66,.bin .sub 3 false true (.t 65) (.c (.val (.int .i64 1))),some (63, true)⟩,⟨some
 67,.ias 9 (.t 64) (.t 66),some (63, true)⟩,qaT 68 0 67 63,qlT 69 68 63,qmT 70 8 63,qmT 71 9 63,⟨some 72,.ias 9 (.t 70) (.t 71),some (63, true)⟩,qaT 73 0 72 63,qlT 74 73 63,⟨some 75,.bin .gtr 3 false false (.t 69) (.t 74),some (63, true)⟩,qp 76 63
 75] []) (.cond (.t 76) .skip (.exit 0))) (.seq (.block 1 (.reg true [qm 79 8,qm 80 9,⟨some 81,.bin .sub 3 false true (.t 80) (.c (.val (.int .i64 1))),none⟩,qm 82 8,qm 83 9,qm 84 8,qm 85 9,⟨some 86,.ias 9 (.t 84) (.t 85),none⟩,⟨some 87,.ld 9 true
 (.t 86),none⟩,qm 88 8,qm 89 9,⟨some 90,.bin .sub 3 false true (.t 89) (.c (.val (.int .i64 1))),none⟩,⟨some 91,.ias 9 (.t 88) (.t 90),none⟩,⟨some 92,.ld 9 true (.t 91),none⟩,⟨some 93,.ias 9 (.t 79) (.t 81),none⟩,qw 9 93 87,⟨some 94,.ias 9 (.t 82)
 (.t 83),none⟩,qw 9 94 92] [])) (.reg false [qm 77 9,⟨some 78,.bin .sub 3 false true (.t 77) (.c (.val (.int .i64 1))),none⟩,qm 9 78] [])))
def c95 : CF := ⟨.seq (.reg false [⟨some 3,.box (.t 1),none⟩,qj 4,qf 5] []) (.seq (.reg false [qm 11 0,qa 12 0 3,ql 13 12,qk 14 52 11 13,qm 10 14,⟨some 15,.ext (.t 10) 0,none⟩,⟨some 16,.ext (.t 10) 1,none⟩,⟨some 6,.alloc [.val (.int .i64 0),.val
 (.string ⟨#[]⟩),.val (.int .i64 0),.val (.int .i64 0),.val (.bool false),.val (.int .i64 0),.val (.int .i64 0),.val (.string ⟨#[]⟩),.val (.bool false)],none⟩,qw 9 6 15,qm 7 16] []) (.seq (.seq (.reg false [qm 17 7,qm 18 17,qaT 19 1 6 18,⟨some
 20,.ld 3 true (.t 19),some (18, true)⟩,qaT 21 1 3 18,⟨some 22,.ld 3 true (.t 21),some (18, true)⟩,⟨some 23,.bin .eql 128 false false (.t 20) (.t 22),some (18, true)⟩,qmT 24 23 18,qaT 25 8 6 24,qlT 26 25 24,qmT 27 26 24,qaF 28 8 3 27,qlF 29 28
 27,qbF 30 29 27,⟨some 31,.pick (.t 27) (.c (.val (.bool true))) (.t 30),some (24, true)⟩,⟨some 32,.pick (.t 24) (.t 31) (.c (.val (.bool false))),some (18, true)⟩,qmT 33 32 18,qaF 34 1 6 33,⟨some 35,.ld 3 true (.t 34),some (33, false)⟩,qaF 36 1 3
 33,⟨some 37,.ld 3 true (.t 36),some (33, false)⟩,⟨some 38,.bin .neq 128 false false (.t 35) (.t 37),some (33, false)⟩,qmF 39 38 33,qaT 40 1 6 39,⟨some 41,.ld 3 true (.t 40),some (39, true)⟩,qaT 42 1 3 39,⟨some 43,.ld 3 true (.t 42),some (39,
 true)⟩,qkT 44 129 41 43 39,⟨some 45,.pick (.t 39) (.t 44) (.c (.val (.bool false))),some (33, false)⟩,⟨some 46,.pick (.t 33) (.c (.val (.bool true))) (.t 45),some (18, true)⟩,qp 47 18 46] []) (.cond (.t 47) (.seq (.reg false [⟨some 48,.bsl 9 0 []
 [],none⟩,qm 49 0,⟨some 50,.app 9 (.t 48) (.t 49),none⟩,qm 4 50,qf 5] []) .ret) .skip)) (.seq (.reg true [qm 51 0,qa 52 0 3,ql 53 52,qk 54 130 51 53,⟨some 55,.ld 9 true (.t 3),none⟩,⟨some 56,.bsl 9 1 [.val (.int .i64 0),.val (.string ⟨#[]⟩),.val
 (.int .i64 0),.val (.int .i64 0),.val (.bool false),.val (.int .i64 0),.val (.int .i64 0),.val (.string ⟨#[]⟩),.val (.bool false)] [(0, 9, (.t 55))],none⟩,⟨some 57,.app 9 (.t 54) (.t 56),none⟩,qm 8 57] [(3, 4),(2, 5),(3, 5)]) (.seq (.seq (.reg
 false [qm 58 8,qe 59 58,⟨some 60,.bin .sub 3 false true (.t 59) (.c (.val (.int .i64 1))),none⟩,qm 9 60] []) (.block 0 (.loop L95_0))) (.seq (.reg false [qm 95 8,qm 4 95,qt 5] []) .ret))))),[.tmp 4,.tmp 5]⟩
def L96_0 : CC := (.seq (.seq (.reg false [qm 20 5,qa 21 1 2,ql 22 21,qe 23 22,qz 24 20 23] []) (.cond (.t 24) .skip (.exit 0))) (.seq (.block 1 (.seq (.reg true [qa 27 1 2,ql 28 27,qm 29 5,qx 30 28 29,ql 31 30,qa 32 1 3,ql 33 32,qm 34 5,qx 35 33
 34,ql 36 35,⟨some 37,.bin .neq 3 false false (.t 31) (.t 36),none⟩] []) (.cond (.t 37) (.seq (.reg false [qf 4] []) .ret) .skip))) (.reg false [qm 25 5,qs 26 25,qm 5 26] [])))
def c96 : CF := ⟨.seq (.reg false [⟨some 2,.box (.t 0),none⟩,⟨some 3,.box (.t 1),none⟩,qf 4] []) (.seq (.seq (.reg false [qa 6 0 2,ql 7 6,qa 8 0 3,ql 9 8,⟨some 10,.bin .neq 3 false false (.t 7) (.t 9),none⟩,qm 11 10,qaF 12 1 2 11,qlF 13 12 11,⟨some
 14,.len false (.t 13),some (11, false)⟩,qaF 15 1 3 11,qlF 16 15 11,⟨some 17,.len false (.t 16),some (11, false)⟩,⟨some 18,.bin .neq 3 false false (.t 14) (.t 17),some (11, false)⟩,qo 19 11 18] []) (.cond (.t 19) (.seq (.reg false [qf 4] []) .ret)
 .skip)) (.seq (.seq (.reg false [qi 5 0] []) (.block 0 (.loop L96_0))) (.seq (.reg false [qt 4] []) .ret))),[.tmp 4]⟩
def c97 : CF :=  ⟨.seq (.reg false [⟨some 1,.box (.t 0),none⟩,⟨some 2,.alloc [.val (.int .i64 0),.val (.string ⟨#[]⟩),.val (.int .i64 0),.val (.int .i64 0),.val (.bool false),.val (.int .i64 0),.val (.int .i64 0),.val (.string ⟨#[]⟩),.val (.bool
 false)],none⟩] []) (.seq (.reg true [qa 3 0 1,ql 4 3,qa 5 1 1,qa 6 0 5,ql 7 6,qa 8 1 1,qa 9 1 8,ql 10 9,qa 11 1 1,qa 12 2 11,ql 13 12,⟨some 14,.build [.val (.string ⟨#[]⟩),.val (.int .i64 0),.val (.int .i64 0)] [(0, 1, (.t 7)),(1, 1, (.t 10)),(2,
 1, (.t 13))],none⟩,qa 15 4 1,ql 16 15,qa 17 5 1,ql 18 17,qc 19 98 18,qa 20 6 1,ql 21 20,qa 22 7 1,ql 23 22,⟨some 24,.build [.val (.int .i64 0),.val (.string ⟨#[]⟩),.val (.int .i64 0),.val (.int .i64 0),.val (.bool false),.val (.int .i64 0),.val
 (.int .i64 0),.val (.string ⟨#[]⟩),.val (.bool false)] [(0, 1, (.t 4)),(1, 3, (.t 14)),(4, 1, (.t 16)),(5, 2, (.t 19)),(7, 1, (.t 21)),(8, 1, (.t 23))],none⟩,qw 9 2 24] [(1, 16),(4, 16),(7, 16),(10, 16),(13, 16),(16, 18),(16, 20)]) .ret),[.cell 2 9 true]⟩
def c98 : CF := ⟨.seq (.reg false [⟨some 2,.alloc [.val (.int .i64 0),.val (.int .i64 0)],none⟩] []) (.seq (.reg false [qm 3 0,⟨some 4,.fun_ .real #[50] 97 [.t 3],none⟩,⟨some 5,.cv 97 3 (.t 4),none⟩,qm 6 0,⟨some 7,.fun_ .imag #[50] 97 [.t
 6],none⟩,⟨some 8,.cv 97 3 (.t 7),none⟩,⟨some 9,.build [.val (.int .i64 0),.val (.int .i64 0)] [(0, 1, (.t 5)),(1, 1, (.t 8))],none⟩,qw 2 2 9] []) .ret),[.cell 2 2 true]⟩
def c99 : CF := ⟨.seq (.reg false [qi 4 0,qf 5] []) (.seq (.reg false [qm 6 0,qm 7 1,⟨some 8,.build [.val (.int .i64 0),.val (.string ⟨#[]⟩),.val (.int .i64 0),.val (.int .i64 0),.val (.bool false),.val (.complex .f64 0 0),.val (.string ⟨#[]⟩),.val
 (.bool false)] [(0, 1, (.t 7))],none⟩,⟨some 9,.call (.c (.fn 131 [])) [.t 6,.t 8,.c (.fn 132 [])],none⟩,⟨some 10,.ext (.t 9) 0,none⟩,⟨some 11,.ext (.t 9) 1,none⟩,qm 4 10,qm 5 11] []) .ret),[.tmp 4,.tmp 5]⟩
def c100 : CF := ⟨.seq (.reg false [⟨some 2,.box (.t 0),none⟩,⟨some 4,.alloc [.val (.int .i64 0),.im [] true],none⟩] []) (.seq (.seq (.reg false [qm 5 1,⟨some 6,.bin .lss 3 false true (.t 5) (.c (.val (.int .i64 1))),none⟩,qm 7 6,qmF 8 1 7,⟨some
 9,.bin .gtr 3 false true (.t 8) (.c (.val (.int .i64 1048576))),some (7, false)⟩,qo 10 7 9] []) (.cond (.t 10) (.seq (.reg true [qa 11 0 2,ql 12 11,qa 13 1 2,ql 14 13,qc 15 106 14,⟨some 16,.build [.val (.int .i64 0),.im [] true] [(0, 1, (.t
 12)),(1, 1, (.t 15))],none⟩,qw 2 4 16] [(1, 4)]) .ret) .skip)) (.seq (.reg false [⟨some 17,.ld 2 true (.t 2),none⟩,qm 18 1,⟨some 19,.bsl 1 1 [.val (.int .i64 0)] [(0, 1, (.t 18))],none⟩,⟨some 20,.build [.val (.int .i64 0),.im [] true] [(1, 1, (.t
 19))],none⟩,qk 21 110 17 20,qw 2 4 21] []) .ret)),[.cell 4 2 true]⟩
def c101 : CF := ⟨.seq (.reg false [qj 6] []) (.seq (.reg false [qm 10 0,qm 11 1,⟨some 12,.slc 8 (.t 10) (some (.t 11)) none none,none⟩] []) (.seq (.reg false [qm 13 2,qe 14 13,qm 7 14] []) (.seq (.seq (.reg false [qm 15 7,qq 16 15 0] []) (.cond (.t
 16) (.seq (.reg false [qm 17 0,qm 6 17] []) .ret) .skip)) (.seq (.reg false [qm 18 0,qe 19 18,qm 8 19] []) (.seq (.seq (.reg false [qm 20 1,qm 21 8,⟨some 22,.bin .eql 3 false false (.t 20) (.t 21),none⟩] []) (.cond (.t 22) (.seq (.reg false [qm 23
 0,qm 24 2,⟨some 25,.app 8 (.t 23) (.t 24),none⟩,qm 6 25] []) .ret) .skip)) (.seq (.seq (.reg false [qm 26 8,qm 27 7,⟨some 28,.bin .add 3 false false (.t 26) (.t 27),none⟩,qm 29 0,⟨some 30,.bad,none⟩,⟨some 31,.bin .gtr 3 false false (.t 28) (.t
 30),none⟩] []) (.cond (.t 31) (.seq (.reg false [qm 32 0,qm 33 1,⟨some 34,.slc 8 (.t 32) none (some (.t 33)) none,none⟩,qm 35 8,qm 36 7,⟨some 37,.bin .add 3 false false (.t 35) (.t 36),none⟩,qm 38 1,⟨some 39,.bin .sub 3 false false (.t 37) (.t
 38),none⟩,⟨some 40,.bad,none⟩,qm 9 40] []) (.seq (.reg false [qm 41 9,qm 42 1,⟨some 43,.slc 8 (.t 41) (some (.t 42)) none none,none⟩,qm 44 2,⟨some 45,.copy 8 (.t 43) (.t 44),none⟩] []) (.seq (.reg true [qm 46 9,qm 47 1,qm 48 7,⟨some 49,.bin .add 3
 false false (.t 47) (.t 48),none⟩,⟨some 50,.slc 8 (.t 46) (some (.t 49)) none none,none⟩,qm 51 0,qm 52 1,⟨some 53,.slc 8 (.t 51) (some (.t 52)) none none,none⟩,⟨some 54,.copy 8 (.t 50) (.t 53),none⟩] []) (.seq (.reg false [qm 55 9,qm 6 55] [])
 .ret)))) .skip)) (.seq (.reg false [qm 56 0,qm 57 8,qm 58 7,⟨some 59,.bin .add 3 false false (.t 57) (.t 58),none⟩,⟨some 60,.slc 8 (.t 56) none (some (.t 59)) none,none⟩,qm 0 60] []) (.seq (.seq (.reg false [qm 61 2,qm 62 0,qm 63 1,qm 64 7,⟨some
 65,.bin .add 3 false false (.t 63) (.t 64),none⟩,⟨some 66,.slc 8 (.t 62) (some (.t 65)) none none,none⟩,qk 67 133 61 66,qb 68 67] []) (.cond (.t 68) (.seq (.reg true [qm 69 0,qm 70 1,qm 71 7,⟨some 72,.bin .add 3 false false (.t 70) (.t
 71),none⟩,⟨some 73,.slc 8 (.t 69) (some (.t 72)) none none,none⟩,qm 74 0,qm 75 1,⟨some 76,.slc 8 (.t 74) (some (.t 75)) none none,none⟩,⟨some 77,.copy 8 (.t 73) (.t 76),none⟩] []) (.seq (.reg false [qm 78 0,qm 79 1,⟨some 80,.slc 8 (.t 78) (some (.t
 79)) none none,none⟩,qm 81 2,⟨some 82,.copy 8 (.t 80) (.t 81),none⟩] []) (.seq (.reg false [qm 83 0,qm 6 83] []) .ret))) .skip)) (.seq (.reg false [qm 84 0,qm 85 8,⟨some 86,.slc 8 (.t 84) (some (.t 85)) none none,none⟩,qm 87 2,⟨some 88,.copy 8 (.t
 86) (.t 87),none⟩] []) (.seq (.reg false [qm 89 0,qm 90 1,⟨some 91,.slc 8 (.t 89) (some (.t 90)) none none,none⟩,qm 92 7,qk 93 134 91 92] []) (.seq (.reg false [qm 94 0,qm 6 94] []) .ret))))))))))),[.tmp 6]⟩
def c102 : CF := ⟨.seq (.reg false [⟨some 2,.box (.t 0),none⟩,⟨some 3,.box (.t 1),none⟩,qf 4] []) (.seq (.seq (.reg false [qa 5 1 2,⟨some 6,.ld 3 true (.t 5),none⟩,qa 7 1 3,⟨some 8,.ld 3 true (.t 7),none⟩,⟨some 9,.bin .eql 89 false false (.t 6) (.t
 8),none⟩] []) (.cond (.t 9) (.seq (.reg false [qa 10 7 3,ql 11 10,qm 12 11,qaT 13 7 2 12,qlT 14 13 12,⟨some 15,.un .not (.t 14),some (12, true)⟩,qp 16 12 15,qm 4 16] []) .ret) .skip)) (.seq (.reg false [qa 17 1 2,⟨some 18,.ld 3 true (.t
 17),none⟩,qa 19 1 3,⟨some 20,.ld 3 true (.t 19),none⟩,qk 21 135 18 20,qb 22 21,qm 4 22] []) .ret)),[.tmp 4]⟩
def c103 : CF := ⟨.seq (.reg false [⟨some 2,.mv (.c (.val (.float .f64 0))),none⟩] []) (.seq (.cond (.c (.val (.bool true))) (.seq (.reg false [qm 3 0,qc 4 136 3,qm 2 4] []) .ret) .skip) (.seq (.reg false [qm 5 0,qc 6 137 5,qm 2 6] []) .ret)),[.tmp 2]⟩
def c104 : CF := ⟨.seq (.reg false [⟨some 4,.mv (.c (.val (.float .f64 0))),none⟩] []) (.seq (.reg false [qm 5 0,qm 6 1,qc 7 138 6,⟨some 8,.bin .mul 50 false false (.t 5) (.t 7),none⟩,⟨some 9,.fun_ .real #[50] 97 [.t 8],none⟩,qm 4 9] []) .ret),[.tmp 4]⟩
def c107 : CF := ⟨.seq (.reg false [⟨some 1,.box (.t 0),none⟩,qi 2 0] []) (.seq (.reg false [qa 3 0 1,ql 4 3,qa 5 1 1,ql 6 5,qe 7 6,⟨some 8,.bin .add 3 false false (.t 4) (.t 7),none⟩,qm 2 8] []) .ret),[.tmp 2]⟩
def c108 : CF := ⟨.seq (.reg false [qi 4 0,qf 5] []) (.seq (.reg false [qm 6 0,qm 7 1,⟨some 8,.build [.val (.string ⟨#[]⟩),.val (.int .i64 0),.im [] true] [(0, 1, (.t 7))],none⟩,⟨some 9,.call (.c (.fn 139 [])) [.t 6,.t 8,.c (.fn 140 [])],none⟩,⟨some
 10,.ext (.t 9) 0,none⟩,⟨some 11,.ext (.t 9) 1,none⟩,qm 4 10,qm 5 11] []) .ret),[.tmp 4,.tmp 5]⟩
def c109 : CF := ⟨.seq (.reg false [qj 6] []) (.seq (.reg false [qm 10 0,qm 11 1,⟨some 12,.slc 3 (.t 10) (some (.t 11)) none none,none⟩] []) (.seq (.reg false [qm 13 2,qe 14 13,qm 7 14] []) (.seq (.seq (.reg false [qm 15 7,qq 16 15 0] []) (.cond (.t
 16) (.seq (.reg false [qm 17 0,qm 6 17] []) .ret) .skip)) (.seq (.reg false [qm 18 0,qe 19 18,qm 8 19] []) (.seq (.seq (.reg false [qm 20 1,qm 21 8,⟨some 22,.bin .eql 3 false false (.t 20) (.t 21),none⟩] []) (.cond (.t 22) (.seq (.reg false [qm 23
 0,qm 24 2,⟨some 25,.app 3 (.t 23) (.t 24),none⟩,qm 6 25] []) .ret) .skip)) (.seq (.seq (.reg false [qm 26 8,qm 27 7,⟨some 28,.bin .add 3 false false (.t 26) (.t 27),none⟩,qm 29 0,⟨some 30,.bad,none⟩,⟨some 31,.bin .gtr 3 false false (.t 28) (.t
 30),none⟩] []) (.cond (.t 31) (.seq (.reg false [qm 32 0,qm 33 1,⟨some 34,.slc 3 (.t 32) none (some (.t 33)) none,none⟩,qm 35 8,qm 36 7,⟨some 37,.bin .add 3 false false (.t 35) (.t 36),none⟩,qm 38 1,⟨some 39,.bin .sub 3 false false (.t 37) (.t
 38),none⟩,⟨some 40,.bad,none⟩,qm 9 40] []) (.seq (.reg false [qm 41 9,qm 42 1,⟨some 43,.slc 3 (.t 41) (some (.t 42)) none none,none⟩,qm 44 2,⟨some 45,.copy 3 (.t 43) (.t 44),none⟩] []) (.seq (.reg true [qm 46 9,qm 47 1,qm 48 7,⟨some 49,.bin .add 3
 false false (.t 47) (.t 48),none⟩,⟨some 50,.slc 3 (.t 46) (some (.t 49)) none none,none⟩,qm 51 0,qm 52 1,⟨some 53,.slc 3 (.t 51) (some (.t 52)) none none,none⟩,⟨some 54,.copy 3 (.t 50) (.t 53),none⟩] []) (.seq (.reg false [qm 55 9,qm 6 55] [])
 .ret)))) .skip)) (.seq (.reg false [qm 56 0,qm 57 8,qm 58 7,⟨some 59,.bin .add 3 false false (.t 57) (.t 58),none⟩,⟨some 60,.slc 3 (.t 56) none (some (.t 59)) none,none⟩,qm 0 60] []) (.seq (.seq (.reg false [qm 61 2,qm 62 0,qm 63 1,qm 64 7,⟨some
 65,.bin .add 3 false false (.t 63) (.t 64),none⟩,⟨some 66,.slc 3 (.t 62) (some (.t 65)) none none,none⟩,qk 67 141 61 66,qb 68 67] []) (.cond (.t 68) (.seq (.reg true [qm 69 0,qm 70 1,qm 71 7,⟨some 72,.bin .add 3 false false (.t 70) (.t
 71),none⟩,⟨some 73,.slc 3 (.t 69) (some (.t 72)) none none,none⟩,qm 74 0,qm 75 1,⟨some 76,.slc 3 (.t 74) (some (.t 75)) none none,none⟩,⟨some 77,.copy 3 (.t 73) (.t 76),none⟩] []) (.seq (.reg false [qm 78 0,qm 79 1,⟨some 80,.slc 3 (.t 78) (some (.t
 79)) none none,none⟩,qm 81 2,⟨some 82,.copy 3 (.t 80) (.t 81),none⟩] []) (.seq (.reg false [qm 83 0,qm 6 83] []) .ret))) .skip)) (.seq (.reg false [qm 84 0,qm 85 8,⟨some 86,.slc 3 (.t 84) (some (.t 85)) none none,none⟩,qm 87 2,⟨some 88,.copy 3 (.t
 86) (.t 87),none⟩] []) (.seq (.reg false [qm 89 0,qm 90 1,⟨some 91,.slc 3 (.t 89) (some (.t 90)) none none,none⟩,qm 92 7,qk 93 142 91 92] []) (.seq (.reg false [qm 94 0,qm 6 94] []) .ret))))))))))),[.tmp 6]⟩
def c110 : CF := ⟨.seq (.reg false [⟨some 2,.box (.t 0),none⟩,⟨some 3,.box (.t 1),none⟩,⟨some 4,.alloc [.val (.int .i64 0),.im [] true],none⟩] []) (.seq (.reg false [qa 6 1 2,ql 7 6,qa 8 1 3,ql 9 8,⟨some 10,.bsl 1 2 [.im [] true,.im [] true] [(0, 1,
 (.t 7)),(1, 1, (.t 9))],none⟩,qc 11 143 10,qm 5 11] []) (.seq (.reg false [qm 12 5,qc 13 144 12] []) (.seq (.reg true [qa 14 0 2,ql 15 14,qa 16 0 3,ql 17 16,⟨some 18,.fun_ .max #[3,3] 3 [.t 15,.t 17],none⟩,qm 19 5,qc 20 146 19,qk 21 145 18 20,qw 2
 4 21] [(1, 6),(3, 6)]) .ret))),[.cell 4 2 true]⟩
def c111 : CF := ⟨.seq (.reg false [qf 4] []) (.seq (.reg false [qm 5 0,qm 6 1,qk 7 147 5 6,qm 4 7] []) .ret),[.tmp 4]⟩
def L112_0 : CC := (.seq (.reg false [qz 12 11 10] []) (.seq (.cond (.t 12) .skip (.exit 0)) (.seq (.block 1 (.seq (.reg false [qx 13 9 11,ql 14 13,qm 5 14] []) (.seq (.reg false [qm 15 3,qm 16 5,qe 17 16,⟨some 18,.bin .add 3 false false (.t 15) (.t
 17),none⟩,qm 3 18] []) (.seq (.reg false [qm 19 3,⟨some 20,.bin .lss 3 false true (.t 19) (.c (.val (.int .i64 0))),none⟩] []) (.cond (.t 20) (.reg false [⟨some 21,.bad,none⟩,⟨none,.bad,none⟩] []) .skip))))) (.reg false [qs 22 11,qm 11 22] []))))
def L112_1 : CC := (.seq (.reg false [qz 28 27 26] []) (.seq (.cond (.t 28) .skip (.exit 2)) (.seq (.block 3 (.seq (.reg false [qx 29 25 27,ql 30 29,qm 8 30] []) (.reg false [qm 31 6,qm 32 8,⟨some 33,.app 1 (.t 31) (.t 32),none⟩,qm 6 33] []))) (.reg
 false [qs 34 27,qm 27 34] []))))
def c112 : CF := ⟨.seq (.reg false [qj 2] []) (.seq (.reg false [qi 3 0] []) (.seq (.seq (.reg false [qm 9 0,qe 10 9,qi 11 0] []) (.block 0 (.loop L112_0))) (.seq (.reg false [qm 23 3,⟨some 24,.call (.c (.fn 148 [])) [.c (.im [] true),.t
 23],none⟩,qm 6 24] []) (.seq (.seq (.reg false [qm 25 0,qe 26 25,qi 27 0] []) (.block 2 (.loop L112_1))) (.seq (.reg false [qm 35 6,qm 2 35] []) .ret))))),[.tmp 2]⟩
def c113 : CF := ⟨.seq (.reg false [qm 5 0,qe 6 5,qm 4 6] []) (.reg false [qm 7 0,qm 8 4,qm 9 4,⟨some 10,.cv 3 238 (.t 9),none⟩,qc 11 150 10,qm 12 1,⟨some 13,.call (.c (.fn 149 [])) [.t 7,.c (.val (.int .i64 0)),.t 8,.t 11,.t 12],none⟩] []),[]⟩
def c114 : CF := ⟨.seq (.reg false [qi 4 0] []) (.seq (.reg false [qm 5 0,qm 6 1,qk 7 151 5 6,qm 4 7] []) .ret),[.tmp 4]⟩
def L115_0 : CC := (.seq (.seq (.reg false [qm 29 5,qm 30 4,qe 31 30,qz 32 29 31] []) (.cond (.t 32) .skip (.exit 2))) (.seq (.block 3 (.seq (.reg true [qm 35 4,qm 36 5,qx 37 35 36,ql 38 37,qm 39 4,qm 40 5,⟨some 41,.bin .sub 3 false true (.t 40) (.c
 (.val (.int .i64 1))),none⟩,qx 42 39 41,ql 43 42,⟨some 44,.bin .neq 23 false false (.t 38) (.t 43),none⟩] []) (.cond (.t 44) (.seq (.reg false [qm 45 0,qm 46 3,qm 47 4,qm 48 5,qx 49 47 48,ql 50 49,qx 51 45 46,qw 1 51 50] []) (.reg false [qm 52 3,qs
 53 52,qm 3 53] [])) .skip))) (.reg false [qm 33 5,qs 34 33,qm 5 34] [])))
def L115_1 : CC := (.seq (.seq (.reg false [qm 10 3,qm 11 0,qe 12 11,qz 13 10 12] []) (.cond (.t 13) .skip (.exit 0))) (.seq (.block 1 (.seq (.reg true [qm 16 0,qm 17 3,qx 18 16 17,ql 19 18,qm 20 0,qm 21 3,⟨some 22,.bin .sub 3 false true (.t 21) (.c
 (.val (.int .i64 1))),none⟩,qx 23 20 22,ql 24 23,⟨some 25,.bin .eql 23 false false (.t 19) (.t 24),none⟩] []) (.cond (.t 25) (.seq (.reg false [qm 26 0,qm 27 3,⟨some 28,.slc 1 (.t 26) (some (.t 27)) none none,none⟩,qm 4 28] []) (.seq (.seq (.reg
 false [qi 5 1] []) (.block 2 (.loop L115_0))) (.seq (.reg false [qm 54 0,qm 55 3,⟨some 56,.slc 1 (.t 54) (some (.t 55)) none none,none⟩,⟨none,.clr [.val (.string ⟨#[]⟩)] (.t 56),none⟩] []) (.seq (.reg false [qm 57 0,qm 58 3,⟨some 59,.slc 1 (.t 57)
 none (some (.t 58)) none,none⟩,qm 2 59] []) .ret)))) .skip))) (.reg false [qm 14 3,qs 15 14,qm 3 15] [])))
def c115 : CF := ⟨.seq (.reg false [qj 2] []) (.seq (.seq (.reg false [qm 6 0,qe 7 6,⟨some 8,.bin .lss 3 false true (.t 7) (.c (.val (.int .i64 2))),none⟩] []) (.cond (.t 8) (.seq (.reg false [qm 9 0,qm 2 9] []) .ret) .skip)) (.seq (.seq (.reg false
 [qi 3 1] []) (.block 0 (.loop L115_1))) (.seq (.reg false [qm 60 0,qm 2 60] []) .ret))),[.tmp 2]⟩
def L117_0 : CC := (.seq (.seq (.reg false [qm 15 9,qm 16 10,qz 17 15 16] []) (.cond (.t 17) .skip (.exit 0))) (.block 1 (.seq (.reg false [qm 18 9,qm 19 10,⟨some 20,.bin .add 3 false false (.t 18) (.t 19),none⟩,⟨some 21,.cv 3 238 (.t
 20),none⟩,⟨some 22,.bin .shr 238 false true (.t 21) (.c (.val (.int .u64 1))),none⟩,⟨some 23,.cv 238 3 (.t 22),none⟩,qm 11 23] []) (.seq (.reg true [qm 24 2,qm 25 0,qm 26 11,⟨some 27,.ias 2 (.t 25) (.t 26),none⟩,⟨some 28,.ld 2 true (.t
 27),none⟩,⟨some 29,.ld 2 true (.t 4),none⟩,⟨some 30,.call (.t 24) [.t 28,.t 29],none⟩,⟨some 31,.bin .lss 3 false true (.t 30) (.c (.val (.int .i64 0))),none⟩] []) (.cond (.t 31) (.reg false [qm 32 11,qs 33 32,qm 9 33] []) (.reg false [qm 34 11,qm
 10 34] []))))))
def c117 : CF := ⟨.seq (.reg false [⟨some 4,.box (.t 1),none⟩,qi 6 0,qf 7] []) (.seq (.reg false [qm 12 0,qe 13 12,qm 8 13] []) (.seq (.reg false [qm 14 8,qi 9 0,qm 10 14] []) (.seq (.block 0 (.loop L117_0)) (.seq (.reg true [qm 35 9,qm 36 9,qm 37
 8,qz 38 36 37,qm 39 38,qmT 40 2 39,qmT 41 0 39,qmT 42 9 39,⟨some 43,.ias 2 (.t 41) (.t 42),some (39, true)⟩,⟨some 44,.ld 2 true (.t 43),some (39, true)⟩,⟨some 45,.ld 2 true (.t 4),some (39, true)⟩,⟨some 46,.call (.t 40) [.t 44,.t 45],some (39,
 true)⟩,⟨some 47,.bin .eql 3 false true (.t 46) (.c (.val (.int .i64 0))),some (39, true)⟩,qp 48 39 47,qm 6 35,qm 7 48] []) .ret)))),[.tmp 6,.tmp 7]⟩
def c118 : CF := ⟨.seq (.reg false [⟨some 2,.box (.t 0),none⟩,⟨some 3,.box (.t 1),none⟩,qi 4 0] []) (.seq (.reg false [qa 5 0 2,ql 6 5,qa 7 0 3,ql 8 7,qk 9 114 6 8,qm 4 9] []) .ret),[.tmp 4]⟩
def c121 : CF := ⟨.seq (.reg false [qi 4 0,qf 5] []) (.seq (.reg false [qm 6 0,qm 7 1,⟨some 8,.build [.val (.string ⟨#[]⟩),.val (.int .i64 0)] [(0, 1, (.t 7))],none⟩,⟨some 9,.call (.c (.fn 153 [])) [.t 6,.t 8,.c (.fn 154 [])],none⟩,⟨some 10,.ext (.t
 9) 0,none⟩,⟨some 11,.ext (.t 9) 1,none⟩,qm 4 10,qm 5 11] []) .ret),[.tmp 4,.tmp 5]⟩
def c122 : CF := ⟨.seq (.reg false [qj 6] []) (.seq (.reg false [qm 10 0,qm 11 1,⟨some 12,.slc 2 (.t 10) (some (.t 11)) none none,none⟩] []) (.seq (.reg false [qm 13 2,qe 14 13,qm 7 14] []) (.seq (.seq (.reg false [qm 15 7,qq 16 15 0] []) (.cond (.t
 16) (.seq (.reg false [qm 17 0,qm 6 17] []) .ret) .skip)) (.seq (.reg false [qm 18 0,qe 19 18,qm 8 19] []) (.seq (.seq (.reg false [qm 20 1,qm 21 8,⟨some 22,.bin .eql 3 false false (.t 20) (.t 21),none⟩] []) (.cond (.t 22) (.seq (.reg false [qm 23
 0,qm 24 2,⟨some 25,.app 2 (.t 23) (.t 24),none⟩,qm 6 25] []) .ret) .skip)) (.seq (.seq (.reg false [qm 26 8,qm 27 7,⟨some 28,.bin .add 3 false false (.t 26) (.t 27),none⟩,qm 29 0,⟨some 30,.bad,none⟩,⟨some 31,.bin .gtr 3 false false (.t 28) (.t
 30),none⟩] []) (.cond (.t 31) (.seq (.reg false [qm 32 0,qm 33 1,⟨some 34,.slc 2 (.t 32) none (some (.t 33)) none,none⟩,qm 35 8,qm 36 7,⟨some 37,.bin .add 3 false false (.t 35) (.t 36),none⟩,qm 38 1,⟨some 39,.bin .sub 3 false false (.t 37) (.t
 38),none⟩,⟨some 40,.bad,none⟩,qm 9 40] []) (.seq (.reg false [qm 41 9,qm 42 1,⟨some 43,.slc 2 (.t 41) (some (.t 42)) none none,none⟩,qm 44 2,⟨some 45,.copy 2 (.t 43) (.t 44),none⟩] []) (.seq (.reg true [qm 46 9,qm 47 1,qm 48 7,⟨some 49,.bin .add 3
 false false (.t 47) (.t 48),none⟩,⟨some 50,.slc 2 (.t 46) (some (.t 49)) none none,none⟩,qm 51 0,qm 52 1,⟨some 53,.slc 2 (.t 51) (some (.t 52)) none none,none⟩,⟨some 54,.copy 2 (.t 50) (.t 53),none⟩] []) (.seq (.reg false [qm 55 9,qm 6 55] [])
 .ret)))) .skip)) (.seq (.reg false [qm 56 0,qm 57 8,qm 58 7,⟨some 59,.bin .add 3 false false (.t 57) (.t 58),none⟩,⟨some 60,.slc 2 (.t 56) none (some (.t 59)) none,none⟩,qm 0 60] []) (.seq (.seq (.reg false [qm 61 2,qm 62 0,qm 63 1,qm 64 7,⟨some
 65,.bin .add 3 false false (.t 63) (.t 64),none⟩,⟨some 66,.slc 2 (.t 62) (some (.t 65)) none none,none⟩,qk 67 155 61 66,qb 68 67] []) (.cond (.t 68) (.seq (.reg true [qm 69 0,qm 70 1,qm 71 7,⟨some 72,.bin .add 3 false false (.t 70) (.t
 71),none⟩,⟨some 73,.slc 2 (.t 69) (some (.t 72)) none none,none⟩,qm 74 0,qm 75 1,⟨some 76,.slc 2 (.t 74) (some (.t 75)) none none,none⟩,⟨some 77,.copy 2 (.t 73) (.t 76),none⟩] []) (.seq (.reg false [qm 78 0,qm 79 1,⟨some 80,.slc 2 (.t 78) (some (.t
 79)) none none,none⟩,qm 81 2,⟨some 82,.copy 2 (.t 80) (.t 81),none⟩] []) (.seq (.reg false [qm 83 0,qm 6 83] []) .ret))) .skip)) (.seq (.reg false [qm 84 0,qm 85 8,⟨some 86,.slc 2 (.t 84) (some (.t 85)) none none,none⟩,qm 87 2,⟨some 88,.copy 2 (.t
 86) (.t 87),none⟩] []) (.seq (.reg false [qm 89 0,qm 90 1,⟨some 91,.slc 2 (.t 89) (some (.t 90)) none none,none⟩,qm 92 7,qk 93 156 91 92] []) (.seq (.reg false [qm 94 0,qm 6 94] []) .ret))))))))))),[.tmp 6]⟩
def L123_0 : CC := (.seq (.seq (.reg true [qm 24 8,⟨some 25,.bin .gtr 3 false true (.t 24) (.c (.val (.int .i64 0))),none⟩,qm 26 25,qmT 27 7 26,qmT 28 8 26,⟨some 29,.bin .sub 3 false true (.t 28) (.c (.val (.int .i64 1))),some (26, true)⟩,⟨some
 30,.ias 2 (.t 27) (.t 29),some (26, true)⟩,qaT 31 0 30 26,qlT 32 31 26,qmT 33 7 26,qmT 34 8 26,⟨some 35,.ias 2 (.t 33) (.t 34),some (26, true)⟩,qaT 36 0 35 26,qlT 37 36 26,qkT 38 86 32 37 26,⟨some 39,.bin .gtr 3 false true (.t 38) (.c (.val (.int
 .i64 0))),some (26, true)⟩,qp 40 26 39] []) (.cond (.t 40) .skip (.exit 0))) (.seq (.block 1 (.reg true [qm 43 7,qm 44 8,⟨some 45,.bin .sub 3 false true (.t 44) (.c (.val (.int .i64 1))),none⟩,qm 46 7,qm 47 8,qm 48 7,qm 49 8,⟨some 50,.ias 2 (.t 48)
 (.t 49),none⟩,⟨some 51,.ld 2 true (.t 50),none⟩,qm 52 7,qm 53 8,⟨some 54,.bin .sub 3 false true (.t 53) (.c (.val (.int .i64 1))),none⟩,⟨some 55,.ias 2 (.t 52) (.t 54),none⟩,⟨some 56,.ld 2 true (.t 55),none⟩,⟨some 57,.ias 2 (.t 43) (.t 45),none⟩,qw
 2 57 51,⟨some 58,.ias 2 (.t 46) (.t 47),none⟩,qw 2 58 56] [])) (.reg false [qm 41 8,⟨some 42,.bin .sub 3 false true (.t 41) (.c (.val (.int .i64 1))),none⟩,qm 8 42] [])))
def c123 : CF := ⟨.seq (.reg false [qj 6] []) (.seq (.reg false [qm 9 0,qm 10 1,qk 11 157 9 10,qm 7 11] []) (.seq (.seq (.reg false [qm 12 2,⟨some 13,.bin .lss 3 false true (.t 12) (.c (.val (.int .i64 1))),none⟩] []) (.cond (.t 13) (.seq (.reg
 false [qm 14 7,qm 6 14] []) .ret) .skip)) (.seq (.reg false [qm 15 7,qm 16 1,qm 17 2,⟨some 18,.build [.val (.string ⟨#[]⟩),.val (.int .i64 0)] [(0, 1, (.t 16)),(1, 1, (.t 17))],none⟩,⟨some 19,.bsl 2 1 [.val (.string ⟨#[]⟩),.val (.int .i64 0)] [(0,
 2, (.t 18))],none⟩,⟨some 20,.app 2 (.t 15) (.t 19),none⟩,qm 7 20] []) (.seq (.seq (.reg false [qm 21 7,qe 22 21,⟨some 23,.bin .sub 3 false true (.t 22) (.c (.val (.int .i64 1))),none⟩,qm 8 23] []) (.block 0 (.loop L123_0))) (.seq (.reg false [qm 59
 7,qm 6 59] []) .ret))))),[.tmp 6]⟩
def L124_0 : CC := (.seq (.seq (.reg false [qm 6 5,qm 7 0,qe 8 7,qz 9 6 8] []) (.cond (.t 9) .skip (.exit 0))) (.seq (.block 1 (.seq (.reg false [qm 12 0,qm 13 5,⟨some 14,.ias 2 (.t 12) (.t 13),none⟩,qa 15 0 14,ql 16 15,qm 17 1,⟨some 18,.bin .eql 9
 false false (.t 16) (.t 17),none⟩] []) (.cond (.t 18) (.seq (.reg false [qm 19 0,qm 20 5,⟨some 21,.ias 2 (.t 19) (.t 20),none⟩,qa 22 1 21,ql 23 22,qm 4 23] []) .ret) .skip))) (.reg false [qm 10 5,qs 11 10,qm 5 11] [])))
def c124 : CF := ⟨.seq (.reg false [qi 4 0] []) (.seq (.seq (.reg false [qi 5 0] []) (.block 0 (.loop L124_0))) (.seq (.reg false [qi 4 0] []) .ret)),[.tmp 4]⟩
def L125_0 : CC := (.seq (.seq (.reg true [qm 25 8,⟨some 26,.bin .gtr 3 false true (.t 25) (.c (.val (.int .i64 0))),none⟩,qm 27 26,qmT 28 7 27,qmT 29 8 27,⟨some 30,.bin .sub 3 false true (.t 29) (.c (.val (.int .i64 1))),some (27, true)⟩,⟨some
 31,.ias 3 (.t 28) (.t 30),some (27, true)⟩,qaT 32 0 31 27,qlT 33 32 27,qmT 34 7 27,qmT 35 8 27,⟨some 36,.ias 3 (.t 34) (.t 35),some (27, true)⟩,qaT 37 0 36 27,qlT 38 37 27,qkT 39 86 33 38 27,⟨some 40,.bin .gtr 3 false true (.t 39) (.c (.val (.int
 .i64 0))),some (27, true)⟩,qp 41 27 40] []) (.cond (.t 41) .skip (.exit 0))) (.seq (.block 1 (.reg true [qm 44 7,qm 45 8,⟨some 46,.bin .sub 3 false true (.t 45) (.c (.val (.int .i64 1))),none⟩,qm 47 7,qm 48 8,qm 49 7,qm 50 8,⟨some 51,.ias 3 (.t 49)
 (.t 50),none⟩,⟨some 52,.ld 3 true (.t 51),none⟩,qm 53 7,qm 54 8,⟨some 55,.bin .sub 3 false true (.t 54) (.c (.val (.int .i64 1))),none⟩,⟨some 56,.ias 3 (.t 53) (.t 55),none⟩,⟨some 57,.ld 3 true (.t 56),none⟩,⟨some 58,.ias 3 (.t 44) (.t 46),none⟩,qw
 3 58 52,⟨some 59,.ias 3 (.t 47) (.t 48),none⟩,qw 3 59 57] [])) (.reg false [qm 42 8,⟨some 43,.bin .sub 3 false true (.t 42) (.c (.val (.int .i64 1))),none⟩,qm 8 43] [])))
def c125 : CF := ⟨.seq (.reg false [⟨some 5,.box (.t 2),none⟩,qj 6] []) (.seq (.reg false [qm 9 0,qm 10 1,qk 11 158 9 10,qm 7 11] []) (.seq (.seq (.reg false [⟨some 12,.ld 2 true (.t 5),none⟩,qc 13 159 12,⟨some 14,.bin .lss 3 false true (.t 13) (.c
 (.val (.int .i64 1))),none⟩] []) (.cond (.t 14) (.seq (.reg false [qm 15 7,qm 6 15] []) .ret) .skip)) (.seq (.reg false [qm 16 7,qm 17 1,⟨some 18,.ld 2 true (.t 5),none⟩,⟨some 19,.build [.val (.string ⟨#[]⟩),.val (.int .i64 0),.im [] true] [(0, 1,
 (.t 17)),(1, 2, (.t 18))],none⟩,⟨some 20,.bsl 3 1 [.val (.string ⟨#[]⟩),.val (.int .i64 0),.im [] true] [(0, 3, (.t 19))],none⟩,⟨some 21,.app 3 (.t 16) (.t 20),none⟩,qm 7 21] []) (.seq (.seq (.reg false [qm 22 7,qe 23 22,⟨some 24,.bin .sub 3 false
 true (.t 23) (.c (.val (.int .i64 1))),none⟩,qm 8 24] []) (.block 0 (.loop L125_0))) (.seq (.reg false [qm 60 7,qm 6 60] []) .ret))))),[.tmp 6]⟩
def L126_0 : CC := (.seq (.seq (.reg false [qm 18 6,qa 19 1 2,ql 20 19,qe 21 20,qz 22 18 21] []) (.cond (.t 22) .skip (.exit 0))) (.seq (.block 1 (.reg true [⟨some 25,.ld 2 true (.t 5),none⟩,qa 26 1 2,ql 27 26,qm 28 6,qx 29 27 28,ql 30 29,qk 31 128
 25 30,qw 2 5 31] [])) (.reg false [qm 23 6,qs 24 23,qm 6 24] [])))
def L126_1 : CC := (.seq (.seq (.reg false [qm 32 7,qa 33 1 3,ql 34 33,qe 35 34,qz 36 32 35] []) (.cond (.t 36) .skip (.exit 2))) (.seq (.block 3 (.reg true [⟨some 39,.ld 2 true (.t 5),none⟩,qa 40 1 3,ql 41 40,qm 42 7,qx 43 41 42,ql 44 43,qk 45 128
 39 44,qw 2 5 45] [])) (.reg false [qm 37 7,qs 38 37,qm 7 38] [])))
def c126 : CF := ⟨.seq (.reg false [⟨some 2,.box (.t 0),none⟩,⟨some 3,.box (.t 1),none⟩,⟨some 4,.alloc [.val (.int .i64 0),.im [] true],none⟩] []) (.seq (.seq (.reg false [qa 8 0 3,ql 9 8,qa 10 0 2,ql 11 10,⟨some 12,.bin .gtr 3 false false (.t 9)
 (.t 11),none⟩] []) (.cond (.t 12) (.reg false [⟨some 13,.ld 2 true (.t 3),none⟩,⟨some 14,.ld 2 true (.t 2),none⟩,qw 2 2 13,qw 2 3 14] []) .skip)) (.seq (.reg false [qa 15 0 2,ql 16 15,⟨some 17,.build [.val (.int .i64 0),.im [] true] [(0, 1, (.t
 16))],none⟩,⟨some 5,.alloc [.val (.int .i64 0),.im [] true],none⟩,qw 2 5 17] []) (.seq (.seq (.reg false [qi 6 0] []) (.block 0 (.loop L126_0))) (.seq (.seq (.reg false [qi 7 0] []) (.block 2 (.loop L126_1))) (.seq (.reg false [⟨some 46,.ld 2 true
 (.t 5),none⟩,qw 2 4 46] []) .ret))))),[.cell 4 2 true]⟩
def L127_0 : CC := (.seq (.seq (.reg false [qm 6 5,qm 7 0,qe 8 7,qz 9 6 8] []) (.cond (.t 9) .skip (.exit 0))) (.seq (.block 1 (.seq (.reg false [qm 12 0,qm 13 5,⟨some 14,.ias 3 (.t 12) (.t 13),none⟩,qa 15 0 14,ql 16 15,qm 17 1,⟨some 18,.bin .eql 9
 false false (.t 16) (.t 17),none⟩] []) (.cond (.t 18) (.seq (.reg false [qm 19 0,qm 20 5,⟨some 21,.ias 3 (.t 19) (.t 20),none⟩,qa 22 1 21,⟨some 23,.ld 2 true (.t 22),none⟩,qw 2 4 23] []) .ret) .skip))) (.reg false [qm 10 5,qs 11 10,qm 5 11] [])))
def c127 : CF := ⟨.seq (.reg false [⟨some 4,.alloc [.val (.int .i64 0),.im [] true],none⟩] []) (.seq (.seq (.reg false [qi 5 0] []) (.block 0 (.loop L127_0))) (.seq (.reg false [⟨some 24,.build [.val (.int .i64 0),.im [] true] [],none⟩,qw 2 4 24]
 []) .ret)),[.cell 4 2 true]⟩
def L128_0 : CC := (.seq (.seq (.reg false [qm 27 7,qa 28 1 2,ql 29 28,qe 30 29,qz 31 27 30] []) (.cond (.t 31) .skip (.exit 0))) (.seq (.block 1 (.seq (.seq (.reg false [qm 34 6,qb 35 34,qm 36 35,qaT 37 1 2 36,qlT 38 37 36,qmT 39 7 36,qxT 40 38 39
 36,qlT 41 40 36,qmT 42 1 36,⟨some 43,.bin .gtr 3 false false (.t 41) (.t 42),some (36, true)⟩,qp 44 36 43] []) (.cond (.t 44) (.seq (.reg false [qm 45 5,qm 46 1,⟨some 47,.bsl 1 1 [.val (.int .i64 0)] [(0, 1, (.t 46))],none⟩,⟨some 48,.app 1 (.t 45)
 (.t 47),none⟩,qm 5 48] []) (.reg false [qt 6] [])) .skip)) (.reg false [qm 49 5,qa 50 1 2,ql 51 50,qm 52 7,qx 53 51 52,ql 54 53,⟨some 55,.bsl 1 1 [.val (.int .i64 0)] [(0, 1, (.t 54))],none⟩,⟨some 56,.app 1 (.t 49) (.t 55),none⟩,qm 5 56] [])))
 (.reg false [qm 32 7,qs 33 32,qm 7 33] [])))
def L128_1 : CC := (.seq (.seq (.reg false [qm 65 5,qe 66 65,⟨some 67,.bin .gtr 3 false true (.t 66) (.c (.val (.int .i64 0))),none⟩,qm 68 67,qmT 69 5 68,⟨some 70,.ias 1 (.t 69) (.c (.val (.int .i64 0))),some (68, true)⟩,qlT 71 70 68,qmT 72 8
 68,⟨some 73,.bin .add 3 false true (.t 72) (.c (.val (.int .i64 1))),some (68, true)⟩,⟨some 74,.bin .eql 3 false false (.t 71) (.t 73),some (68, true)⟩,qp 75 68 74] []) (.cond (.t 75) .skip (.exit 2))) (.block 3 (.seq (.reg false [qm 76 8,qs 77
 76,qm 8 77] []) (.reg false [qm 78 5,⟨some 79,.slc 1 (.t 78) (some (.c (.val (.int .i64 1)))) none none,none⟩,qm 5 79] []))))
def c128 : CF := ⟨.seq (.reg false [⟨some 2,.box (.t 0),none⟩,⟨some 4,.alloc [.val (.int .i64 0),.im [] true],none⟩] []) (.seq (.seq (.reg false [qm 9 1,⟨some 10,.bin .lss 3 false true (.t 9) (.c (.val (.int .i64 1))),none⟩,qm 11 10,qmF 12 1
 11,⟨some 13,.bin .gtr 3 false true (.t 12) (.c (.val (.int .i64 1048576))),some (11, false)⟩,qo 14 11 13,qm 15 14,⟨some 16,.ld 2 true (.t 2),some (15, false)⟩,qmF 17 1 15,⟨some 18,.call (.c (.fn 160 [])) [.t 16,.t 17],some (15, false)⟩,qo 19 15 18]
 []) (.cond (.t 19) (.seq (.reg true [qa 20 0 2,ql 21 20,⟨some 22,.bsl 1 0 [] [],none⟩,qa 23 1 2,ql 24 23,⟨some 25,.app 1 (.t 22) (.t 24),none⟩,⟨some 26,.build [.val (.int .i64 0),.im [] true] [(0, 1, (.t 21)),(1, 1, (.t 25))],none⟩,qw 2 4 26] [(1,
 2),(2, 4),(1, 5)]) .ret) .skip)) (.seq (.reg false [qj 5] []) (.seq (.reg false [qf 6] []) (.seq (.seq (.reg false [qi 7 0] []) (.block 0 (.loop L128_0))) (.seq (.seq (.reg false [qm 57 6,qb 58 57] []) (.cond (.t 58) (.reg false [qm 59 5,qm 60
 1,⟨some 61,.bsl 1 1 [.val (.int .i64 0)] [(0, 1, (.t 60))],none⟩,⟨some 62,.app 1 (.t 59) (.t 61),none⟩,qm 5 62] []) .skip)) (.seq (.reg false [qa 63 0 2,ql 64 63,qm 8 64] []) (.seq (.block 2 (.loop L128_1)) (.seq (.reg false [qm 80 8,⟨some 81,.bsl
 1 0 [] [],none⟩,qm 82 5,⟨some 83,.app 1 (.t 81) (.t 82),none⟩,⟨some 84,.build [.val (.int .i64 0),.im [] true] [(0, 1, (.t 80)),(1, 1, (.t 83))],none⟩,qw 2 4 84] []) .ret)))))))),[.cell 4 2 true]⟩
def c129 : CF := ⟨.seq (.reg false [⟨some 2,.box (.t 0),none⟩,⟨some 3,.box (.t 1),none⟩,qf 4] []) (.seq (.reg false [qa 5 2 2,ql 6 5,qa 7 2 3,ql 8 7,⟨some 9,.bin .gtr 3 false false (.t 6) (.t 8),none⟩,qm 10 9,qaF 11 2 2 10,qlF 12 11 10,qaF 13 2 3
 10,qlF 14 13 10,⟨some 15,.bin .eql 3 false false (.t 12) (.t 14),some (10, false)⟩,qmF 16 15 10,qaT 17 0 2 16,qlT 18 17 16,qaT 19 0 3 16,qlT 20 19 16,qkT 21 86 18 20 16,⟨some 22,.bin .gtr 3 false true (.t 21) (.c (.val (.int .i64 0))),some (16,
 true)⟩,⟨some 23,.pick (.t 16) (.t 22) (.c (.val (.bool false))),some (10, false)⟩,qo 24 10 23,qm 4 24] []) .ret),[.tmp 4]⟩
def L130_0 : CC := (.seq (.seq (.reg false [qm 7 6,qm 8 0,qe 9 8,qz 10 7 9] []) (.cond (.t 10) .skip (.exit 0))) (.seq (.block 1 (.seq (.reg false [qm 13 0,qm 14 6,⟨some 15,.ias 9 (.t 13) (.t 14),none⟩,qa 16 0 15,ql 17 16,qm 18 1,⟨some 19,.bin .neq
 3 false false (.t 17) (.t 18),none⟩] []) (.cond (.t 19) (.reg false [qm 20 5,qm 21 0,qm 22 6,⟨some 23,.ias 9 (.t 21) (.t 22),none⟩,⟨some 24,.ld 9 true (.t 23),none⟩,⟨some 25,.bsl 9 1 [.val (.int .i64 0),.val (.string ⟨#[]⟩),.val (.int .i64 0),.val
 (.int .i64 0),.val (.bool false),.val (.int .i64 0),.val (.int .i64 0),.val (.string ⟨#[]⟩),.val (.bool false)] [(0, 9, (.t 24))],none⟩,⟨some 26,.app 9 (.t 20) (.t 25),none⟩,qm 5 26] []) .skip))) (.reg false [qm 11 6,qs 12 11,qm 6 12] [])))
def c130 : CF := ⟨.seq (.reg false [qj 4] []) (.seq (.reg false [qj 5] []) (.seq (.seq (.reg false [qi 6 0] []) (.block 0 (.loop L130_0))) (.seq (.reg false [qm 27 5,qm 4 27] []) .ret))),[.tmp 4]⟩
def L131_0 : CC := (.seq (.seq (.reg false [qm 15 9,qm 16 10,qz 17 15 16] []) (.cond (.t 17) .skip (.exit 0))) (.block 1 (.seq (.reg false [qm 18 9,qm 19 10,⟨some 20,.bin .add 3 false false (.t 18) (.t 19),none⟩,⟨some 21,.cv 3 238 (.t
 20),none⟩,⟨some 22,.bin .shr 238 false true (.t 21) (.c (.val (.int .u64 1))),none⟩,⟨some 23,.cv 238 3 (.t 22),none⟩,qm 11 23] []) (.seq (.reg true [qm 24 2,qm 25 0,qm 26 11,⟨some 27,.ias 8 (.t 25) (.t 26),none⟩,⟨some 28,.ld 8 true (.t
 27),none⟩,⟨some 29,.ld 8 true (.t 4),none⟩,⟨some 30,.call (.t 24) [.t 28,.t 29],none⟩,⟨some 31,.bin .lss 3 false true (.t 30) (.c (.val (.int .i64 0))),none⟩] []) (.cond (.t 31) (.reg false [qm 32 11,qs 33 32,qm 9 33] []) (.reg false [qm 34 11,qm
 10 34] []))))))
def c131 : CF := ⟨.seq (.reg false [⟨some 4,.box (.t 1),none⟩,qi 6 0,qf 7] []) (.seq (.reg false [qm 12 0,qe 13 12,qm 8 13] []) (.seq (.reg false [qm 14 8,qi 9 0,qm 10 14] []) (.seq (.block 0 (.loop L131_0)) (.seq (.reg true [qm 35 9,qm 36 9,qm 37
 8,qz 38 36 37,qm 39 38,qmT 40 2 39,qmT 41 0 39,qmT 42 9 39,⟨some 43,.ias 8 (.t 41) (.t 42),some (39, true)⟩,⟨some 44,.ld 8 true (.t 43),some (39, true)⟩,⟨some 45,.ld 8 true (.t 4),some (39, true)⟩,⟨some 46,.call (.t 40) [.t 44,.t 45],some (39,
 true)⟩,⟨some 47,.bin .eql 3 false true (.t 46) (.c (.val (.int .i64 0))),some (39, true)⟩,qp 48 39 47,qm 6 35,qm 7 48] []) .ret)))),[.tmp 6,.tmp 7]⟩
def c132 : CF := ⟨.seq (.reg false [⟨some 2,.box (.t 0),none⟩,⟨some 3,.box (.t 1),none⟩,qi 4 0] []) (.seq (.reg false [qa 5 0 2,ql 6 5,qa 7 0 3,ql 8 7,qk 9 161 6 8,qm 4 9] []) .ret),[.tmp 4]⟩
def c135 : CF := ⟨.seq (.reg false [⟨some 2,.box (.t 0),none⟩,⟨some 3,.box (.t 1),none⟩,qf 4] []) (.seq (.seq (.reg false [qa 5 2 2,ql 6 5,qa 7 2 3,ql 8 7,⟨some 9,.bin .neq 3 false false (.t 6) (.t 8),none⟩] []) (.cond (.t 9) (.seq (.reg false [qa
 10 2 2,ql 11 10,qa 12 2 3,ql 13 12,⟨some 14,.bin .gtr 3 false false (.t 11) (.t 13),none⟩,qm 4 14] []) .ret) .skip)) (.seq (.reg false [qa 15 0 2,ql 16 15,qa 17 0 3,ql 18 17,qk 19 114 16 18,⟨some 20,.bin .gtr 3 false true (.t 19) (.c (.val (.int
 .i64 0))),none⟩,qm 4 20] []) .ret)),[.tmp 4]⟩
def c137 : CF := ⟨.seq (.reg false [⟨some 2,.mv (.c (.val (.float .f64 0))),none⟩] []) (.seq (.seq (.reg false [qm 5 0,qc 6 163 5,⟨some 7,.bin .lss 97 false true (.t 6) (.c (.val (.float .f64 4607182418800017408))),none⟩] []) (.cond (.t 7) (.seq
 (.reg false [qm 8 0,⟨some 9,.call (.c (.fn 164 [])) [.c (.val (.float .f64 0)),.t 8],none⟩,qm 2 9] []) .ret) .skip)) (.seq (.reg false [qm 10 0,qc 11 165 10,qm 3 11] []) (.seq (.reg false [qm 12 3,⟨some 13,.bin .shr 40 false true (.t 12) (.c (.val
 (.int .u64 52))),none⟩,⟨some 14,.bin .and 238 false true (.t 13) (.c (.val (.int .u64 2047))),none⟩,⟨some 15,.bin .sub 238 false true (.t 14) (.c (.val (.int .u64 1023))),none⟩,qm 4 15] []) (.seq (.seq (.reg false [qm 16 4,⟨some 17,.bin .lss 238
 false true (.t 16) (.c (.val (.int .u64 52))),none⟩] []) (.cond (.t 17) (.reg false [qm 18 3,qm 19 4,⟨some 20,.bin .sub 238 true false (.c (.val (.int .u64 52))) (.t 19),none⟩,⟨some 21,.bin .shl 40 true false (.c (.val (.int .u64 1))) (.t
 20),none⟩,⟨some 22,.bin .sub 40 false true (.t 21) (.c (.val (.int .u64 1))),none⟩,⟨some 23,.bin .andNot 40 false false (.t 18) (.t 22),none⟩,qm 3 23] []) .skip)) (.seq (.reg false [qm 24 3,qc 25 166 24,qm 2 25] []) .ret))))),[.tmp 2]⟩
def c138 : CF := ⟨.seq (.reg false [⟨some 2,.mv (.c (.val (.complex .f64 0 0))),none⟩] []) (.seq (.reg false [qm 3 0,⟨some 4,.fun_ .real #[50] 97 [.t 3],none⟩,qm 5 0,⟨some 6,.fun_ .imag #[50] 97 [.t 5],none⟩,⟨some 7,.un .neg (.t 6),none⟩,⟨some
 8,.fun_ .complex #[97,97] 50 [.t 4,.t 7],none⟩,qm 2 8] []) .ret),[.tmp 2]⟩
def L139_0 : CC := (.seq (.seq (.reg false [qm 15 9,qm 16 10,qz 17 15 16] []) (.cond (.t 17) .skip (.exit 0))) (.block 1 (.seq (.reg false [qm 18 9,qm 19 10,⟨some 20,.bin .add 3 false false (.t 18) (.t 19),none⟩,⟨some 21,.cv 3 238 (.t
 20),none⟩,⟨some 22,.bin .shr 238 false true (.t 21) (.c (.val (.int .u64 1))),none⟩,⟨some 23,.cv 238 3 (.t 22),none⟩,qm 11 23] []) (.seq (.reg true [qm 24 2,qm 25 0,qm 26 11,⟨some 27,.ias 3 (.t 25) (.t 26),none⟩,⟨some 28,.ld 3 true (.t
 27),none⟩,⟨some 29,.ld 3 true (.t 4),none⟩,⟨some 30,.call (.t 24) [.t 28,.t 29],none⟩,⟨some 31,.bin .lss 3 false true (.t 30) (.c (.val (.int .i64 0))),none⟩] []) (.cond (.t 31) (.reg false [qm 32 11,qs 33 32,qm 9 33] []) (.reg false [qm 34 11,qm
 10 34] []))))))
def c139 : CF := ⟨.seq (.reg false [⟨some 4,.box (.t 1),none⟩,qi 6 0,qf 7] []) (.seq (.reg false [qm 12 0,qe 13 12,qm 8 13] []) (.seq (.reg false [qm 14 8,qi 9 0,qm 10 14] []) (.seq (.block 0 (.loop L139_0)) (.seq (.reg true [qm 35 9,qm 36 9,qm 37
 8,qz 38 36 37,qm 39 38,qmT 40 2 39,qmT 41 0 39,qmT 42 9 39,⟨some 43,.ias 3 (.t 41) (.t 42),some (39, true)⟩,⟨some 44,.ld 3 true (.t 43),some (39, true)⟩,⟨some 45,.ld 3 true (.t 4),some (39, true)⟩,⟨some 46,.call (.t 40) [.t 44,.t 45],some (39,
 true)⟩,⟨some 47,.bin .eql 3 false true (.t 46) (.c (.val (.int .i64 0))),some (39, true)⟩,qp 48 39 47,qm 6 35,qm 7 48] []) .ret)))),[.tmp 6,.tmp 7]⟩
def c140 : CF := ⟨.seq (.reg false [⟨some 2,.box (.t 0),none⟩,⟨some 3,.box (.t 1),none⟩,qi 4 0] []) (.seq (.reg false [qa 5 0 2,ql 6 5,qa 7 0 3,ql 8 7,qk 9 114 6 8,qm 4 9] []) .ret),[.tmp 4]⟩
def L143_0 : CC := (.seq (.reg false [qz 12 11 10] []) (.seq (.cond (.t 12) .skip (.exit 0)) (.seq (.block 1 (.seq (.reg false [qx 13 9 11,ql 14 13,qm 5 14] []) (.seq (.reg false [qm 15 3,qm 16 5,qe 17 16,⟨some 18,.bin .add 3 false false (.t 15) (.t
 17),none⟩,qm 3 18] []) (.seq (.reg false [qm 19 3,⟨some 20,.bin .lss 3 false true (.t 19) (.c (.val (.int .i64 0))),none⟩] []) (.cond (.t 20) (.reg false [⟨some 21,.bad,none⟩,⟨none,.bad,none⟩] []) .skip))))) (.reg false [qs 22 11,qm 11 22] []))))
def L143_1 : CC := (.seq (.reg false [qz 28 27 26] []) (.seq (.cond (.t 28) .skip (.exit 2)) (.seq (.block 3 (.seq (.reg false [qx 29 25 27,ql 30 29,qm 8 30] []) (.reg false [qm 31 6,qm 32 8,⟨some 33,.app 1 (.t 31) (.t 32),none⟩,qm 6 33] []))) (.reg
 false [qs 34 27,qm 27 34] []))))
def c143 : CF := ⟨.seq (.reg false [qj 2] []) (.seq (.reg false [qi 3 0] []) (.seq (.seq (.reg false [qm 9 0,qe 10 9,qi 11 0] []) (.block 0 (.loop L143_0))) (.seq (.reg false [qm 23 3,⟨some 24,.call (.c (.fn 168 [])) [.c (.im [] true),.t
 23],none⟩,qm 6 24] []) (.seq (.seq (.reg false [qm 25 0,qe 26 25,qi 27 0] []) (.block 2 (.loop L143_1))) (.seq (.reg false [qm 35 6,qm 2 35] []) .ret))))),[.tmp 2]⟩
def c144 : CF := ⟨.seq (.reg false [qm 3 0,qe 4 3,qm 2 4] []) (.reg false [qm 5 0,qm 6 2,qm 7 2,⟨some 8,.cv 3 238 (.t 7),none⟩,qc 9 150 8,⟨some 10,.call (.c (.fn 169 [])) [.t 5,.c (.val (.int .i64 0)),.t 6,.t 9],none⟩] []),[]⟩
def L145_0 : CC := (.seq (.seq (.reg false [qm 6 5,qm 7 1,qe 8 7,qz 9 6 8,qm 10 9,qmT 11 1 10,qmT 12 5 10,qxT 13 11 12 10,qlT 14 13 10,qmT 15 0 10,⟨some 16,.bin .add 3 false true (.t 15) (.c (.val (.int .i64 1))),some (10, true)⟩,⟨some 17,.bin .leq
 3 false false (.t 14) (.t 16),some (10, true)⟩,qp 18 10 17] []) (.cond (.t 18) .skip (.exit 0))) (.seq (.block 1 (.reg false [qm 21 0,qm 22 1,qm 23 5,qx 24 22 23,ql 25 24,⟨some 26,.fun_ .max #[3,3] 3 [.t 21,.t 25],none⟩,qm 0 26] [])) (.reg false
 [qm 19 5,qs 20 19,qm 5 20] [])))
def c145 : CF := ⟨.seq (.reg false [⟨some 4,.alloc [.val (.int .i64 0),.im [] true],none⟩] []) (.seq (.reg false [qi 5 0] []) (.seq (.block 0 (.loop L145_0)) (.seq (.reg false [qm 27 0,qm 28 1,qm 29 5,⟨some 30,.slc 1 (.t 28) (some (.t 29)) none
 none,none⟩,qc 31 106 30,⟨some 32,.build [.val (.int .i64 0),.im [] true] [(0, 1, (.t 27)),(1, 1, (.t 31))],none⟩,qw 2 4 32] []) .ret))),[.cell 4 2 true]⟩
def L146_0 : CC := (.seq (.seq (.reg false [qm 29 5,qm 30 4,qe 31 30,qz 32 29 31] []) (.cond (.t 32) .skip (.exit 2))) (.seq (.block 3 (.seq (.reg true [qm 35 4,qm 36 5,qx 37 35 36,ql 38 37,qm 39 4,qm 40 5,⟨some 41,.bin .sub 3 false true (.t 40) (.c
 (.val (.int .i64 1))),none⟩,qx 42 39 41,ql 43 42,⟨some 44,.bin .neq 3 false false (.t 38) (.t 43),none⟩] []) (.cond (.t 44) (.seq (.reg false [qm 45 0,qm 46 3,qm 47 4,qm 48 5,qx 49 47 48,ql 50 49,qx 51 45 46,qw 1 51 50] []) (.reg false [qm 52 3,qs
 53 52,qm 3 53] [])) .skip))) (.reg false [qm 33 5,qs 34 33,qm 5 34] [])))
def L146_1 : CC := (.seq (.seq (.reg false [qm 10 3,qm 11 0,qe 12 11,qz 13 10 12] []) (.cond (.t 13) .skip (.exit 0))) (.seq (.block 1 (.seq (.reg true [qm 16 0,qm 17 3,qx 18 16 17,ql 19 18,qm 20 0,qm 21 3,⟨some 22,.bin .sub 3 false true (.t 21) (.c
 (.val (.int .i64 1))),none⟩,qx 23 20 22,ql 24 23,⟨some 25,.bin .eql 3 false false (.t 19) (.t 24),none⟩] []) (.cond (.t 25) (.seq (.reg false [qm 26 0,qm 27 3,⟨some 28,.slc 1 (.t 26) (some (.t 27)) none none,none⟩,qm 4 28] []) (.seq (.seq (.reg
 false [qi 5 1] []) (.block 2 (.loop L146_0))) (.seq (.reg false [qm 54 0,qm 55 3,⟨some 56,.slc 1 (.t 54) (some (.t 55)) none none,none⟩,⟨none,.clr [.val (.int .i64 0)] (.t 56),none⟩] []) (.seq (.reg false [qm 57 0,qm 58 3,⟨some 59,.slc 1 (.t 57)
 none (some (.t 58)) none,none⟩,qm 2 59] []) .ret)))) .skip))) (.reg false [qm 14 3,qs 15 14,qm 3 15] [])))
def c146 : CF := ⟨.seq (.reg false [qj 2] []) (.seq (.seq (.reg false [qm 6 0,qe 7 6,⟨some 8,.bin .lss 3 false true (.t 7) (.c (.val (.int .i64 2))),none⟩] []) (.cond (.t 8) (.seq (.reg false [qm 9 0,qm 2 9] []) .ret) .skip)) (.seq (.seq (.reg false
 [qi 3 1] []) (.block 0 (.loop L146_1))) (.seq (.reg false [qm 60 0,qm 2 60] []) .ret))),[.tmp 2]⟩
def c147 : CF := ⟨.seq (.reg false [qf 4] []) (.seq (.reg false [qm 5 0,⟨some 6,.len true (.t 5),none⟩,qm 7 1,⟨some 8,.len true (.t 7),none⟩,⟨some 9,.bin .geq 3 false false (.t 6) (.t 8),none⟩,qm 10 9,qmT 11 0 10,qmT 12 1 10,⟨some 13,.len true (.t
 12),some (10, true)⟩,⟨some 14,.slc 0 (.t 11) none (some (.t 13)) none,some (10, true)⟩,qmT 15 1 10,⟨some 16,.bin .eql 9 false false (.t 14) (.t 15),some (10, true)⟩,qp 17 10 16,qm 4 17] []) .ret),[.tmp 4]⟩
def L149_0 : CC := (.block 1 (.seq (.reg false [qm 21 2,qm 22 1,⟨some 23,.bin .sub 3 false false (.t 21) (.t 22),none⟩,qm 12 23] []) (.seq (.seq (.reg false [qm 24 12,⟨some 25,.bin .leq 3 false true (.t 24) (.c (.val (.int .i64 12))),none⟩] [])
 (.cond (.t 25) (.seq (.reg false [qm 26 0,qm 27 1,qm 28 2,qm 29 4,⟨some 30,.call (.c (.fn 170 [])) [.t 26,.t 27,.t 28,.t 29],none⟩] []) .ret) .skip)) (.seq (.seq (.reg false [qm 31 3,qq 32 31 0] []) (.cond (.t 32) (.seq (.reg false [qm 33 0,qm 34
 1,qm 35 2,qm 36 4,⟨some 37,.call (.c (.fn 171 [])) [.t 33,.t 34,.t 35,.t 36],none⟩] []) .ret) .skip)) (.seq (.seq (.reg false [qm 38 10,qb 39 38] []) (.cond (.t 39) (.seq (.reg false [qm 40 0,qm 41 1,qm 42 2,qm 43 4,⟨some 44,.call (.c (.fn 172 []))
 [.t 40,.t 41,.t 42,.t 43],none⟩] []) (.reg false [qm 45 3,⟨some 46,.bin .sub 3 false true (.t 45) (.c (.val (.int .i64 1))),none⟩,qm 3 46] [])) .skip)) (.seq (.reg false [qm 48 0,qm 49 1,qm 50 2,qm 51 4,⟨some 52,.call (.c (.fn 173 [])) [.t 48,.t
 49,.t 50,.t 51],none⟩,qm 47 52,⟨some 53,.ext (.t 47) 0,none⟩,⟨some 54,.ext (.t 47) 1,none⟩,qm 13 53,qm 14 54] []) (.seq (.seq (.reg false [qm 55 14,⟨some 56,.bin .eql 255 false true (.t 55) (.c (.val (.int .i64 2))),none⟩] []) (.cond (.t 56) (.seq
 (.reg false [qm 57 0,qm 58 1,qm 59 2,qm 60 4,⟨some 61,.call (.c (.fn 174 [])) [.t 57,.t 58,.t 59,.t 60],none⟩] []) (.seq (.reg false [qm 62 2,⟨some 63,.bin .sub 3 false true (.t 62) (.c (.val (.int .i64 1))),none⟩,qm 64 13,qm 65 1,⟨some 66,.bin
 .sub 3 false false (.t 64) (.t 65),none⟩,⟨some 67,.bin .sub 3 false false (.t 63) (.t 66),none⟩,qm 13 67] []) (.reg false [qi 14 1] []))) .skip)) (.seq (.seq (.reg false [qm 68 10,qm 69 68,qmT 70 11 69,qp 71 69 70,qm 72 71,qmT 73 14 72,⟨some
 74,.bin .eql 255 false true (.t 73) (.c (.val (.int .i64 1))),some (72, true)⟩,qp 75 72 74] []) (.cond (.t 75) (.seq (.reg false [qm 76 0,qm 77 1,qm 78 2,qm 79 4,⟨some 80,.call (.c (.fn 175 [])) [.t 76,.t 77,.t 78,.t 79],none⟩] []) (.cond (.t 80)
 .ret .skip)) .skip)) (.seq (.seq (.reg true [qm 81 1,⟨some 82,.bin .gtr 3 false true (.t 81) (.c (.val (.int .i64 0))),none⟩,qm 83 82,qmT 84 4 83,qmT 85 0 83,qmT 86 1 83,⟨some 87,.bin .sub 3 false true (.t 86) (.c (.val (.int .i64 1))),some (83,
 true)⟩,qxT 88 85 87 83,qlT 89 88 83,qmT 90 0 83,qmT 91 13 83,qxT 92 90 91 83,qlT 93 92 83,⟨some 94,.call (.t 84) [.t 89,.t 93],some (83, true)⟩,⟨some 95,.bin .lss 3 false true (.t 94) (.c (.val (.int .i64 0))),some (83, true)⟩,⟨some 96,.un .not (.t
 95),some (83, true)⟩,qp 97 83 96] []) (.cond (.t 97) (.seq (.reg false [qm 98 0,qm 99 1,qm 100 2,qm 101 13,qm 102 4,⟨some 103,.call (.c (.fn 176 [])) [.t 98,.t 99,.t 100,.t 101,.t 102],none⟩,qm 15 103] []) (.seq (.reg false [qm 104 15,qm 1 104] [])
 (.exit 1))) .skip)) (.seq (.reg false [qm 106 0,qm 107 1,qm 108 2,qm 109 13,qm 110 4,⟨some 111,.call (.c (.fn 177 [])) [.t 106,.t 107,.t 108,.t 109,.t 110],none⟩,qm 105 111,⟨some 112,.ext (.t 105) 0,none⟩,⟨some 113,.ext (.t 105) 1,none⟩,qm 16
 112,qm 17 113] []) (.seq (.reg false [qm 114 17,qm 11 114] []) (.seq (.reg false [qm 115 16,qm 116 1,⟨some 117,.bin .sub 3 false false (.t 115) (.t 116),none⟩,qm 118 2,qm 119 16,⟨some 120,.bin .sub 3 false false (.t 118) (.t 119),none⟩,qm 18 117,qm
 19 120] []) (.seq (.reg false [qm 121 12,⟨some 122,.bin .quo 3 false true (.t 121) (.c (.val (.int .i64 8))),none⟩,qm 20 122] []) (.seq (.reg false [qm 123 18,qm 124 19,qz 125 123 124] []) (.cond (.t 125) (.seq (.reg false [qm 126 18,qm 127
 20,⟨some 128,.bin .geq 3 false false (.t 126) (.t 127),none⟩,qm 10 128] []) (.seq (.reg false [qm 129 0,qm 130 1,qm 131 16,qm 132 3,qm 133 4,⟨some 134,.call (.c (.fn 149 [])) [.t 129,.t 130,.t 131,.t 132,.t 133],none⟩] []) (.reg false [qm 135 16,qs
 136 135,qm 1 136] []))) (.seq (.reg false [qm 137 19,qm 138 20,⟨some 139,.bin .geq 3 false false (.t 137) (.t 138),none⟩,qm 10 139] []) (.seq (.reg false [qm 140 0,qm 141 16,qs 142 141,qm 143 2,qm 144 3,qm 145 4,⟨some 146,.call (.c (.fn 149 []))
 [.t 140,.t 142,.t 143,.t 144,.t 145],none⟩] []) (.reg false [qm 147 16,qm 2 147] []))))))))))))))))))
def c149 : CF := ⟨.seq (.reg false [qt 10] []) (.seq (.reg false [qt 11] []) (.block 0 (.loop L149_0))),[]⟩
def c150 : CF := ⟨.seq (.reg false [qi 2 0] []) (.seq (.cond (.c (.val (.bool false))) (.seq (.reg false [qm 3 0,⟨some 4,.cv 238 262 (.t 3),none⟩,qc 5 178 4,qm 2 5] []) .ret) .skip) (.seq (.reg false [qm 6 0,qc 7 179 6,qm 2 7] []) .ret)),[.tmp 2]⟩
def L153_0 : CC := (.seq (.seq (.reg false [qm 15 9,qm 16 10,qz 17 15 16] []) (.cond (.t 17) .skip (.exit 0))) (.block 1 (.seq (.reg false [qm 18 9,qm 19 10,⟨some 20,.bin .add 3 false false (.t 18) (.t 19),none⟩,⟨some 21,.cv 3 238 (.t
 20),none⟩,⟨some 22,.bin .shr 238 false true (.t 21) (.c (.val (.int .u64 1))),none⟩,⟨some 23,.cv 238 3 (.t 22),none⟩,qm 11 23] []) (.seq (.reg true [qm 24 2,qm 25 0,qm 26 11,⟨some 27,.ias 2 (.t 25) (.t 26),none⟩,⟨some 28,.ld 2 true (.t
 27),none⟩,⟨some 29,.ld 2 true (.t 4),none⟩,⟨some 30,.call (.t 24) [.t 28,.t 29],none⟩,⟨some 31,.bin .lss 3 false true (.t 30) (.c (.val (.int .i64 0))),none⟩] []) (.cond (.t 31) (.reg false [qm 32 11,qs 33 32,qm 9 33] []) (.reg false [qm 34 11,qm
 10 34] []))))))
def c153 : CF := ⟨.seq (.reg false [⟨some 4,.box (.t 1),none⟩,qi 6 0,qf 7] []) (.seq (.reg false [qm 12 0,qe 13 12,qm 8 13] []) (.seq (.reg false [qm 14 8,qi 9 0,qm 10 14] []) (.seq (.block 0 (.loop L153_0)) (.seq (.reg true [qm 35 9,qm 36 9,qm 37
 8,qz 38 36 37,qm 39 38,qmT 40 2 39,qmT 41 0 39,qmT 42 9 39,⟨some 43,.ias 2 (.t 41) (.t 42),some (39, true)⟩,⟨some 44,.ld 2 true (.t 43),some (39, true)⟩,⟨some 45,.ld 2 true (.t 4),some (39, true)⟩,⟨some 46,.call (.t 40) [.t 44,.t 45],some (39,
 true)⟩,⟨some 47,.bin .eql 3 false true (.t 46) (.c (.val (.int .i64 0))),some (39, true)⟩,qp 48 39 47,qm 6 35,qm 7 48] []) .ret)))),[.tmp 6,.tmp 7]⟩
def c154 : CF := ⟨.seq (.reg false [⟨some 2,.box (.t 0),none⟩,⟨some 3,.box (.t 1),none⟩,qi 4 0] []) (.seq (.reg false [qa 5 0 2,ql 6 5,qa 7 0 3,ql 8 7,qk 9 114 6 8,qm 4 9] []) .ret),[.tmp 4]⟩
def L157_0 : CC := (.seq (.seq (.reg false [qm 7 6,qm 8 0,qe 9 8,qz 10 7 9] []) (.cond (.t 10) .skip (.exit 0))) (.seq (.block 1 (.seq (.reg false [qm 13 0,qm 14 6,⟨some 15,.ias 2 (.t 13) (.t 14),none⟩,qa 16 0 15,ql 17 16,qm 18 1,⟨some 19,.bin .neq
 9 false false (.t 17) (.t 18),none⟩] []) (.cond (.t 19) (.reg false [qm 20 5,qm 21 0,qm 22 6,⟨some 23,.ias 2 (.t 21) (.t 22),none⟩,⟨some 24,.ld 2 true (.t 23),none⟩,⟨some 25,.bsl 2 1 [.val (.string ⟨#[]⟩),.val (.int .i64 0)] [(0, 2, (.t
 24))],none⟩,⟨some 26,.app 2 (.t 20) (.t 25),none⟩,qm 5 26] []) .skip))) (.reg false [qm 11 6,qs 12 11,qm 6 12] [])))
def c157 : CF := ⟨.seq (.reg false [qj 4] []) (.seq (.reg false [qj 5] []) (.seq (.seq (.reg false [qi 6 0] []) (.block 0 (.loop L157_0))) (.seq (.reg false [qm 27 5,qm 4 27] []) .ret))),[.tmp 4]⟩
def L158_0 : CC := (.seq (.seq (.reg false [qm 7 6,qm 8 0,qe 9 8,qz 10 7 9] []) (.cond (.t 10) .skip (.exit 0))) (.seq (.block 1 (.seq (.reg false [qm 13 0,qm 14 6,⟨some 15,.ias 3 (.t 13) (.t 14),none⟩,qa 16 0 15,ql 17 16,qm 18 1,⟨some 19,.bin .neq
 9 false false (.t 17) (.t 18),none⟩] []) (.cond (.t 19) (.reg false [qm 20 5,qm 21 0,qm 22 6,⟨some 23,.ias 3 (.t 21) (.t 22),none⟩,⟨some 24,.ld 3 true (.t 23),none⟩,⟨some 25,.bsl 3 1 [.val (.string ⟨#[]⟩),.val (.int .i64 0),.im [] true] [(0, 3, (.t
 24))],none⟩,⟨some 26,.app 3 (.t 20) (.t 25),none⟩,qm 5 26] []) .skip))) (.reg false [qm 11 6,qs 12 11,qm 6 12] [])))
def c158 : CF := ⟨.seq (.reg false [qj 4] []) (.seq (.reg false [qj 5] []) (.seq (.seq (.reg false [qi 6 0] []) (.block 0 (.loop L158_0))) (.seq (.reg false [qm 27 5,qm 4 27] []) .ret))),[.tmp 4]⟩
def c159 : CF := ⟨.seq (.reg false [⟨some 1,.box (.t 0),none⟩,qi 2 0] []) (.seq (.reg false [qa 3 0 1,ql 4 3,qa 5 1 1,ql 6 5,qe 7 6,⟨some 8,.bin .add 3 false false (.t 4) (.t 7),none⟩,qm 2 8] []) .ret),[.tmp 2]⟩
def L160_0 : CC := (.seq (.seq (.reg false [qm 14 5,qa 15 1 2,ql 16 15,qe 17 16,qz 18 14 17] []) (.cond (.t 18) .skip (.exit 0))) (.seq (.block 1 (.seq (.reg false [qa 21 1 2,ql 22 21,qm 23 5,qx 24 22 23,ql 25 24,qm 26 1,⟨some 27,.bin .eql 3 false
 false (.t 25) (.t 26),none⟩] []) (.cond (.t 27) (.seq (.reg false [qt 4] []) .ret) .skip))) (.reg false [qm 19 5,qs 20 19,qm 5 20] [])))
def c160 : CF := ⟨.seq (.reg false [⟨some 2,.box (.t 0),none⟩,qf 4] []) (.seq (.seq (.reg false [qm 6 1,⟨some 7,.bin .geq 3 false true (.t 6) (.c (.val (.int .i64 1))),none⟩,qm 8 7,qmT 9 1 8,qaT 10 0 2 8,qlT 11 10 8,⟨some 12,.bin .leq 3 false false
 (.t 9) (.t 11),some (8, true)⟩,qp 13 8 12] []) (.cond (.t 13) (.seq (.reg false [qt 4] []) .ret) .skip)) (.seq (.seq (.reg false [qi 5 0] []) (.block 0 (.loop L160_0))) (.seq (.reg false [qf 4] []) .ret))),[.tmp 4]⟩
def c161 : CF := ⟨.seq (.reg false [qi 4 0] []) (.seq (.reg false [qm 7 0,qc 8 183 7,qm 5 8] []) (.seq (.reg false [qm 9 1,qc 10 183 9,qm 6 10] []) (.seq (.seq (.reg false [qm 11 5] []) (.cond (.t 11) (.seq (.seq (.reg false [qm 12 6] []) (.cond (.t
 12) (.seq (.reg false [qi 4 0] []) .ret) .skip)) (.seq (.reg false [⟨some 4,.mv (.c (.val (.int .i64 (-1)))),none⟩] []) .ret)) .skip)) (.seq (.seq (.reg false [qm 13 6] []) (.cond (.t 13) (.seq (.reg false [qi 4 1] []) .ret) .skip)) (.seq (.seq
 (.reg false [qm 14 0,qm 15 1,qz 16 14 15] []) (.cond (.t 16) (.seq (.reg false [⟨some 4,.mv (.c (.val (.int .i64 (-1)))),none⟩] []) .ret) .skip)) (.seq (.seq (.reg false [qm 17 0,qm 18 1,⟨some 19,.bin .gtr 3 false false (.t 17) (.t 18),none⟩] [])
 (.cond (.t 19) (.seq (.reg false [qi 4 1] []) .ret) .skip)) (.seq (.reg false [qi 4 0] []) .ret))))))),[.tmp 4]⟩
def c163 : CF := ⟨.seq (.reg false [⟨some 2,.mv (.c (.val (.float .f64 0))),none⟩] []) (.seq (.reg false [qm 3 0,qc 4 165 3,⟨some 5,.bin .andNot 40 false true (.t 4) (.c (.val (.int .u64 9223372036854775808))),none⟩,qc 6 166 5,qm 2 6] []) .ret),[.tmp 2]⟩
def c164 : CF := ⟨.seq (.reg false [⟨some 4,.mv (.c (.val (.float .f64 0))),none⟩] []) (.seq (.reg false [qm 5 0,qc 6 165 5,⟨some 7,.bin .andNot 40 false true (.t 6) (.c (.val (.int .u64 9223372036854775808))),none⟩,qm 8 1,qc 9 165 8,⟨some 10,.bin
 .and 40 false true (.t 9) (.c (.val (.int .u64 9223372036854775808))),none⟩,⟨some 11,.bin .or 40 false false (.t 7) (.t 10),none⟩,qc 12 166 11,qm 4 12] []) .ret),[.tmp 4]⟩
def L169_0 : CC := (.block 1 (.seq (.reg false [qm 19 2,qm 20 1,⟨some 21,.bin .sub 3 false false (.t 19) (.t 20),none⟩,qm 10 21] []) (.seq (.seq (.reg false [qm 22 10,⟨some 23,.bin .leq 3 false true (.t 22) (.c (.val (.int .i64 12))),none⟩] [])
 (.cond (.t 23) (.seq (.reg false [qm 24 0,qm 25 1,qm 26 2,⟨some 27,.call (.c (.fn 186 [])) [.t 24,.t 25,.t 26],none⟩] []) .ret) .skip)) (.seq (.seq (.reg false [qm 28 3,qq 29 28 0] []) (.cond (.t 29) (.seq (.reg false [qm 30 0,qm 31 1,qm 32 2,⟨some
 33,.call (.c (.fn 187 [])) [.t 30,.t 31,.t 32],none⟩] []) .ret) .skip)) (.seq (.seq (.reg false [qm 34 8,qb 35 34] []) (.cond (.t 35) (.seq (.reg false [qm 36 0,qm 37 1,qm 38 2,⟨some 39,.call (.c (.fn 188 [])) [.t 36,.t 37,.t 38],none⟩] []) (.reg
 false [qm 40 3,⟨some 41,.bin .sub 3 false true (.t 40) (.c (.val (.int .i64 1))),none⟩,qm 3 41] [])) .skip)) (.seq (.reg false [qm 43 0,qm 44 1,qm 45 2,⟨some 46,.call (.c (.fn 189 [])) [.t 43,.t 44,.t 45],none⟩,qm 42 46,⟨some 47,.ext (.t 42)
 0,none⟩,⟨some 48,.ext (.t 42) 1,none⟩,qm 11 47,qm 12 48] []) (.seq (.seq (.reg false [qm 49 12,⟨some 50,.bin .eql 255 false true (.t 49) (.c (.val (.int .i64 2))),none⟩] []) (.cond (.t 50) (.seq (.reg false [qm 51 0,qm 52 1,qm 53 2,⟨some 54,.call
 (.c (.fn 190 [])) [.t 51,.t 52,.t 53],none⟩] []) (.seq (.reg false [qm 55 2,⟨some 56,.bin .sub 3 false true (.t 55) (.c (.val (.int .i64 1))),none⟩,qm 57 11,qm 58 1,⟨some 59,.bin .sub 3 false false (.t 57) (.t 58),none⟩,⟨some 60,.bin .sub 3 false
 false (.t 56) (.t 59),none⟩,qm 11 60] []) (.reg false [qi 12 1] []))) .skip)) (.seq (.seq (.reg false [qm 61 8,qm 62 61,qmT 63 9 62,qp 64 62 63,qm 65 64,qmT 66 12 65,⟨some 67,.bin .eql 255 false true (.t 66) (.c (.val (.int .i64 1))),some (65,
 true)⟩,qp 68 65 67] []) (.cond (.t 68) (.seq (.reg false [qm 69 0,qm 70 1,qm 71 2,⟨some 72,.call (.c (.fn 191 [])) [.t 69,.t 70,.t 71],none⟩] []) (.cond (.t 72) .ret .skip)) .skip)) (.seq (.seq (.reg true [qm 73 1,⟨some 74,.bin .gtr 3 false true
 (.t 73) (.c (.val (.int .i64 0))),none⟩,qm 75 74,qmT 76 0 75,qmT 77 1 75,⟨some 78,.bin .sub 3 false true (.t 77) (.c (.val (.int .i64 1))),some (75, true)⟩,qxT 79 76 78 75,qlT 80 79 75,qmT 81 0 75,qmT 82 11 75,qxT 83 81 82 75,qlT 84 83 75,qkT 85
 192 80 84 75,⟨some 86,.un .not (.t 85),some (75, true)⟩,qp 87 75 86] []) (.cond (.t 87) (.seq (.reg false [qm 88 0,qm 89 1,qm 90 2,qm 91 11,⟨some 92,.call (.c (.fn 193 [])) [.t 88,.t 89,.t 90,.t 91],none⟩,qm 13 92] []) (.seq (.reg false [qm 93
 13,qm 1 93] []) (.exit 1))) .skip)) (.seq (.reg false [qm 95 0,qm 96 1,qm 97 2,qm 98 11,⟨some 99,.call (.c (.fn 194 [])) [.t 95,.t 96,.t 97,.t 98],none⟩,qm 94 99,⟨some 100,.ext (.t 94) 0,none⟩,⟨some 101,.ext (.t 94) 1,none⟩,qm 14 100,qm 15 101] [])
 (.seq (.reg false [qm 102 15,qm 9 102] []) (.seq (.reg false [qm 103 14,qm 104 1,⟨some 105,.bin .sub 3 false false (.t 103) (.t 104),none⟩,qm 106 2,qm 107 14,⟨some 108,.bin .sub 3 false false (.t 106) (.t 107),none⟩,qm 16 105,qm 17 108] []) (.seq
 (.reg false [qm 109 10,⟨some 110,.bin .quo 3 false true (.t 109) (.c (.val (.int .i64 8))),none⟩,qm 18 110] []) (.seq (.reg false [qm 111 16,qm 112 17,qz 113 111 112] []) (.cond (.t 113) (.seq (.reg false [qm 114 16,qm 115 18,⟨some 116,.bin .geq 3
 false false (.t 114) (.t 115),none⟩,qm 8 116] []) (.seq (.reg false [qm 117 0,qm 118 1,qm 119 14,qm 120 3,⟨some 121,.call (.c (.fn 169 [])) [.t 117,.t 118,.t 119,.t 120],none⟩] []) (.reg false [qm 122 14,qs 123 122,qm 1 123] []))) (.seq (.reg false
 [qm 124 17,qm 125 18,⟨some 126,.bin .geq 3 false false (.t 124) (.t 125),none⟩,qm 8 126] []) (.seq (.reg false [qm 127 0,qm 128 14,qs 129 128,qm 130 2,qm 131 3,⟨some 132,.call (.c (.fn 169 [])) [.t 127,.t 129,.t 130,.t 131],none⟩] []) (.reg false
 [qm 133 14,qm 2 133] []))))))))))))))))))
def c169 : CF := ⟨.seq (.reg false [qt 8] []) (.seq (.reg false [qt 9] []) (.block 0 (.loop L169_0))),[]⟩
def L170_0 : CC := (.seq (.seq (.reg true [qm 18 9,qm 19 1,⟨some 20,.bin .gtr 3 false false (.t 18) (.t 19),none⟩,qm 21 20,qmT 22 3 21,qmT 23 0 21,qmT 24 9 21,qxT 25 23 24 21,qlT 26 25 21,qmT 27 0 21,qmT 28 9 21,⟨some 29,.bin .sub 3 false true (.t
 28) (.c (.val (.int .i64 1))),some (21, true)⟩,qxT 30 27 29 21,qlT 31 30 21,⟨some 32,.call (.t 22) [.t 26,.t 31],some (21, true)⟩,⟨some 33,.bin .lss 3 false true (.t 32) (.c (.val (.int .i64 0))),some (21, true)⟩,qp 34 21 33] []) (.cond (.t 34)
 .skip (.exit 2))) (.seq (.block 3 (.reg true [qm 37 0,qm 38 9,qm 39 0,qm 40 9,⟨some 41,.bin .sub 3 false true (.t 40) (.c (.val (.int .i64 1))),none⟩,qm 42 0,qm 43 9,⟨some 44,.bin .sub 3 false true (.t 43) (.c (.val (.int .i64 1))),none⟩,qx 45 42
 44,ql 46 45,qm 47 0,qm 48 9,qx 49 47 48,ql 50 49,qx 51 37 38,qw 1 51 46,qx 52 39 41,qw 1 52 50] [])) (.reg false [qm 35 9,⟨some 36,.bin .sub 3 false true (.t 35) (.c (.val (.int .i64 1))),none⟩,qm 9 36] [])))
def L170_1 : CC := (.seq (.seq (.reg false [qm 12 8,qm 13 2,qz 14 12 13] []) (.cond (.t 14) .skip (.exit 0))) (.seq (.block 1 (.seq (.reg false [qm 17 8,qm 9 17] []) (.block 2 (.loop L170_0)))) (.reg false [qm 15 8,qs 16 15,qm 8 16] [])))
def c170 : CF := ⟨.seq (.reg false [qm 10 1,qs 11 10,qm 8 11] []) (.block 0 (.loop L170_1)),[]⟩
def c178 : CF := ⟨.seq (.reg false [qi 2 0] []) (.seq (.seq (.reg false [qm 3 0,⟨some 4,.bin .geq 262 false true (.t 3) (.c (.val (.int .u32 65536))),none⟩] []) (.cond (.t 4) (.seq (.reg false [qm 5 0,⟨some 6,.bin .shr 262 false true (.t 5) (.c
 (.val (.int .u64 16))),none⟩,qm 0 6] []) (.reg false [qi 2 16] [])) .skip)) (.seq (.seq (.reg false [qm 7 0,⟨some 8,.bin .geq 262 false true (.t 7) (.c (.val (.int .u32 256))),none⟩] []) (.cond (.t 8) (.seq (.reg false [qm 9 0,⟨some 10,.bin .shr
 262 false true (.t 9) (.c (.val (.int .u64 8))),none⟩,qm 0 10] []) (.reg false [qm 11 2,⟨some 12,.bin .add 3 false true (.t 11) (.c (.val (.int .i64 8))),none⟩,qm 2 12] [])) .skip)) (.seq (.reg false [qm 13 2,qm 14 0,⟨some 15,.cv 262 5 (.t
 14),none⟩,⟨some 16,.ixs (.c (.val (.string
 ⟨#[0,1,2,2,3,3,3,3,4,4,4,4,4,4,4,4,5,5,5,5,5,5,5,5,5,5,5,5,5,5,5,5,6,6,6,6,6,6,6,6,6,6,6,6,6,6,6,6,6,6,6,6,6,6,6,6,6,6,6,6,6,6,6,6,7,7,7,7,7,7,7,7,7,7,7,7,7,7,7,7,7,7,7,7,7,7,7,7,7,7,7,7,7,7,7,7,7,7,7,7,7,7,7,7,7,7,7,7,7,7,7,7,7,7,7,7,7,7,7,7,7,7,7,7,7,7,7,7,8,8,8,8,8,8,8,8,8,8,8,8,8,8,8,8,8,8,8,8,8,8,8,8,8,8,8,8,8,8,8,8,8,8,8,8,8,8,8,8,8,8,8,8,8,8,8,8,8,8,8,8,8,8,8,8,8,8,8,8,8,8,8,8,8,8,8,8,8,8,8,8,8,8,8,8,8,8,8,8,8,8,8,8,8,8,8,8,8,8,8,8,8,8,8,8,8,8,8,8,8,8,8,8,8,8,8,8,8,8,8,8,8,8,8,8,8,8,8,8,8,8,8,8,8,8,8,8]⟩))) (.t 15),none⟩,⟨some 17,.cv 5 3 (.t 16),none⟩,⟨some 18,.bin .add 3 false false (.t 13) (.t 17),none⟩,qm 2 18] []) .ret))),[.tmp 2]⟩
def c179 : CF := ⟨.seq (.reg false [qi 2 0] []) (.seq (.seq (.reg false [qm 3 0,⟨some 4,.bin .geq 40 false true (.t 3) (.c (.val (.int .u64 4294967296))),none⟩] []) (.cond (.t 4) (.seq (.reg false [qm 5 0,⟨some 6,.bin .shr 40 false true (.t 5) (.c
 (.val (.int .u64 32))),none⟩,qm 0 6] []) (.reg false [qi 2 32] [])) .skip)) (.seq (.seq (.reg false [qm 7 0,⟨some 8,.bin .geq 40 false true (.t 7) (.c (.val (.int .u64 65536))),none⟩] []) (.cond (.t 8) (.seq (.reg false [qm 9 0,⟨some 10,.bin .shr
 40 false true (.t 9) (.c (.val (.int .u64 16))),none⟩,qm 0 10] []) (.reg false [qm 11 2,⟨some 12,.bin .add 3 false true (.t 11) (.c (.val (.int .i64 16))),none⟩,qm 2 12] [])) .skip)) (.seq (.seq (.reg false [qm 13 0,⟨some 14,.bin .geq 40 false true
 (.t 13) (.c (.val (.int .u64 256))),none⟩] []) (.cond (.t 14) (.seq (.reg false [qm 15 0,⟨some 16,.bin .shr 40 false true (.t 15) (.c (.val (.int .u64 8))),none⟩,qm 0 16] []) (.reg false [qm 17 2,⟨some 18,.bin .add 3 false true (.t 17) (.c (.val
 (.int .i64 8))),none⟩,qm 2 18] [])) .skip)) (.seq (.reg false [qm 19 2,qm 20 0,⟨some 21,.cv 40 5 (.t 20),none⟩,⟨some 22,.ixs (.c (.val (.string
 ⟨#[0,1,2,2,3,3,3,3,4,4,4,4,4,4,4,4,5,5,5,5,5,5,5,5,5,5,5,5,5,5,5,5,6,6,6,6,6,6,6,6,6,6,6,6,6,6,6,6,6,6,6,6,6,6,6,6,6,6,6,6,6,6,6,6,7,7,7,7,7,7,7,7,7,7,7,7,7,7,7,7,7,7,7,7,7,7,7,7,7,7,7,7,7,7,7,7,7,7,7,7,7,7,7,7,7,7,7,7,7,7,7,7,7,7,7,7,7,7,7,7,7,7,7,7,7,7,7,7,8,8,8,8,8,8,8,8,8,8,8,8,8,8,8,8,8,8,8,8,8,8,8,8,8,8,8,8,8,8,8,8,8,8,8,8,8,8,8,8,8,8,8,8,8,8,8,8,8,8,8,8,8,8,8,8,8,8,8,8,8,8,8,8,8,8,8,8,8,8,8,8,8,8,8,8,8,8,8,8,8,8,8,8,8,8,8,8,8,8,8,8,8,8,8,8,8,8,8,8,8,8,8,8,8,8,8,8,8,8,8,8,8,8,8,8,8,8,8,8,8,8,8,8,8,8,8,8]⟩))) (.t 21),none⟩,⟨some 23,.cv 5 3 (.t 22),none⟩,⟨some 24,.bin .add 3 false false (.t 19) (.t 23),none⟩,qm 2 24] []) .ret)))),[.tmp 2]⟩
def c183 : CF := ⟨.seq (.reg false [qf 2] []) (.seq (.reg false [qm 3 0,qm 4 0,⟨some 5,.bin .neq 3 false false (.t 3) (.t 4),none⟩,qm 2 5] []) .ret),[.tmp 2]⟩
def L186_0 : CC := (.seq (.seq (.reg true [qm 16 7,qm 17 1,⟨some 18,.bin .gtr 3 false false (.t 16) (.t 17),none⟩,qm 19 18,qmT 20 0 19,qmT 21 7 19,qxT 22 20 21 19,qlT 23 22 19,qmT 24 0 19,qmT 25 7 19,⟨some 26,.bin .sub 3 false true (.t 25) (.c (.val
 (.int .i64 1))),some (19, true)⟩,qxT 27 24 26 19,qlT 28 27 19,qkT 29 192 23 28 19,qp 30 19 29] []) (.cond (.t 30) .skip (.exit 2))) (.seq (.block 3 (.reg true [qm 33 0,qm 34 7,qm 35 0,qm 36 7,⟨some 37,.bin .sub 3 false true (.t 36) (.c (.val (.int
 .i64 1))),none⟩,qm 38 0,qm 39 7,⟨some 40,.bin .sub 3 false true (.t 39) (.c (.val (.int .i64 1))),none⟩,qx 41 38 40,ql 42 41,qm 43 0,qm 44 7,qx 45 43 44,ql 46 45,qx 47 33 34,qw 1 47 42,qx 48 35 37,qw 1 48 46] [])) (.reg false [qm 31 7,⟨some 32,.bin
 .sub 3 false true (.t 31) (.c (.val (.int .i64 1))),none⟩,qm 7 32] [])))
def L186_1 : CC := (.seq (.seq (.reg false [qm 10 6,qm 11 2,qz 12 10 11] []) (.cond (.t 12) .skip (.exit 0))) (.seq (.block 1 (.seq (.reg false [qm 15 6,qm 7 15] []) (.block 2 (.loop L186_0)))) (.reg false [qm 13 6,qs 14 13,qm 6 14] [])))
def c186 : CF := ⟨.seq (.reg false [qm 8 1,qs 9 8,qm 6 9] []) (.block 0 (.loop L186_1)),[]⟩
def c192 : CF := ⟨.seq (.reg false [qf 4] []) (.seq (.reg false [qm 5 0,qc 6 183 5,qm 7 6,qmT 8 1 7,⟨some 9,.call (.c (.fn 183 [])) [.t 8],some (7, true)⟩,⟨some 10,.un .not (.t 9),some (7, true)⟩,qp 11 7 10,qm 12 11,qmF 13 0 12,qmF 14 1 12,⟨some
 15,.bin .lss 3 false false (.t 13) (.t 14),some (12, false)⟩,qo 16 12 15,qm 4 16] []) .ret),[.tmp 4]⟩
def tab (f : FuncId) : Option CF := (cond (Nat.blt f 82)  (cond (Nat.blt f 41)   (cond (Nat.blt f 22)    (cond (Nat.blt f 13)     (cond (Nat.blt f 8)      (cond (Nat.blt f 6)       (cond (Nat.blt f 5)        (cond (Nat.beq f 4) (some c4) none)
  (cond (Nat.beq f 5) (some c5) none))       (cond (Nat.blt f 7)        (cond (Nat.beq f 6) (some c6) none)        (cond (Nat.beq f 7) (some c7) none)))      (cond (Nat.blt f 10)       (cond (Nat.blt f 9)        (cond (Nat.beq f 8) (some c8) none)
      (cond (Nat.beq f 9) (some c9) none))       (cond (Nat.blt f 11)        (cond (Nat.beq f 10) (some c10) none)        (cond (Nat.blt f 12)         (cond (Nat.beq f 11) (some c11) none)         (cond (Nat.beq f 12) (some c12) none)))))     (cond
 (Nat.blt f 17)      (cond (Nat.blt f 15)       (cond (Nat.blt f 14)        (cond (Nat.beq f 13) (some c13) none)        (cond (Nat.beq f 14) (some c14) none))       (cond (Nat.blt f 16)        (cond (Nat.beq f 15) (some c15) none)        (cond
 (Nat.beq f 16) (some c16) none)))      (cond (Nat.blt f 19)       (cond (Nat.blt f 18)        (cond (Nat.beq f 17) (some c17) none)        (cond (Nat.beq f 18) (some c18) none))       (cond (Nat.blt f 20)        (cond (Nat.beq f 19) (some c19)
 none)        (cond (Nat.blt f 21)         (cond (Nat.beq f 20) (some c20) none)         (cond (Nat.beq f 21) (some c21) none))))))    (cond (Nat.blt f 31)     (cond (Nat.blt f 26)      (cond (Nat.blt f 24)       (cond (Nat.blt f 23)        (cond
 (Nat.beq f 22) (some c22) none)        (cond (Nat.beq f 23) (some c23) none))       (cond (Nat.blt f 25)        (cond (Nat.beq f 24) (some c24) none)        (cond (Nat.beq f 25) (some c25) none)))      (cond (Nat.blt f 28)       (cond (Nat.blt f
 27)        (cond (Nat.beq f 26) (some c26) none)        (cond (Nat.beq f 27) (some c27) none))       (cond (Nat.blt f 29)        (cond (Nat.beq f 28) (some c28) none)        (cond (Nat.blt f 30)         (cond (Nat.beq f 29) (some c29) none)
 (cond (Nat.beq f 30) (some c30) none)))))     (cond (Nat.blt f 36)      (cond (Nat.blt f 33)       (cond (Nat.blt f 32)        (cond (Nat.beq f 31) (some c31) none)        (cond (Nat.beq f 32) (some c32) none))       (cond (Nat.blt f 34)
 (cond (Nat.beq f 33) (some c33) none)        (cond (Nat.blt f 35)         (cond (Nat.beq f 34) (some c34) none)         (cond (Nat.beq f 35) (some c35) none))))      (cond (Nat.blt f 38)       (cond (Nat.blt f 37)        (cond (Nat.beq f 36) (some
 c36) none)        (cond (Nat.beq f 37) (some c37) none))       (cond (Nat.blt f 39)        (cond (Nat.beq f 38) (some c38) none)        (cond (Nat.blt f 40)         (cond (Nat.beq f 39) (some c39) none)         (cond (Nat.beq f 40) (some c40)
 none)))))))   (cond (Nat.blt f 60)    (cond (Nat.blt f 51)     (cond (Nat.blt f 45)      (cond (Nat.blt f 43)       (cond (Nat.blt f 42)        (cond (Nat.beq f 41) (some c41) none)        (cond (Nat.beq f 42) (some c42) none))       (cond (Nat.blt
 f 44)        (cond (Nat.beq f 43) (some c43) none)        (cond (Nat.beq f 44) (some c44) none)))      (cond (Nat.blt f 48)       (cond (Nat.blt f 46)        (cond (Nat.beq f 45) (some c45) none)        (cond (Nat.beq f 46) (some c46) none))
 (cond (Nat.blt f 49)        (cond (Nat.beq f 48) (some c48) none)        (cond (Nat.blt f 50)         (cond (Nat.beq f 49) (some c49) none)         (cond (Nat.beq f 50) (some c50) none)))))     (cond (Nat.blt f 55)      (cond (Nat.blt f 53)
 (cond (Nat.blt f 52)        (cond (Nat.beq f 51) (some c51) none)        (cond (Nat.beq f 52) (some c52) none))       (cond (Nat.blt f 54)        (cond (Nat.beq f 53) (some c53) none)        (cond (Nat.beq f 54) (some c54) none)))      (cond
 (Nat.blt f 57)       (cond (Nat.blt f 56)        (cond (Nat.beq f 55) (some c55) none)        (cond (Nat.beq f 56) (some c56) none))       (cond (Nat.blt f 58)        (cond (Nat.beq f 57) (some c57) none)        (cond (Nat.blt f 59)         (cond
 (Nat.beq f 58) (some c58) none)         (cond (Nat.beq f 59) (some c59) none))))))    (cond (Nat.blt f 69)     (cond (Nat.blt f 64)      (cond (Nat.blt f 62)       (cond (Nat.blt f 61)        (cond (Nat.beq f 60) (some c60) none)        (cond
 (Nat.beq f 61) (some c61) none))       (cond (Nat.blt f 63)        (cond (Nat.beq f 62) (some c62) none)        (cond (Nat.beq f 63) (some c63) none)))      (cond (Nat.blt f 66)       (cond (Nat.blt f 65)        (cond (Nat.beq f 64) (some c64)
 none)        (cond (Nat.beq f 65) (some c65) none))       (cond (Nat.blt f 67)        (cond (Nat.beq f 66) (some c66) none)        (cond (Nat.blt f 68)         (cond (Nat.beq f 67) (some c67) none)         (cond (Nat.beq f 68) (some c68) none)))))
    (cond (Nat.blt f 74)      (cond (Nat.blt f 71)       (cond (Nat.blt f 70)        (cond (Nat.beq f 69) (some c69) none)        (cond (Nat.beq f 70) (some c70) none))       (cond (Nat.blt f 72)        (cond (Nat.beq f 71) (some c71) none)
 (cond (Nat.blt f 73)         (cond (Nat.beq f 72) (some c72) none)         (cond (Nat.beq f 73) (some c73) none))))      (cond (Nat.blt f 79)       (cond (Nat.blt f 78)        (cond (Nat.beq f 74) (some c74) none)        (cond (Nat.beq f 78) (some
 c78) none))       (cond (Nat.blt f 80)        (cond (Nat.beq f 79) (some c79) none)        (cond (Nat.blt f 81)         (cond (Nat.beq f 80) (some c80) none)         (cond (Nat.beq f 81) (some c81) none))))))))  (cond (Nat.blt f 124)   (cond
 (Nat.blt f 100)    (cond (Nat.blt f 91)     (cond (Nat.blt f 86)      (cond (Nat.blt f 84)       (cond (Nat.blt f 83)        (cond (Nat.beq f 82) (some c82) none)        (cond (Nat.beq f 83) (some c83) none))       (cond (Nat.blt f 85)        (cond
 (Nat.beq f 84) (some c84) none)        (cond (Nat.beq f 85) (some c85) none)))      (cond (Nat.blt f 88)       (cond (Nat.blt f 87)        (cond (Nat.beq f 86) (some c86) none)        (cond (Nat.beq f 87) (some c87) none))       (cond (Nat.blt f
 89)        (cond (Nat.beq f 88) (some c88) none)        (cond (Nat.blt f 90)         (cond (Nat.beq f 89) (some c89) none)         (cond (Nat.beq f 90) (some c90) none)))))     (cond (Nat.blt f 95)      (cond (Nat.blt f 93)       (cond (Nat.blt f
 92)        (cond (Nat.beq f 91) (some c91) none)        (cond (Nat.beq f 92) (some c92) none))       (cond (Nat.blt f 94)        (cond (Nat.beq f 93) (some c93) none)        (cond (Nat.beq f 94) (some c94) none)))      (cond (Nat.blt f 97)
 (cond (Nat.blt f 96)        (cond (Nat.beq f 95) (some c95) none)        (cond (Nat.beq f 96) (some c96) none))       (cond (Nat.blt f 98)        (cond (Nat.beq f 97) (some c97) none)        (cond (Nat.blt f 99)         (cond (Nat.beq f 98) (some
 c98) none)         (cond (Nat.beq f 99) (some c99) none))))))    (cond (Nat.blt f 111)     (cond (Nat.blt f 104)      (cond (Nat.blt f 102)       (cond (Nat.blt f 101)        (cond (Nat.beq f 100) (some c100) none)        (cond (Nat.beq f 101)
 (some c101) none))       (cond (Nat.blt f 103)        (cond (Nat.beq f 102) (some c102) none)        (cond (Nat.beq f 103) (some c103) none)))      (cond (Nat.blt f 108)       (cond (Nat.blt f 107)        (cond (Nat.beq f 104) (some c104) none)
    (cond (Nat.beq f 107) (some c107) none))       (cond (Nat.blt f 109)        (cond (Nat.beq f 108) (some c108) none)        (cond (Nat.blt f 110)         (cond (Nat.beq f 109) (some c109) none)         (cond (Nat.beq f 110) (some c110) none)))))
    (cond (Nat.blt f 117)      (cond (Nat.blt f 113)       (cond (Nat.blt f 112)        (cond (Nat.beq f 111) (some c111) none)        (cond (Nat.beq f 112) (some c112) none))       (cond (Nat.blt f 114)        (cond (Nat.beq f 113) (some c113)
 none)        (cond (Nat.blt f 115)         (cond (Nat.beq f 114) (some c114) none)         (cond (Nat.beq f 115) (some c115) none))))      (cond (Nat.blt f 121)       (cond (Nat.blt f 118)        (cond (Nat.beq f 117) (some c117) none)        (cond
 (Nat.beq f 118) (some c118) none))       (cond (Nat.blt f 122)        (cond (Nat.beq f 121) (some c121) none)        (cond (Nat.blt f 123)         (cond (Nat.beq f 122) (some c122) none)         (cond (Nat.beq f 123) (some c123) none)))))))   (cond
 (Nat.blt f 147)    (cond (Nat.blt f 135)     (cond (Nat.blt f 128)      (cond (Nat.blt f 126)       (cond (Nat.blt f 125)        (cond (Nat.beq f 124) (some c124) none)        (cond (Nat.beq f 125) (some c125) none))       (cond (Nat.blt f 127)
    (cond (Nat.beq f 126) (some c126) none)        (cond (Nat.beq f 127) (some c127) none)))      (cond (Nat.blt f 130)       (cond (Nat.blt f 129)        (cond (Nat.beq f 128) (some c128) none)        (cond (Nat.beq f 129) (some c129) none))
 (cond (Nat.blt f 131)        (cond (Nat.beq f 130) (some c130) none)        (cond (Nat.blt f 132)         (cond (Nat.beq f 131) (some c131) none)         (cond (Nat.beq f 132) (some c132) none)))))     (cond (Nat.blt f 140)      (cond (Nat.blt f
 138)       (cond (Nat.blt f 137)        (cond (Nat.beq f 135) (some c135) none)        (cond (Nat.beq f 137) (some c137) none))       (cond (Nat.blt f 139)        (cond (Nat.beq f 138) (some c138) none)        (cond (Nat.beq f 139) (some c139)
 none)))      (cond (Nat.blt f 144)       (cond (Nat.blt f 143)        (cond (Nat.beq f 140) (some c140) none)        (cond (Nat.beq f 143) (some c143) none))       (cond (Nat.blt f 145)        (cond (Nat.beq f 144) (some c144) none)        (cond
 (Nat.blt f 146)         (cond (Nat.beq f 145) (some c145) none)         (cond (Nat.beq f 146) (some c146) none))))))    (cond (Nat.blt f 161)     (cond (Nat.blt f 154)      (cond (Nat.blt f 150)       (cond (Nat.blt f 149)        (cond (Nat.beq f
 147) (some c147) none)        (cond (Nat.beq f 149) (some c149) none))       (cond (Nat.blt f 153)        (cond (Nat.beq f 150) (some c150) none)        (cond (Nat.beq f 153) (some c153) none)))      (cond (Nat.blt f 158)       (cond (Nat.blt f
 157)        (cond (Nat.beq f 154) (some c154) none)        (cond (Nat.beq f 157) (some c157) none))       (cond (Nat.blt f 159)        (cond (Nat.beq f 158) (some c158) none)        (cond (Nat.blt f 160)         (cond (Nat.beq f 159) (some c159)
 none)         (cond (Nat.beq f 160) (some c160) none)))))     (cond (Nat.blt f 178)      (cond (Nat.blt f 164)       (cond (Nat.blt f 163)        (cond (Nat.beq f 161) (some c161) none)        (cond (Nat.beq f 163) (some c163) none))       (cond
 (Nat.blt f 169)        (cond (Nat.beq f 164) (some c164) none)        (cond (Nat.blt f 170)         (cond (Nat.beq f 169) (some c169) none)         (cond (Nat.beq f 170) (some c170) none))))      (cond (Nat.blt f 183)       (cond (Nat.blt f 179)
     (cond (Nat.beq f 178) (some c178) none)        (cond (Nat.beq f 179) (some c179) none))       (cond (Nat.blt f 186)        (cond (Nat.beq f 183) (some c183) none)        (cond (Nat.blt f 192)         (cond (Nat.beq f 186) (some c186) none)
    (cond (Nat.beq f 192) (some c192) none)))))))))
end Go.Evl.Zone

namespace Go.Evl.Zone
open Go Go.Evl
def splitL (c : UInt8) : List UInt8 → List (List UInt8)
  | [] => [[]]
  | b :: l => if b = c then [] :: splitL c l else match splitL c l with
    | x :: xs => (b :: x) :: xs
    | [] => [[b]]
def joinL (sep : List UInt8) : List (List UInt8) → List UInt8
  | [] => []
  | [x] => x
  | x :: y :: r => x ++ sep ++ joinL sep (y :: r)
def digL : Nat → Nat → List UInt8 → List UInt8
  | 0, _, acc => acc
  | f + 1, n, acc => if n < 10 then UInt8.ofNat (48 + n) :: acc else digL f (n / 10) (UInt8.ofNat (48 + n % 10) :: acc)
def itoaL (n : Int) : List UInt8 := if n < 0 then 45 :: digL 20 n.natAbs [] else digL 20 n.natAbs []
def strOf (l : List UInt8) : PV := .val (.string ⟨l.toArray⟩)
def strs : List (List PV) → Option (List (List UInt8))
  | [] => some []
  | [.val (.string s)] :: r => (strs r).map fun l => s.data.toList :: l
  | _ :: _ => none
def pSplit (args : List PV) (H : Heap) : Option ORes :=
  match args with
  | [.val (.string s), .val (.string p)] => match p.data.toList with
    | [c] => if s.size < 4294967281 then some ⟨.im ((splitL c s.data.toList).map fun x => [strOf x]) false, H, [], some []⟩ else none
    | _ => none
  | _ => none
def pJoin (args : List PV) (H : Heap) : Option ORes :=
  match args with
  | [.val _, _] => none
  | [x, .val (.string p)] => match elems H 1 x with
    | some (xs, is) => match strs xs with
      | some l => if l.length ≤ 140737488355328 ∧ (joinL p.data.toList l).length ≤ 140737488355328 then some ⟨strOf (joinL p.data.toList l), H, [], some is⟩ else none
      | none => none
    | none => none
  | _ => none
def pItoa (args : List PV) (H : Heap) : Option ORes :=
  match args with
  | [.val (.int .i64 n)] => if -9223372036854775808 ≤ n ∧ n ≤ 9223372036854775807 then some ⟨strOf (itoaL n), H, [], some []⟩ else none
  | _ => none
def pAtoi (args : List PV) (H : Heap) : Option ORes :=
  match args with
  | [.val (.string s)] => if s.size ≤ 281474976710656 then
      match Lib.atoiAll s.data.toList with
      | .ok v => some ⟨.tup [.val (.int .i64 v), .val .nilIface], H, [], some []⟩
      | .range => some ⟨.tup [.val (.int .i64 (Lib.atoiSat s.data.toList)), .ifc], H, [], some []⟩
      | _ => some ⟨.tup [.val (.int .i64 0), .ifc], H, [], some []⟩
    else none
  | _ => none
def pTrunc (args : List PV) (H : Heap) : Option ORes :=
  match args with
  | [.val (.float .f64 b)] => match FloatKind.f64.decode b with
    | .nan _ _ => none
    | d => some ⟨.val (.float .f64 (FloatKind.f64.encode (d.integral .zero))), H, [], some []⟩
  | _ => none
def pCompare (args : List PV) (H : Heap) : Option ORes :=
  match args with
  | [.val (.string a), .val (.string b)] => some ⟨.val (.int .i64 (Lib.compareBytes a.data.toList b.data.toList)), H, [], some []⟩
  | _ => none
def isStr : PV → Bool
  | .val (.string _) => true
  | _ => false
def pClone (k : Nat) (args : List PV) (H : Heap) : Option ORes :=
  match args with
  | [x] => if isStr x then none else match elems H k x with
    | some (ys, is) => if ys.length = 0 then some ⟨.im [] true, H.grow 1, [], some is⟩
      else if ys.length ≤ most then some ⟨.sl H.n k ys.length 0 ys.length, (H.grow 1).put H.n (.row k ys true), [H.n], some is⟩ else none
    | none => none
  | _ => none
def pCloneF (k : Nat) (args : List PV) (H : Heap) : Option ORes :=
  match args with
  | [.im xs fl] => if allLen k xs ∧ xs.length ≤ most then match plainss xs with
      | some ys => some ⟨.im ys false, H, [], some []⟩
      | none => none
    else none
  | _ => none
def pGrow (k : Nat) (args : List PV) (H : Heap) : Option ORes :=
  match args with
  | [.im [] true, .val (.int .i64 n)] => if n = 0 then some ⟨.im [] true, H.grow 1, [], some []⟩
    else if 0 < n ∧ n ≤ most then some ⟨.sl H.n k 0 0 0, (H.grow 1).put H.n (.row k [] true), [H.n], some []⟩ else none
  | _ => none
def frozF : FuncId → FuncId → Bool
  | 35, 75 => true
  | 35, 76 => true
  | 35, 47 => true
  | 35, 77 => true
  | 18, 47 => true
  | 70, 106 => true
  | 145, 106 => true
  | 79, 75 => true
  | 37, 75 => true
  | _, _ => false
def prim (c : FuncId) : FuncId → Option (List PV → Heap → Option ORes)
  | 136 => some pTrunc
  | 151 => some pCompare
  | 47 => cond (frozF c 47) (some (pCloneF 3)) (some (pClone 3))
  | 75 => cond (frozF c 75) (some (pCloneF 2)) (some (pClone 2))
  | 76 => cond (frozF c 76) (some (pCloneF 8)) (some (pClone 8))
  | 77 => cond (frozF c 77) (some (pCloneF 1)) (some (pClone 1))
  | 105 => some (pClone 3)
  | 116 => some (pClone 2)
  | 106 => cond (frozF c 106) (some (pCloneF 1)) (some (pClone 1))
  | 148 => some (pGrow 1)
  | 168 => some (pGrow 1)
  | _ => none
def inlF : FuncId → Bool
  | 113 => true
  | 149 => true
  | 170 => true
  | 115 => true
  | 144 => true
  | 169 => true
  | 186 => true
  | 146 => true
  | 139 => true
  | 117 => true
  | 153 => true
  | 131 => true
  | 108 => true
  | 121 => true
  | 80 => true
  | 99 => true
  | _ => false
def keepF : FuncId → FuncId → Bool
  | 123, 157 => true
  | 125, 158 => true
  | 42, 89 => true
  | _, 70 => true
  | _, 71 => true
  | _, 79 => true
  | _, 109 => true
  | _, 82 => true
  | _, 122 => true
  | _, 101 => true
  | _, 112 => true
  | _, 143 => true
  | _, 130 => true
  | _, _ => false
def howF (f g : FuncId) : How := if inlF g then .inl else if keepF f g then .keep else .own
def env (P : Program) : Env := ⟨P, howF, tab, prim⟩
end Go.Evl.Zone
