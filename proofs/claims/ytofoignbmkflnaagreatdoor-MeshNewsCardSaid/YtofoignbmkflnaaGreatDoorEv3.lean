/- The evaluator's texts DTab to ZPrim, joined. -/
import Derived.Test.YtofoignbmkflnaaGreatDoorEv2
import Derived.Lib.AtoiAll
import Derived.Lib.Bytealg
set_option linter.all false
set_option linter.deprecated false
set_option linter.unusedVariables false
set_option linter.unusedSimpArgs false
set_option linter.unnecessarySimpa false
set_option maxRecDepth 100000
namespace Go.Evl.Zone
open Go Go.Evl
@[reducible] def qm (d : Nat) (a : Nat) : CI := ⟨some d, .mv (.t a), none⟩
@[reducible] def qmT (d : Nat) (a : Nat) (g : Nat) : CI := ⟨some d, .mv (.t a), some (g, true)⟩
@[reducible] def qmF (d : Nat) (a : Nat) (g : Nat) : CI := ⟨some d, .mv (.t a), some (g, false)⟩
@[reducible] def ql (d : Nat) (a : Nat) : CI := ⟨some d, .ld 1 false (.t a), none⟩
@[reducible] def qlT (d : Nat) (a : Nat) (g : Nat) : CI := ⟨some d, .ld 1 false (.t a), some (g, true)⟩
@[reducible] def qlF (d : Nat) (a : Nat) (g : Nat) : CI := ⟨some d, .ld 1 false (.t a), some (g, false)⟩
@[reducible] def qa (d : Nat) (a : Nat) (b : Nat) : CI := ⟨some d, .fad a (.t b), none⟩
@[reducible] def qaT (d : Nat) (a : Nat) (b : Nat) (g : Nat) : CI := ⟨some d, .fad a (.t b), some (g, true)⟩
@[reducible] def qaF (d : Nat) (a : Nat) (b : Nat) (g : Nat) : CI := ⟨some d, .fad a (.t b), some (g, false)⟩
@[reducible] def qf (d : Nat) : CI := ⟨some d, .mv (.c (.val (.bool false))), none⟩
@[reducible] def qt (d : Nat) : CI := ⟨some d, .mv (.c (.val (.bool true))), none⟩
@[reducible] def qi (d : Nat) (a : Int) : CI := ⟨some d, .mv (.c (.val (.int .i64 a))), none⟩
@[reducible] def qp (d : Nat) (a : Nat) (b : Nat) : CI := ⟨some d, .pick (.t a) (.t b) (.c (.val (.bool false))), none⟩
@[reducible] def qpF (d : Nat) (a : Nat) (b : Nat) (g : Nat) : CI := ⟨some d, .pick (.t a) (.t b) (.c (.val (.bool false))), some (g, false)⟩
@[reducible] def qo (d : Nat) (a : Nat) (b : Nat) : CI := ⟨some d, .pick (.t a) (.c (.val (.bool true))) (.t b), none⟩
@[reducible] def qn (d : Nat) (a : Nat) : CI := ⟨some d, .nck (.t a), none⟩
@[reducible] def qc (d : Nat) (a : Nat) (b : Nat) : CI := ⟨some d, .call (.c (.fn a [])) [.t b], none⟩
@[reducible] def qcT (d : Nat) (a : Nat) (b : Nat) (g : Nat) : CI := ⟨some d, .call (.c (.fn a [])) [.t b], some (g, true)⟩
@[reducible] def qcF (d : Nat) (a : Nat) (b : Nat) (g : Nat) : CI := ⟨some d, .call (.c (.fn a [])) [.t b], some (g, false)⟩
@[reducible] def qe (d : Nat) (a : Nat) : CI := ⟨some d, .len false (.t a), none⟩
@[reducible] def qeT (d : Nat) (a : Nat) (g : Nat) : CI := ⟨some d, .len false (.t a), some (g, true)⟩
@[reducible] def qs (d : Nat) (a : Nat) : CI := ⟨some d, .bin .add 3 false true (.t a) (.c (.val (.int .i64 1))), none⟩
@[reducible] def qq (d : Nat) (a : Nat) (b : Int) : CI := ⟨some d, .bin .eql 3 false true (.t a) (.c (.val (.int .i64 b))), none⟩
@[reducible] def qqT (d : Nat) (a : Nat) (b : Int) (g : Nat) : CI := ⟨some d, .bin .eql 3 false true (.t a) (.c (.val (.int .i64 b))), some (g, true)⟩
@[reducible] def qqF (d : Nat) (a : Nat) (b : Int) (g : Nat) : CI := ⟨some d, .bin .eql 3 false true (.t a) (.c (.val (.int .i64 b))), some (g, false)⟩
@[reducible] def qz (d : Nat) (a : Nat) (b : Nat) : CI := ⟨some d, .bin .lss 3 false false (.t a) (.t b), none⟩
@[reducible] def qx (d : Nat) (a : Nat) (b : Nat) : CI := ⟨some d, .ias 1 (.t a) (.t b), none⟩
@[reducible] def qd (d : Nat) (a : Nat) (b : Nat) (c : Int) : CI := ⟨some d, .call (.c (.fn a [])) [.t b,.c (.val (.int .i64 c))], none⟩
@[reducible] def qb (d : Nat) (a : Nat) : CI := ⟨some d, .un .not (.t a), none⟩
@[reducible] def qbT (d : Nat) (a : Nat) (g : Nat) : CI := ⟨some d, .un .not (.t a), some (g, true)⟩
@[reducible] def qbF (d : Nat) (a : Nat) (g : Nat) : CI := ⟨some d, .un .not (.t a), some (g, false)⟩
@[reducible] def qj (d : Nat) : CI := ⟨some d, .mv (.c (.im [] true)), none⟩
@[reducible] def qk (d : Nat) (a : Nat) (b : Nat) (c : Nat) : CI := ⟨some d, .call (.c (.fn a [])) [.t b,.t c], none⟩
@[reducible] def qkT (d : Nat) (a : Nat) (b : Nat) (c : Nat) (g : Nat) : CI := ⟨some d, .call (.c (.fn a [])) [.t b,.t c], some (g, true)⟩
@[reducible] def qw (n a b : Nat) : CI := ⟨none, .st n (.t a) (.t b), none⟩
def c3 : CF := ⟨.seq (.reg false [qf 2] []) (.seq (.reg false [qm 6 0,qc 7 4 6,qm 5 7,⟨some 8,.ext (.t 5) 0,none⟩,⟨some 9,.ext (.t 5) 1,none⟩,⟨some 3,.alloc [.im [] true,.im [] true,.val (.int .i64 0)],none⟩,qw 3 3 8,qm 4 9] []) (.seq (.seq (.reg
 false [qm 10 0,⟨some 11,.bin .lss 3 false true (.t 10) (.c (.val (.int .i64 1))),none⟩,qm 12 11,qmF 13 0 12,⟨some 14,.bin .gtr 3 false true (.t 13) (.c (.val (.int .i64 32))),some (12, false)⟩,qo 15 12 14] []) (.cond (.t 15) (.seq (.reg false
 [⟨some 16,.call (.c (.fn 5 [])) [],none⟩,qm 17 16,qmT 18 4 17,⟨some 19,.bin .eql 27 false true (.t 18) (.c (.val (.int .i64 1))),some (17, true)⟩,qp 20 17 19,qm 21 20,qaT 22 0 3 21,qlT 23 22 21,qeT 24 23 21,qqT 25 24 0 21,qp 26 21 25,qm 2 26] [])
 .ret) .skip)) (.seq (.reg false [⟨some 27,.call (.c (.fn 5 [])) [],none⟩,qm 28 27,qmT 29 4 28,⟨some 30,.bin .eql 27 false true (.t 29) (.c (.val (.int .i64 0))),some (28, true)⟩,qp 31 28 30,qm 32 31,⟨some 33,.ld 3 true (.t 3),some (32, true)⟩,qcT
 34 7 33 32,qmT 35 0 32,qcT 36 8 35 32,qkT 37 6 34 36 32,qp 38 32 37,qm 2 38] []) .ret))),[.tmp 2]⟩
def c4 : CF := ⟨.seq (.reg false [⟨some 2,.alloc [.im [] true,.im [] true,.val (.int .i64 0)],none⟩,qi 3 0] []) (.seq (.seq (.reg false [qm 4 0,⟨some 5,.bin .lss 3 false true (.t 4) (.c (.val (.int .i64 1))),none⟩,qm 6 5,qmF 7 0 6,⟨some 8,.bin .gtr
 3 false true (.t 7) (.c (.val (.int .i64 32))),some (6, false)⟩,qo 9 6 8] []) (.cond (.t 9) (.seq (.reg false [⟨some 10,.build [.im [] true,.im [] true,.val (.int .i64 0)] [],none⟩,qw 3 2 10,qi 3 1] []) .ret) .skip)) (.seq (.reg false [⟨some
 11,.call (.c (.fn 9 [])) [],none⟩,⟨some 12,.bsl 13 1 [.val (.string ⟨#[]⟩),.val (.int .i64 0),.val (.int .i64 0),.val (.int .i64 0),.val (.int .i64 0),.im [] true,.im [] true,.im [] true,.im [] true,.im [] true,.im [] true,.im [] true,.im [] true]
 [(0, 13, (.t 11))],none⟩,qm 13 0,⟨some 14,.build [.im [] true,.im [] true,.val (.int .i64 0)] [(0, 1, (.t 12)),(2, 1, (.t 13))],none⟩,qw 3 2 14,qi 3 0] []) .ret)),[.cell 2 3 true,.tmp 3]⟩
def L5_0 : CC := (.seq (.seq (.reg false [qm 21 4,qm 22 3,qe 23 22,qz 24 21 23] []) (.cond (.t 24) .skip (.exit 0))) (.seq (.block 1 (.seq (.reg true [⟨some 28,.ld 3 true (.t 1),none⟩,qm 29 3,qm 30 4,⟨some 31,.ias 8 (.t 29) (.t 30),none⟩,⟨some
 32,.ld 8 true (.t 31),none⟩,qk 33 10 28 32,qm 27 33,⟨some 34,.ext (.t 27) 0,none⟩,⟨some 35,.ext (.t 27) 1,none⟩,⟨some 5,.alloc [.im [] true,.im [] true,.val (.int .i64 0)],none⟩,qw 3 5 34,qm 6 35] [(0, 9),(4, 9),(5, 9)]) (.seq (.seq (.reg false [qm
 36 6,⟨some 37,.bin .neq 27 false true (.t 36) (.c (.val (.int .i64 0))),none⟩] []) (.cond (.t 37) (.seq (.reg false [qf 0] []) .ret) .skip)) (.reg false [⟨some 38,.ld 3 true (.t 5),none⟩,qw 3 1 38] [])))) (.reg false [qm 25 4,qs 26 25,qm 4 26] [])))
def c5 : CF := ⟨.seq (.reg false [qf 0] []) (.seq (.reg false [⟨some 12,.call (.c (.fn 4 [])) [.c (.val (.int .i64 4))],none⟩,qm 11 12,⟨some 13,.ext (.t 11) 0,none⟩,⟨some 14,.ext (.t 11) 1,none⟩,⟨some 1,.alloc [.im [] true,.im [] true,.val (.int
 .i64 0)],none⟩,qw 3 1 13,qm 2 14] []) (.seq (.reg false [⟨some 15,.build [.val (.int .i64 0),.val (.string ⟨#[]⟩),.val (.string ⟨#[]⟩),.val (.int .i64 0),.val (.int .i64 0),.val (.complex .f64 0 0),.val (.string ⟨#[]⟩),.im [] true] [(0, 1, (.c
 (.val (.int .i64 3)))),(1, 1, (.c (.val (.string ⟨#[48]⟩))))],none⟩,⟨some 16,.build [.val (.int .i64 0),.val (.string ⟨#[]⟩),.val (.string ⟨#[]⟩),.val (.int .i64 0),.val (.int .i64 0),.val (.complex .f64 0 0),.val (.string ⟨#[]⟩),.im [] true] [(0,
 1, (.c (.val (.int .i64 0)))),(1, 1, (.c (.val (.string ⟨#[48]⟩)))),(3, 1, (.c (.val (.int .i64 2)))),(6, 1, (.c (.val (.string ⟨#[120]⟩))))],none⟩,⟨some 17,.build [.val (.int .i64 0),.val (.string ⟨#[]⟩),.val (.string ⟨#[]⟩),.val (.int .i64
 0),.val (.int .i64 0),.val (.complex .f64 0 0),.val (.string ⟨#[]⟩),.im [] true] [(0, 1, (.c (.val (.int .i64 4)))),(1, 1, (.c (.val (.string ⟨#[48,49]⟩)))),(2, 1, (.c (.val (.string ⟨#[48]⟩))))],none⟩,⟨some 18,.build [.val (.int .i64 0),.val
 (.string ⟨#[]⟩),.val (.string ⟨#[]⟩),.val (.int .i64 0),.val (.int .i64 0),.val (.complex .f64 0 0),.val (.string ⟨#[]⟩),.im [] true] [(0, 1, (.c (.val (.int .i64 5))))],none⟩,⟨some 19,.build [.val (.int .i64 0),.val (.string ⟨#[]⟩),.val (.string
 ⟨#[]⟩),.val (.int .i64 0),.val (.int .i64 0),.val (.complex .f64 0 0),.val (.string ⟨#[]⟩),.im [] true] [(0, 1, (.c (.val (.int .i64 5))))],none⟩,⟨some 20,.bsl 8 5 [.val (.int .i64 0),.val (.string ⟨#[]⟩),.val (.string ⟨#[]⟩),.val (.int .i64
 0),.val (.int .i64 0),.val (.complex .f64 0 0),.val (.string ⟨#[]⟩),.im [] true,.val (.int .i64 0),.val (.string ⟨#[]⟩),.val (.string ⟨#[]⟩),.val (.int .i64 0),.val (.int .i64 0),.val (.complex .f64 0 0),.val (.string ⟨#[]⟩),.im [] true,.val (.int
 .i64 0),.val (.string ⟨#[]⟩),.val (.string ⟨#[]⟩),.val (.int .i64 0),.val (.int .i64 0),.val (.complex .f64 0 0),.val (.string ⟨#[]⟩),.im [] true,.val (.int .i64 0),.val (.string ⟨#[]⟩),.val (.string ⟨#[]⟩),.val (.int .i64 0),.val (.int .i64
 0),.val (.complex .f64 0 0),.val (.string ⟨#[]⟩),.im [] true,.val (.int .i64 0),.val (.string ⟨#[]⟩),.val (.string ⟨#[]⟩),.val (.int .i64 0),.val (.int .i64 0),.val (.complex .f64 0 0),.val (.string ⟨#[]⟩),.im [] true] [(0, 8, (.t 15)),(8, 8, (.t
 16)),(16, 8, (.t 17)),(24, 8, (.t 18)),(32, 8, (.t 19))],none⟩,qm 3 20] []) (.seq (.seq (.reg false [qi 4 0] []) (.block 0 (.loop L5_0))) (.seq (.reg false [⟨some 40,.ld 3 true (.t 1),none⟩,⟨some 41,.call (.c (.fn 11 [])) [.t 40,.c (.val (.string
 ⟨#[48,49]⟩))],none⟩,qm 39 41,⟨some 42,.ext (.t 39) 0,none⟩,⟨some 43,.ext (.t 39) 1,none⟩,⟨some 7,.alloc [.val (.string ⟨#[]⟩),.val (.int .i64 0),.val (.int .i64 0),.val (.int .i64 0),.val (.int .i64 0),.im [] true,.im [] true,.im [] true,.im []
 true,.im [] true,.im [] true,.im [] true,.im [] true],none⟩,qw 13 7 42,qm 8 43] []) (.seq (.reg false [⟨some 45,.ld 13 true (.t 7),none⟩,qd 46 12 45 2,qm 44 46,⟨some 47,.ext (.t 44) 0,none⟩,⟨some 48,.ext (.t 44) 1,none⟩,qm 9 47,qm 10 48] []) (.seq
 (.reg false [qm 49 2,⟨some 50,.bin .eql 27 false true (.t 49) (.c (.val (.int .i64 0))),none⟩,qm 51 50,qmT 52 8 51,qp 53 51 52,qm 54 53,qmT 55 10 54,⟨some 56,.bin .eql 27 false true (.t 55) (.c (.val (.int .i64 0))),some (54, true)⟩,qp 57 54 56,qm
 58 57,qmT 59 9 58,⟨some 60,.bin .eql 9 false true (.t 59) (.c (.val (.string ⟨#[120]⟩))),some (58, true)⟩,qp 61 58 60,qm 62 61,qaT 63 1 1 62,qlT 64 63 62,qeT 65 64 62,qqT 66 65 0 62,qp 67 62 66,qm 68 67,⟨some 69,.ld 3 true (.t 1),some (68,
 true)⟩,qcT 70 13 69 68,qeT 71 70 68,qqT 72 71 2 68,qp 73 68 72,qm 0 73] []) .ret)))))),[.tmp 0]⟩
def L6_0 : CC := (.seq (.seq (.reg false [qm 28 5,qa 29 0 2,ql 30 29,qe 31 30,qz 32 28 31] []) (.cond (.t 32) .skip (.exit 0))) (.seq (.block 1 (.seq (.reg true [qa 35 0 2,ql 36 35,qm 37 5,⟨some 38,.ias 13 (.t 36) (.t 37),none⟩,⟨some 39,.ld 13 true
 (.t 38),none⟩,qa 40 0 3,ql 41 40,qm 42 5,⟨some 43,.ias 13 (.t 41) (.t 42),none⟩,⟨some 44,.ld 13 true (.t 43),none⟩,qk 45 15 39 44,qb 46 45] []) (.cond (.t 46) (.seq (.reg false [qf 4] []) .ret) .skip))) (.reg false [qm 33 5,qs 34 33,qm 5 34] [])))
def c6 : CF := ⟨.seq (.reg false [⟨some 2,.box (.t 0),none⟩,⟨some 3,.box (.t 1),none⟩,qf 4] []) (.seq (.seq (.reg false [qa 6 0 2,ql 7 6,qe 8 7,qa 9 0 3,ql 10 9,qe 11 10,⟨some 12,.bin .neq 3 false false (.t 8) (.t 11),none⟩,qm 13 12,qaF 14 2 2
 13,qlF 15 14 13,qaF 16 2 3 13,qlF 17 16 13,⟨some 18,.bin .neq 3 false false (.t 15) (.t 17),some (13, false)⟩,qo 19 13 18,qm 20 19,qaF 21 1 2 20,qlF 22 21 20,qaF 23 1 3 20,qlF 24 23 20,⟨some 25,.call (.c (.fn 14 [])) [.t 22,.t 24],some (20,
 false)⟩,qbF 26 25 20,qo 27 20 26] []) (.cond (.t 27) (.seq (.reg false [qf 4] []) .ret) .skip)) (.seq (.seq (.reg false [qi 5 0] []) (.block 0 (.loop L6_0))) (.seq (.reg false [qt 4] []) .ret))),[.tmp 4]⟩
def L7_0 : CC := (.seq (.seq (.reg false [qm 9 4,qa 10 0 1,ql 11 10,qe 12 11,qz 13 9 12] []) (.cond (.t 13) .skip (.exit 0))) (.seq (.block 1 (.reg true [qa 16 0 3,ql 17 16,qa 18 0 1,ql 19 18,qm 20 4,⟨some 21,.ias 13 (.t 19) (.t 20),none⟩,⟨some
 22,.ld 13 true (.t 21),none⟩,qc 23 16 22,⟨some 24,.bsl 13 1 [.val (.string ⟨#[]⟩),.val (.int .i64 0),.val (.int .i64 0),.val (.int .i64 0),.val (.int .i64 0),.im [] true,.im [] true,.im [] true,.im [] true,.im [] true,.im [] true,.im [] true,.im []
 true] [(0, 13, (.t 23))],none⟩,⟨some 25,.app 13 (.t 17) (.t 24),none⟩,qa 26 0 3,qw 1 26 25] [(1, 7),(1, 8)])) (.reg false [qm 14 4,qs 15 14,qm 4 15] [])))
def L7_1 : CC := (.seq (.seq (.reg false [qm 27 5,qa 28 1 1,ql 29 28,qe 30 29,qz 31 27 30] []) (.cond (.t 31) .skip (.exit 2))) (.seq (.block 3 (.reg true [qa 34 1 3,ql 35 34,qa 36 1 1,ql 37 36,qm 38 5,qx 39 37 38,ql 40 39,⟨some 41,.bsl 1 1 [.im []
 true] [(0, 1, (.t 40))],none⟩,⟨some 42,.app 1 (.t 35) (.t 41),none⟩,qa 43 1 3,qw 1 43 42] [(1, 7)])) (.reg false [qm 32 5,qs 33 32,qm 5 33] [])))
def c7 : CF := ⟨.seq (.reg false [⟨some 1,.box (.t 0),none⟩,⟨some 2,.alloc [.im [] true,.im [] true,.val (.int .i64 0)],none⟩] []) (.seq (.reg false [qa 6 2 1,ql 7 6,⟨some 8,.build [.im [] true,.im [] true,.val (.int .i64 0)] [(2, 1, (.t
 7))],none⟩,⟨some 3,.alloc [.im [] true,.im [] true,.val (.int .i64 0)],none⟩,qw 3 3 8] []) (.seq (.seq (.reg false [qi 4 0] []) (.block 0 (.loop L7_0))) (.seq (.seq (.reg false [qi 5 0] []) (.block 2 (.loop L7_1))) (.seq (.reg false [⟨some 44,.ld 3
 true (.t 3),none⟩,qw 3 2 44] []) .ret)))),[.cell 2 3 true]⟩
def c8 : CF := ⟨.seq (.reg false [⟨some 2,.alloc [.im [] true,.im [] true,.val (.int .i64 0)],none⟩] []) (.seq (.reg false [⟨some 3,.call (.c (.fn 17 [])) [],none⟩,⟨some 4,.bsl 13 1 [.val (.string ⟨#[]⟩),.val (.int .i64 0),.val (.int .i64 0),.val
 (.int .i64 0),.val (.int .i64 0),.im [] true,.im [] true,.im [] true,.im [] true,.im [] true,.im [] true,.im [] true,.im [] true] [(0, 13, (.t 3))],none⟩,qm 5 0,⟨some 6,.build [.im [] true,.im [] true,.val (.int .i64 0)] [(0, 1, (.t 4)),(2, 1, (.t
 5))],none⟩,qw 3 2 6] []) .ret),[.cell 2 3 true]⟩
def c9 : CF := ⟨.seq (.reg false [⟨some 0,.alloc [.val (.string ⟨#[]⟩),.val (.int .i64 0),.val (.int .i64 0),.val (.int .i64 0),.val (.int .i64 0),.im [] true,.im [] true,.im [] true,.im [] true,.im [] true,.im [] true,.im [] true,.im []
 true],none⟩] []) (.seq (.reg false [⟨some 1,.call (.c (.fn 18 [])) [],none⟩,⟨some 2,.bsl 1 1 [.val (.string ⟨#[]⟩)] [(0, 1, (.c (.val (.string ⟨#[48]⟩))))],none⟩,⟨some 3,.build [.val (.string ⟨#[]⟩),.val (.int .i64 0),.val (.int .i64 0),.val (.int
 .i64 0),.val (.int .i64 0),.im [] true,.im [] true,.im [] true,.im [] true,.im [] true,.im [] true,.im [] true,.im [] true] [(0, 1, (.c (.val (.string ⟨#[48]⟩)))),(9, 1, (.t 1)),(10, 1, (.t 2))],none⟩,qw 13 0 3] []) .ret),[.cell 0 13 true]⟩
def c10 : CF := ⟨.seq (.reg false [⟨some 2,.box (.t 0),none⟩,⟨some 3,.box (.t 1),none⟩,⟨some 4,.alloc [.im [] true,.im [] true,.val (.int .i64 0)],none⟩,qi 5 0] []) (.seq (.seq (.reg false [qa 8 0 3,ql 9 8,⟨some 10,.bin .lss 3 false true (.t 9) (.c
 (.val (.int .i64 0))),none⟩,qm 11 10,qaF 12 0 3 11,qlF 13 12 11,⟨some 14,.bin .gtr 3 false true (.t 13) (.c (.val (.int .i64 10))),some (11, false)⟩,qo 15 11 14] []) (.cond (.t 15) (.seq (.reg false [⟨some 16,.ld 3 true (.t 2),none⟩,qw 3 4 16,qi 5
 1] []) .ret) .skip)) (.seq (.reg false [⟨some 17,.ld 3 true (.t 2),none⟩,qc 18 19 17,qw 3 2 18] []) (.seq (.seq (.reg false [qa 19 0 3,ql 20 19,⟨some 21,.bin .geq 3 false true (.t 20) (.c (.val (.int .i64 5))),none⟩,qm 22 21,qaT 23 0 3 22,qlT 24 23
 22,⟨some 25,.bin .leq 3 false true (.t 24) (.c (.val (.int .i64 7))),some (22, true)⟩,qp 26 22 25] []) (.cond (.t 26) (.seq (.reg false [⟨some 27,.ld 3 true (.t 2),none⟩,⟨some 28,.ld 8 true (.t 3),none⟩,qk 29 20 27 28,⟨some 30,.ext (.t 29)
 0,none⟩,⟨some 31,.ext (.t 29) 1,none⟩,qw 3 4 30,qm 5 31] []) .ret) .skip)) (.seq (.reg true [⟨some 32,.ld 3 true (.t 2),none⟩,qa 33 1 3,ql 34 33,qk 35 21 32 34,⟨some 36,.ld 3 true (.t 2),none⟩,qa 37 2 3,ql 38 37,qk 39 21 36 38,qm 6 35,qm 7 39] [(3,
 4),(3, 6)]) (.seq (.block 0 (.seq (.seq (.reg false [qm 41 6,⟨some 42,.bin .lss 3 false true (.t 41) (.c (.val (.int .i64 0))),none⟩,qm 40 42] []) (.cond (.t 40) .skip (.reg false [qa 43 0 3,ql 44 43,qq 45 44 4,qm 46 45,qaF 47 0 3 46,qlF 48 47
 46,qqF 49 48 8 46,qo 50 46 49,qm 51 50,qmT 52 7 51,⟨some 53,.bin .lss 3 false true (.t 52) (.c (.val (.int .i64 0))),some (51, true)⟩,qp 54 51 53,qm 40 54] []))) (.cond (.t 40) (.seq (.reg false [⟨some 55,.ld 3 true (.t 2),none⟩,qw 3 4 55,qi 5 4]
 []) .ret) (.seq (.reg false [qa 57 0 3,ql 58 57,qq 59 58 3,qm 56 59] []) (.cond (.t 56) (.seq (.reg false [⟨some 60,.ld 3 true (.t 2),none⟩,qm 61 6,qk 62 22 60 61,⟨some 63,.ext (.t 62) 0,none⟩,⟨some 64,.ext (.t 62) 1,none⟩,qw 3 4 63,qm 5 64] [])
 .ret) (.seq (.reg false [qa 66 0 3,ql 67 66,qq 68 67 4,qm 65 68] []) (.cond (.t 65) (.seq (.reg false [⟨some 69,.ld 3 true (.t 2),none⟩,qm 70 6,qa 71 2 3,ql 72 71,⟨some 73,.call (.c (.fn 23 [])) [.t 69,.t 70,.t 72],none⟩,⟨some 74,.ext (.t 73)
 0,none⟩,⟨some 75,.ext (.t 73) 1,none⟩,qw 3 4 74,qm 5 75] []) .ret) (.seq (.reg false [qa 77 0 3,ql 78 77,qq 79 78 8,qm 76 79] []) (.cond (.t 76) (.seq (.reg false [⟨some 80,.ld 3 true (.t 2),none⟩,qm 81 6,qm 82 7,⟨some 83,.call (.c (.fn 24 [])) [.t
 80,.t 81,.t 82],none⟩,⟨some 84,.ext (.t 83) 0,none⟩,⟨some 85,.ext (.t 83) 1,none⟩,qw 3 4 84,qm 5 85] []) .ret) .skip))))))))) (.seq (.reg false [⟨some 86,.ld 3 true (.t 2),none⟩,qm 87 6,⟨some 88,.ld 8 true (.t 3),none⟩,⟨some 89,.call (.c (.fn 25
 [])) [.t 86,.t 87,.t 88],none⟩,⟨some 90,.ext (.t 89) 0,none⟩,⟨some 91,.ext (.t 89) 1,none⟩,qw 3 4 90,qm 5 91] []) .ret)))))),[.cell 4 3 true,.tmp 5]⟩
def c11 : CF := ⟨.seq (.reg false [⟨some 2,.box (.t 0),none⟩,⟨some 4,.alloc [.val (.string ⟨#[]⟩),.val (.int .i64 0),.val (.int .i64 0),.val (.int .i64 0),.val (.int .i64 0),.im [] true,.im [] true,.im [] true,.im [] true,.im [] true,.im [] true,.im
 [] true,.im [] true],none⟩,qf 5] []) (.seq (.reg false [⟨some 7,.ld 3 true (.t 2),none⟩,qm 8 1,qk 9 21 7 8,qm 6 9] []) (.seq (.seq (.reg false [qm 10 6,⟨some 11,.bin .lss 3 false true (.t 10) (.c (.val (.int .i64 0))),none⟩] []) (.cond (.t 11)
 (.seq (.reg false [⟨some 12,.build [.val (.string ⟨#[]⟩),.val (.int .i64 0),.val (.int .i64 0),.val (.int .i64 0),.val (.int .i64 0),.im [] true,.im [] true,.im [] true,.im [] true,.im [] true,.im [] true,.im [] true,.im [] true] [],none⟩,qw 13 4
 12,qf 5] []) .ret) .skip)) (.seq (.reg false [qa 13 0 2,ql 14 13,qm 15 6,⟨some 16,.ias 13 (.t 14) (.t 15),none⟩,⟨some 17,.ld 13 true (.t 16),none⟩,qc 18 26 17,qw 13 4 18,qt 5] []) .ret))),[.cell 4 13 true,.tmp 5]⟩
def c12 : CF := ⟨.seq (.reg false [⟨some 2,.box (.t 0),none⟩,⟨some 4,.mv (.c (.val (.string ⟨#[]⟩))),none⟩,qi 5 0] []) (.seq (.reg false [⟨some 9,.ld 13 true (.t 2),none⟩,qm 10 1,qk 11 27 9 10,qm 8 11,⟨some 12,.ext (.t 8) 0,none⟩,⟨some 13,.ext (.t
 8) 1,none⟩,⟨some 6,.alloc [.val (.int .i64 0),.val (.string ⟨#[]⟩),.val (.int .i64 0),.val (.int .i64 0),.val (.bool false),.val (.complex .f64 0 0),.val (.string ⟨#[]⟩),.val (.bool false)],none⟩,qw 8 6 12,qm 7 13] []) (.seq (.block 0 (.seq (.reg
 false [qm 15 7,⟨some 16,.bin .neq 27 false true (.t 15) (.c (.val (.int .i64 0))),none⟩,qm 14 16] []) (.cond (.t 14) (.seq (.reg false [qm 17 7,⟨some 4,.mv (.c (.val (.string ⟨#[]⟩))),none⟩,qm 5 17] []) .ret) (.seq (.reg false [qa 19 9 2,ql 20
 19,qa 21 5 6,ql 22 21,qk 23 28 20 22,qb 24 23,qm 18 24] []) (.cond (.t 18) (.seq (.reg false [⟨some 4,.mv (.c (.val (.string ⟨#[]⟩))),none⟩,qi 5 12] []) .ret) (.seq (.reg false [qa 26 7 6,ql 27 26,qb 28 27,qm 25 28] []) (.cond (.t 25) (.seq (.reg
 false [⟨some 4,.mv (.c (.val (.string ⟨#[]⟩))),none⟩,qi 5 13] []) .ret) .skip))))))) (.seq (.reg false [qa 29 6 6,ql 30 29,qm 4 30,qi 5 0] []) .ret))),[.tmp 4,.tmp 5]⟩
def L13_0 : CC := (.seq (.reg false [qz 10 9 8] []) (.seq (.cond (.t 10) .skip (.exit 0)) (.seq (.block 1 (.seq (.reg false [⟨some 11,.ias 13 (.t 7) (.t 9),none⟩,⟨some 12,.ld 13 true (.t 11),none⟩,⟨some 5,.alloc [.val (.string ⟨#[]⟩),.val (.int .i64
 0),.val (.int .i64 0),.val (.int .i64 0),.val (.int .i64 0),.im [] true,.im [] true,.im [] true,.im [] true,.im [] true,.im [] true,.im [] true,.im [] true],none⟩,qw 13 5 12] []) (.seq (.reg false [qa 13 1 5,ql 14 13,qq 15 14 0] []) (.cond (.t 15)
 (.reg false [qm 16 3,qa 17 0 5,ql 18 17,⟨some 19,.bsl 1 1 [.val (.string ⟨#[]⟩)] [(0, 1, (.t 18))],none⟩,⟨some 20,.app 1 (.t 16) (.t 19),none⟩,qm 3 20] []) .skip)))) (.reg false [qs 21 9,qm 9 21] []))))
def c13 : CF := ⟨.seq (.reg false [⟨some 1,.box (.t 0),none⟩,qj 2] []) (.seq (.reg false [qj 3] []) (.seq (.seq (.reg false [qa 6 0 1,ql 7 6,qe 8 7,qi 9 0] []) (.block 0 (.loop L13_0))) (.seq (.reg false [qm 22 3,qm 2 22] []) .ret))),[.tmp 2]⟩
def L14_0 : CC := (.seq (.seq (.reg false [qm 11 5,qm 12 0,qe 13 12,qz 14 11 13] []) (.cond (.t 14) .skip (.exit 0))) (.seq (.block 1 (.seq (.reg true [qm 17 0,qm 18 5,qx 19 17 18,ql 20 19,⟨some 21,.b2s (.t 20),none⟩,qm 22 1,qm 23 5,qx 24 22 23,ql
 25 24,⟨some 26,.b2s (.t 25),none⟩,⟨some 27,.bin .neq 9 false false (.t 21) (.t 26),none⟩] []) (.cond (.t 27) (.seq (.reg false [qf 4] []) .ret) .skip))) (.reg false [qm 15 5,qs 16 15,qm 5 16] [])))
def c14 : CF := ⟨.seq (.reg false [qf 4] []) (.seq (.seq (.reg false [qm 6 0,qe 7 6,qm 8 1,qe 9 8,⟨some 10,.bin .neq 3 false false (.t 7) (.t 9),none⟩] []) (.cond (.t 10) (.seq (.reg false [qf 4] []) .ret) .skip)) (.seq (.seq (.reg false [qi 5 0]
 []) (.block 0 (.loop L14_0))) (.seq (.reg false [qt 4] []) .ret))),[.tmp 4]⟩
def c15 : CF := ⟨.seq (.reg false [⟨some 2,.box (.t 0),none⟩,⟨some 3,.box (.t 1),none⟩,qf 4] []) (.seq (.seq (.reg false [qa 5 0 2,ql 6 5,qa 7 0 3,ql 8 7,⟨some 9,.bin .neq 9 false false (.t 6) (.t 8),none⟩,qm 10 9,qaF 11 1 2 10,qlF 12 11 10,qaF 13 1
 3 10,qlF 14 13 10,⟨some 15,.bin .neq 3 false false (.t 12) (.t 14),some (10, false)⟩,qo 16 10 15,qm 17 16,qaF 18 2 2 17,qlF 19 18 17,qaF 20 2 3 17,qlF 21 20 17,⟨some 22,.bin .neq 3 false false (.t 19) (.t 21),some (17, false)⟩,qo 23 17 22,qm 24
 23,qaF 25 3 2 24,qlF 26 25 24,qaF 27 3 3 24,qlF 28 27 24,⟨some 29,.bin .neq 3 false false (.t 26) (.t 28),some (24, false)⟩,qo 30 24 29,qm 31 30,qaF 32 4 2 31,qlF 33 32 31,qaF 34 4 3 31,qlF 35 34 31,⟨some 36,.bin .neq 3 false false (.t 33) (.t
 35),some (31, false)⟩,qo 37 31 36] []) (.cond (.t 37) (.seq (.reg false [qf 4] []) .ret) .skip)) (.seq (.reg false [qa 38 5 2,ql 39 38,qa 40 5 3,ql 41 40,qk 42 29 39 41,qm 43 42,qaT 44 6 2 43,qlT 45 44 43,qaT 46 6 3 43,qlT 47 46 43,qkT 48 30 45 47
 43,qp 49 43 48,qm 50 49,qaT 51 7 2 50,qlT 52 51 50,qaT 53 7 3 50,qlT 54 53 50,qkT 55 30 52 54 50,qp 56 50 55,qm 57 56,qaT 58 8 2 57,qlT 59 58 57,qaT 60 8 3 57,qlT 61 60 57,qkT 62 31 59 61 57,qp 63 57 62,qm 64 63,qaT 65 9 2 64,qlT 66 65 64,qaT 67 9
 3 64,qlT 68 67 64,qkT 69 32 66 68 64,qp 70 64 69,qm 71 70,qaT 72 10 2 71,qlT 73 72 71,qaT 74 10 3 71,qlT 75 74 71,qkT 76 33 73 75 71,qp 77 71 76,qm 78 77,qaT 79 11 2 78,qlT 80 79 78,qaT 81 11 3 78,qlT 82 81 78,qkT 83 30 80 82 78,qp 84 78 83,qm 85
 84,qaT 86 12 2 85,qlT 87 86 85,qaT 88 12 3 85,qlT 89 88 85,qkT 90 34 87 89 85,qp 91 85 90,qm 4 91] []) .ret)),[.tmp 4]⟩
def L16_0 : CC := (.seq (.seq (.reg false [qm 5 4,qa 6 8 1,ql 7 6,qe 8 7,qz 9 5 8] []) (.cond (.t 9) .skip (.exit 0))) (.seq (.block 1 (.reg false [qm 12 3,qa 13 8 1,ql 14 13,qm 15 4,⟨some 16,.ias 8 (.t 14) (.t 15),none⟩,⟨some 17,.ld 8 true (.t
 16),none⟩,⟨some 18,.bsl 8 1 [.val (.int .i64 0),.val (.string ⟨#[]⟩),.val (.int .i64 0),.val (.int .i64 0),.val (.bool false),.val (.complex .f64 0 0),.val (.string ⟨#[]⟩),.val (.bool false)] [(0, 8, (.t 17))],none⟩,⟨some 19,.app 8 (.t 12) (.t
 18),none⟩,qm 3 19] [])) (.reg false [qm 10 4,qs 11 10,qm 4 11] [])))
def c16 : CF := ⟨.seq (.reg false [⟨some 1,.box (.t 0),none⟩,⟨some 2,.alloc [.val (.string ⟨#[]⟩),.val (.int .i64 0),.val (.int .i64 0),.val (.int .i64 0),.val (.int .i64 0),.im [] true,.im [] true,.im [] true,.im [] true,.im [] true,.im [] true,.im
 [] true,.im [] true],none⟩] []) (.seq (.reg false [qj 3] []) (.seq (.seq (.reg false [qi 4 0] []) (.block 0 (.loop L16_0))) (.seq (.reg true [qa 20 0 1,ql 21 20,qa 22 1 1,ql 23 22,qa 24 2 1,ql 25 24,qa 26 3 1,ql 27 26,qa 28 4 1,ql 29 28,qa 30 5
 1,ql 31 30,qc 32 35 31,qa 33 6 1,ql 34 33,qc 35 36 34,qa 36 7 1,ql 37 36,qc 38 36 37,qm 39 3,qc 40 37 39,qa 41 9 1,ql 42 41,qc 43 38 42,qa 44 10 1,ql 45 44,qc 46 39 45,qa 47 11 1,ql 48 47,qc 49 36 48,qa 50 12 1,ql 51 50,qc 52 40 51,⟨some 53,.build
 [.val (.string ⟨#[]⟩),.val (.int .i64 0),.val (.int .i64 0),.val (.int .i64 0),.val (.int .i64 0),.im [] true,.im [] true,.im [] true,.im [] true,.im [] true,.im [] true,.im [] true,.im [] true] [(0, 1, (.t 21)),(1, 1, (.t 23)),(2, 1, (.t 25)),(3,
 1, (.t 27)),(4, 1, (.t 29)),(5, 1, (.t 32)),(6, 1, (.t 35)),(7, 1, (.t 38)),(8, 1, (.t 40)),(9, 1, (.t 43)),(10, 1, (.t 46)),(11, 1, (.t 49)),(12, 1, (.t 52))],none⟩,qw 13 2 53] [(1, 12),(3, 12),(5, 12),(7, 12),(9, 12),(12, 14),(1, 15),(3, 15),(5,
 15),(7, 15),(9, 15),(12, 17),(15, 17),(1, 18),(3, 18),(5, 18),(7, 18),(9, 18),(1, 20),(3, 20),(5, 20),(7, 20),(9, 20),(12, 22),(15, 22),(18, 22),(20, 22),(1, 23),(3, 23),(5, 23),(7, 23),(9, 23),(12, 25),(15, 25),(18, 25),(20, 25),(23, 25),(1,
 26),(3, 26),(5, 26),(7, 26),(9, 26),(12, 28),(15, 28),(18, 28),(20, 28),(23, 28),(26, 28),(1, 29),(3, 29),(5, 29),(7, 29),(9, 29),(12, 31),(15, 31),(18, 31),(20, 31),(23, 31),(26, 31),(29, 31),(1, 32),(3, 32),(5, 32),(7, 32),(9, 32)])
 .ret))),[.cell 2 13 true]⟩
def c17 : CF := ⟨.seq (.reg false [⟨some 0,.alloc [.val (.string ⟨#[]⟩),.val (.int .i64 0),.val (.int .i64 0),.val (.int .i64 0),.val (.int .i64 0),.im [] true,.im [] true,.im [] true,.im [] true,.im [] true,.im [] true,.im [] true,.im []
 true],none⟩] []) (.seq (.reg false [⟨some 1,.build [.val (.int .i64 0),.val (.int .i64 0),.val (.int .i64 0),.val (.int .i64 0)] [(0, 1, (.c (.val (.int .i64 1))))],none⟩,⟨some 2,.bsl 4 1 [.val (.int .i64 0),.val (.int .i64 0),.val (.int .i64
 0),.val (.int .i64 0)] [(0, 4, (.t 1))],none⟩,⟨some 3,.bsl 1 1 [.val (.string ⟨#[]⟩)] [(0, 1, (.c (.val (.string ⟨#[48]⟩))))],none⟩,⟨some 4,.build [.val (.string ⟨#[]⟩),.val (.int .i64 0),.val (.int .i64 0),.val (.int .i64 0),.val (.int .i64 0),.im
 [] true,.im [] true,.im [] true,.im [] true,.im [] true,.im [] true,.im [] true,.im [] true] [(0, 1, (.c (.val (.string ⟨#[48]⟩)))),(9, 1, (.t 2)),(10, 1, (.t 3))],none⟩,qw 13 0 4] []) .ret),[.cell 0 13 true]⟩
def c18 : CF := ⟨.seq (.reg false [qj 0] []) (.seq (.reg false [⟨some 1,.build [.val (.int .i64 0),.val (.complex .f64 0 0),.val (.float .f64 0)] [(0, 1, (.c (.val (.int .i64 1))))],none⟩,⟨some 2,.bsl 3 1 [.val (.int .i64 0),.val (.complex .f64 0
 0),.val (.float .f64 0)] [(0, 3, (.t 1))],none⟩,qm 0 2] []) .ret),[.tmp 0]⟩
def L19_0 : CC := (.seq (.reg false [qz 15 14 13] []) (.seq (.cond (.t 15) .skip (.exit 0)) (.seq (.block 1 (.seq (.reg false [⟨some 16,.ias 13 (.t 12) (.t 14),none⟩,⟨some 17,.ld 13 true (.t 16),none⟩,⟨some 5,.alloc [.val (.string ⟨#[]⟩),.val (.int
 .i64 0),.val (.int .i64 0),.val (.int .i64 0),.val (.int .i64 0),.im [] true,.im [] true,.im [] true,.im [] true,.im [] true,.im [] true,.im [] true,.im [] true],none⟩,qw 13 5 17] []) (.reg true [qa 18 0 3,ql 19 18,⟨some 20,.ld 13 true (.t
 5),none⟩,qc 21 26 20,⟨some 22,.bsl 13 1 [.val (.string ⟨#[]⟩),.val (.int .i64 0),.val (.int .i64 0),.val (.int .i64 0),.val (.int .i64 0),.im [] true,.im [] true,.im [] true,.im [] true,.im [] true,.im [] true,.im [] true,.im [] true] [(0, 13, (.t
 21))],none⟩,⟨some 23,.app 13 (.t 19) (.t 22),none⟩,qa 24 0 3,qw 1 24 23] [(1, 3),(1, 4)]))) (.reg false [qs 25 14,qm 14 25] []))))
def L19_1 : CC := (.seq (.reg false [qz 30 29 28] []) (.seq (.cond (.t 30) .skip (.exit 2)) (.seq (.block 3 (.seq (.reg false [qx 31 27 29,ql 32 31,qm 7 32] []) (.reg true [qa 33 1 3,ql 34 33,qm 35 7,qc 36 41 35,⟨some 37,.bsl 1 1 [.im [] true] [(0,
 1, (.t 36))],none⟩,⟨some 38,.app 1 (.t 34) (.t 37),none⟩,qa 39 1 3,qw 1 39 38] [(1, 3),(1, 4)]))) (.reg false [qs 40 29,qm 29 40] []))))
def c19 : CF := ⟨.seq (.reg false [⟨some 1,.box (.t 0),none⟩,⟨some 2,.alloc [.im [] true,.im [] true,.val (.int .i64 0)],none⟩] []) (.seq (.reg false [qa 8 2 1,ql 9 8,⟨some 10,.build [.im [] true,.im [] true,.val (.int .i64 0)] [(2, 1, (.t
 9))],none⟩,⟨some 3,.alloc [.im [] true,.im [] true,.val (.int .i64 0)],none⟩,qw 3 3 10] []) (.seq (.seq (.reg false [qa 11 0 1,ql 12 11,qe 13 12,qi 14 0] []) (.block 0 (.loop L19_0))) (.seq (.seq (.reg false [qa 26 1 1,ql 27 26,qe 28 27,qi 29 0]
 []) (.block 2 (.loop L19_1))) (.seq (.reg false [⟨some 41,.ld 3 true (.t 3),none⟩,qw 3 2 41] []) .ret)))),[.cell 2 3 true]⟩
def c20 : CF := ⟨.seq (.reg false [⟨some 2,.box (.t 0),none⟩,⟨some 3,.box (.t 1),none⟩,⟨some 4,.alloc [.im [] true,.im [] true,.val (.int .i64 0)],none⟩,qi 5 0] []) (.seq (.reg false [qi 6 0] []) (.seq (.seq (.reg false [qa 7 0 3,ql 8 7] []) (.block
 0 (.seq (.reg false [qq 16 8 6,qm 15 16] []) (.cond (.t 15) (.reg false [qa 18 1 2,ql 19 18,qa 20 4 3,ql 21 20,qk 22 42 19 21,qm 17 22,⟨some 23,.ext (.t 17) 0,none⟩,⟨some 24,.ext (.t 17) 1,none⟩,qa 25 1 2,qw 1 25 23,qm 6 24] []) (.seq (.reg false
 [qq 27 8 7,qm 26 27] []) (.cond (.t 26) (.reg false [qa 29 1 2,ql 30 29,qa 31 4 3,ql 32 31,qk 33 43 30 32,qm 28 33,⟨some 34,.ext (.t 28) 0,none⟩,⟨some 35,.ext (.t 28) 1,none⟩,qa 36 1 2,qw 1 36 34,qm 6 35] []) (.seq (.reg false [⟨some 9,.ld 3 true
 (.t 2),none⟩,qa 10 4 3,ql 11 10,qk 12 44 9 11,⟨some 13,.ext (.t 12) 0,none⟩,⟨some 14,.ext (.t 12) 1,none⟩,qw 3 4 13,qm 5 14] []) .ret))))))) (.seq (.reg false [⟨some 37,.ld 3 true (.t 2),none⟩,qm 38 6,qw 3 4 37,qm 5 38] []) .ret))),[.cell 4 3 true,.tmp 5]⟩
def c21 : CF := ⟨.seq (.reg false [⟨some 2,.box (.t 0),none⟩,⟨some 3,.box (.t 1),none⟩,qi 4 0] []) (.seq (.reg false [qa 5 0 2,ql 6 5,⟨some 7,.mkf 46 [.t 3],none⟩,qk 8 45 6 7,qm 4 8] []) .ret),[.tmp 4]⟩
def c22 : CF := ⟨.seq (.reg false [⟨some 2,.box (.t 0),none⟩,⟨some 4,.alloc [.im [] true,.im [] true,.val (.int .i64 0)],none⟩,qi 5 0] []) (.seq (.seq (.reg false [qa 9 0 2,ql 10 9,qe 11 10,⟨some 12,.bin .geq 3 false true (.t 11) (.c (.val (.int
 .i64 12))),none⟩] []) (.cond (.t 12) (.seq (.reg false [⟨some 13,.ld 3 true (.t 2),none⟩,qw 3 4 13,qi 5 18] []) .ret) .skip)) (.seq (.reg false [qa 15 0 2,ql 16 15,qm 17 1,⟨some 18,.ias 13 (.t 16) (.t 17),none⟩,⟨some 19,.ld 13 true (.t 18),none⟩,qc
 20 47 19,qm 14 20,⟨some 21,.ext (.t 14) 0,none⟩,⟨some 22,.ext (.t 14) 1,none⟩,⟨some 23,.ext (.t 14) 2,none⟩,⟨some 6,.alloc [.val (.string ⟨#[]⟩),.val (.int .i64 0),.val (.int .i64 0),.val (.int .i64 0),.val (.int .i64 0),.im [] true,.im [] true,.im
 [] true,.im [] true,.im [] true,.im [] true,.im [] true,.im [] true],none⟩,⟨some 7,.alloc [.val (.string ⟨#[]⟩),.val (.int .i64 0),.val (.int .i64 0),.val (.int .i64 0),.val (.int .i64 0),.im [] true,.im [] true,.im [] true,.im [] true,.im []
 true,.im [] true,.im [] true,.im [] true],none⟩,qw 13 6 21,qw 13 7 22,qm 8 23] []) (.seq (.seq (.reg false [qm 24 8,⟨some 25,.bin .eql 27 false true (.t 24) (.c (.val (.int .i64 0))),none⟩] []) (.cond (.t 25) (.seq (.reg false [qa 26 0 2,ql 27
 26,qm 28 1,⟨some 29,.ld 13 true (.t 6),none⟩,⟨some 30,.ias 13 (.t 27) (.t 28),none⟩,qw 13 30 29] []) (.reg false [qa 31 0 2,ql 32 31,⟨some 33,.ld 13 true (.t 7),none⟩,⟨some 34,.bsl 13 1 [.val (.string ⟨#[]⟩),.val (.int .i64 0),.val (.int .i64
 0),.val (.int .i64 0),.val (.int .i64 0),.im [] true,.im [] true,.im [] true,.im [] true,.im [] true,.im [] true,.im [] true,.im [] true] [(0, 13, (.t 33))],none⟩,⟨some 35,.app 13 (.t 32) (.t 34),none⟩,qa 36 0 2,qw 1 36 35] [])) .skip)) (.seq (.reg
 false [⟨some 37,.ld 3 true (.t 2),none⟩,qm 38 8,qw 3 4 37,qm 5 38] []) .ret)))),[.cell 4 3 true,.tmp 5]⟩
def c23 : CF := ⟨.seq (.reg false [⟨some 3,.box (.t 0),none⟩,⟨some 6,.alloc [.im [] true,.im [] true,.val (.int .i64 0)],none⟩,qi 7 0] []) (.seq (.reg false [qa 11 0 3,ql 12 11,qm 13 1,⟨some 14,.ias 13 (.t 12) (.t 13),none⟩,⟨some 15,.ld 13 true (.t
 14),none⟩,qm 16 2,qk 17 48 15 16,qm 10 17,⟨some 18,.ext (.t 10) 0,none⟩,⟨some 19,.ext (.t 10) 1,none⟩,⟨some 8,.alloc [.val (.int .i64 0),.val (.string ⟨#[]⟩),.val (.string ⟨#[]⟩),.im [] true,.val (.int .i64 0),.im [] true,.im [] true,.im []
 true,.im [] true,.im [] true,.val (.bool false),.im [] true],none⟩,qw 12 8 18,qm 9 19] []) (.seq (.seq (.reg false [qm 20 9,⟨some 21,.bin .eql 27 false true (.t 20) (.c (.val (.int .i64 0))),none⟩] []) (.cond (.t 21) (.reg false [qa 23 1 3,ql 24
 23,⟨some 25,.ld 12 true (.t 8),none⟩,qk 26 49 24 25,qm 22 26,⟨some 27,.ext (.t 22) 0,none⟩,⟨some 28,.ext (.t 22) 1,none⟩,qa 29 1 3,qw 1 29 27,qm 9 28] []) .skip)) (.seq (.reg false [⟨some 30,.ld 3 true (.t 3),none⟩,qm 31 9,qw 3 6 30,qm 7 31] [])
 .ret))),[.cell 6 3 true,.tmp 7]⟩
def c25 : CF := ⟨.seq (.reg false [⟨some 3,.box (.t 0),none⟩,⟨some 5,.box (.t 2),none⟩,⟨some 6,.alloc [.im [] true,.im [] true,.val (.int .i64 0)],none⟩,qi 7 0] []) (.seq (.reg false [qa 10 0 3,ql 11 10,qm 12 1,⟨some 13,.ias 13 (.t 11) (.t
 12),none⟩,⟨some 14,.ld 13 true (.t 13),none⟩,⟨some 8,.alloc [.val (.string ⟨#[]⟩),.val (.int .i64 0),.val (.int .i64 0),.val (.int .i64 0),.val (.int .i64 0),.im [] true,.im [] true,.im [] true,.im [] true,.im [] true,.im [] true,.im [] true,.im []
 true],none⟩,qw 13 8 14,qi 9 0] []) (.seq (.seq (.reg false [qa 15 0 5,ql 16 15] []) (.block 0 (.seq (.reg false [qq 18 16 0,qm 17 18] []) (.cond (.t 17) (.reg false [⟨some 20,.ld 13 true (.t 8),none⟩,qa 21 3 5,ql 22 21,qa 23 5 5,ql 24 23,qa 25 6
 5,ql 26 25,⟨some 27,.call (.c (.fn 51 [])) [.t 20,.t 22,.t 24,.t 26],none⟩,qm 19 27,⟨some 28,.ext (.t 19) 0,none⟩,⟨some 29,.ext (.t 19) 1,none⟩,qw 13 8 28,qm 9 29] []) (.seq (.reg false [qq 31 16 1,qm 30 31] []) (.cond (.t 30) (.reg false [⟨some
 33,.ld 13 true (.t 8),none⟩,qa 34 3 5,ql 35 34,qk 36 52 33 35,qm 32 36,⟨some 37,.ext (.t 32) 0,none⟩,⟨some 38,.ext (.t 32) 1,none⟩,qw 13 8 37,qm 9 38] []) (.seq (.reg false [qq 40 16 2,qm 39 40] []) (.cond (.t 39) (.reg false [⟨some 42,.ld 13 true
 (.t 8),none⟩,qa 43 7 5,ql 44 43,qk 45 53 42 44,qm 41 45,⟨some 46,.ext (.t 41) 0,none⟩,⟨some 47,.ext (.t 41) 1,none⟩,qw 13 8 46,qm 9 47] []) (.seq (.reg false [qq 49 16 9,qm 48 49] []) (.cond (.t 48) (.reg false [⟨some 51,.ld 13 true (.t 8),none⟩,qa
 52 2 5,ql 53 52,qk 54 54 51 53,qm 50 54,⟨some 55,.ext (.t 50) 0,none⟩,⟨some 56,.ext (.t 50) 1,none⟩,qw 13 8 55,qm 9 56] []) (.seq (.reg false [qq 58 16 10,qm 57 58] []) (.cond (.t 57) (.reg false [⟨some 60,.ld 13 true (.t 8),none⟩,qc 61 55 60,qm 59
 61,⟨some 62,.ext (.t 59) 0,none⟩,⟨some 63,.ext (.t 59) 1,none⟩,qw 13 8 62] []) .skip)))))))))))) (.seq (.seq (.reg false [qm 64 9,⟨some 65,.bin .eql 27 false true (.t 64) (.c (.val (.int .i64 0))),none⟩] []) (.cond (.t 65) (.reg false [qa 66 0 3,ql
 67 66,qm 68 1,⟨some 69,.ld 13 true (.t 8),none⟩,⟨some 70,.ias 13 (.t 67) (.t 68),none⟩,qw 13 70 69] []) .skip)) (.seq (.reg false [⟨some 71,.ld 3 true (.t 3),none⟩,qm 72 9,qw 3 6 71,qm 7 72] []) .ret)))),[.cell 6 3 true,.tmp 7]⟩
def c26 : CF := ⟨.seq (.reg false [⟨some 1,.box (.t 0),none⟩,⟨some 2,.alloc [.val (.string ⟨#[]⟩),.val (.int .i64 0),.val (.int .i64 0),.val (.int .i64 0),.val (.int .i64 0),.im [] true,.im [] true,.im [] true,.im [] true,.im [] true,.im [] true,.im
 [] true,.im [] true],none⟩] []) (.seq (.reg false [⟨some 3,.ld 13 true (.t 1),none⟩,qc 4 56 3,qw 13 1 4] []) (.seq (.reg true [qa 5 12 1,ql 6 5,qa 7 0 1,ql 8 7,⟨some 9,.ld 13 true (.t 1),none⟩,qc 10 59 9,qc 11 58 10,⟨some 12,.call (.c (.fn 57 []))
 [.t 6,.t 8,.t 11],none⟩,qa 13 12 1,qw 1 13 12] [(1, 5),(3, 5),(1, 6),(3, 6)]) (.seq (.reg false [⟨some 14,.ld 13 true (.t 1),none⟩,qw 13 2 14] []) .ret))),[.cell 2 13 true]⟩
def c27 : CF :=  ⟨.seq (.reg false [⟨some 2,.box (.t 0),none⟩,⟨some 4,.alloc [.val (.int .i64 0),.val (.string ⟨#[]⟩),.val (.int .i64 0),.val (.int .i64 0),.val (.bool false),.val (.complex .f64 0 0),.val (.string ⟨#[]⟩),.val (.bool false)],none⟩,qi
 5 0] []) (.seq (.block 0 (.seq (.reg false [qa 9 1 2,ql 10 9,⟨some 11,.bin .neq 3 false true (.t 10) (.c (.val (.int .i64 0))),none⟩,qm 8 11] []) (.cond (.t 8) (.seq (.reg false [⟨some 12,.build [.val (.int .i64 0),.val (.string ⟨#[]⟩),.val (.int
 .i64 0),.val (.int .i64 0),.val (.bool false),.val (.complex .f64 0 0),.val (.string ⟨#[]⟩),.val (.bool false)] [],none⟩,qw 8 4 12,qi 5 5] []) .ret) (.seq (.reg false [qm 14 1,⟨some 15,.bin .lss 3 false true (.t 14) (.c (.val (.int .i64
 0))),none⟩,qm 16 15,qmF 17 1 16,⟨some 18,.bin .geq 3 false true (.t 17) (.c (.val (.int .i64 32))),some (16, false)⟩,qo 19 16 18,qm 13 19] []) (.cond (.t 13) (.seq (.reg false [⟨some 20,.build [.val (.int .i64 0),.val (.string ⟨#[]⟩),.val (.int
 .i64 0),.val (.int .i64 0),.val (.bool false),.val (.complex .f64 0 0),.val (.string ⟨#[]⟩),.val (.bool false)] [],none⟩,qw 8 4 20,qi 5 6] []) .ret) .skip))))) (.seq (.reg false [qa 22 8 2,ql 23 22,qm 24 1,qk 25 60 23 24,qm 21 25,⟨some 26,.ext (.t
 21) 0,none⟩,⟨some 27,.ext (.t 21) 1,none⟩,⟨some 6,.alloc [.val (.int .i64 0),.val (.string ⟨#[]⟩),.val (.int .i64 0),.val (.int .i64 0),.val (.bool false),.val (.complex .f64 0 0),.val (.string ⟨#[]⟩),.val (.bool false)],none⟩,qw 8 6 26,qm 7 27]
 []) (.seq (.seq (.reg false [qm 28 7,qb 29 28,qm 30 29,qaF 31 4 6 30,qlF 32 31 30,qo 33 30 32] []) (.cond (.t 33) (.seq (.reg false [⟨some 34,.build [.val (.int .i64 0),.val (.string ⟨#[]⟩),.val (.int .i64 0),.val (.int .i64 0),.val (.bool
 false),.val (.complex .f64 0 0),.val (.string ⟨#[]⟩),.val (.bool false)] [],none⟩,qw 8 4 34,qi 5 11] []) .ret) .skip)) (.seq (.reg false [⟨some 35,.ld 8 true (.t 6),none⟩,qw 8 4 35,qi 5 0] []) .ret)))),[.cell 4 8 true,.tmp 5]⟩
def L28_0 : CC := (.seq (.reg false [qz 20 19 18] []) (.seq (.cond (.t 20) .skip (.exit 0)) (.seq (.block 1 (.seq (.reg false [⟨some 21,.ias 3 (.t 17) (.t 19),none⟩,⟨some 22,.ld 3 true (.t 21),none⟩,⟨some 7,.alloc [.val (.int .i64 0),.val (.complex
 .f64 0 0),.val (.float .f64 0)],none⟩,qw 3 7 22] []) (.seq (.reg false [qm 23 5,qe 24 23,⟨some 25,.ld 3 true (.t 7),none⟩,qc 26 63 25,⟨some 27,.bin .sub 3 false false (.t 24) (.t 26),none⟩,qm 8 27] []) (.reg true [qm 28 5,qm 29 8,⟨some 30,.slc 1
 (.t 28) none (some (.t 29)) none,none⟩,⟨some 31,.ld 3 true (.t 7),none⟩,qm 32 1,qm 33 5,qm 34 8,⟨some 35,.slc 1 (.t 33) (some (.t 34)) none none,none⟩,⟨some 36,.call (.c (.fn 64 [])) [.t 31,.t 32,.t 35],none⟩,⟨some 37,.bsl 1 1 [.val (.bool false)]
 [(0, 1, (.t 36))],none⟩,⟨some 38,.app 1 (.t 30) (.t 37),none⟩,qm 5 38] [(2, 8),(2, 9)])))) (.reg false [qs 39 19,qm 19 39] []))))
def c28 : CF := ⟨.seq (.reg false [qf 4] []) (.seq (.seq (.reg false [qm 9 0,qc 10 61 9,qb 11 10,qm 12 11,qmF 13 1 12,qcF 14 62 13 12,qbF 15 14 12,qo 16 12 15] []) (.cond (.t 16) (.seq (.reg false [qf 4] []) .ret) .skip)) (.seq (.reg false [qj 5]
 []) (.seq (.seq (.reg false [qm 17 0,qe 18 17,qi 19 0] []) (.block 0 (.loop L28_0))) (.seq (.reg false [qm 40 5,⟨some 41,.ias 1 (.t 40) (.c (.val (.int .i64 0))),none⟩,ql 42 41,qm 4 42] []) .ret)))),[.tmp 4]⟩
def L29_0 : CC := (.seq (.seq (.reg false [qm 11 5,qm 12 0,qe 13 12,qz 14 11 13] []) (.cond (.t 14) .skip (.exit 0))) (.seq (.block 1 (.seq (.reg true [qm 17 0,qm 18 5,⟨some 19,.ias 3 (.t 17) (.t 18),none⟩,qa 20 0 19,ql 21 20,qm 22 1,qm 23 5,⟨some
 24,.ias 3 (.t 22) (.t 23),none⟩,qa 25 0 24,ql 26 25,⟨some 27,.bin .neq 9 false false (.t 21) (.t 26),none⟩,qm 28 27,qmF 29 0 28,qmF 30 5 28,⟨some 31,.ias 3 (.t 29) (.t 30),some (28, false)⟩,qaF 32 1 31 28,⟨some 33,.ld 2 true (.t 32),some (28,
 false)⟩,qmF 34 1 28,qmF 35 5 28,⟨some 36,.ias 3 (.t 34) (.t 35),some (28, false)⟩,qaF 37 1 36 28,⟨some 38,.ld 2 true (.t 37),some (28, false)⟩,⟨some 39,.call (.c (.fn 65 [])) [.t 33,.t 38],some (28, false)⟩,qbF 40 39 28,qo 41 28 40] []) (.cond (.t
 41) (.seq (.reg false [qf 4] []) .ret) .skip))) (.reg false [qm 15 5,qs 16 15,qm 5 16] [])))
def c29 : CF := ⟨.seq (.reg false [qf 4] []) (.seq (.seq (.reg false [qm 6 0,qe 7 6,qm 8 1,qe 9 8,⟨some 10,.bin .neq 3 false false (.t 7) (.t 9),none⟩] []) (.cond (.t 10) (.seq (.reg false [qf 4] []) .ret) .skip)) (.seq (.seq (.reg false [qi 5 0]
 []) (.block 0 (.loop L29_0))) (.seq (.reg false [qt 4] []) .ret))),[.tmp 4]⟩
def L30_0 : CC := (.seq (.seq (.reg false [qm 11 5,qm 12 0,qe 13 12,qz 14 11 13] []) (.cond (.t 14) .skip (.exit 0))) (.seq (.block 1 (.seq (.reg true [qm 17 0,qm 18 5,⟨some 19,.ias 2 (.t 17) (.t 18),none⟩,⟨some 20,.ld 2 true (.t 19),none⟩,qm 21
 1,qm 22 5,⟨some 23,.ias 2 (.t 21) (.t 22),none⟩,⟨some 24,.ld 2 true (.t 23),none⟩,⟨some 25,.bin .neq 147 false false (.t 20) (.t 24),none⟩] []) (.cond (.t 25) (.seq (.reg false [qf 4] []) .ret) .skip))) (.reg false [qm 15 5,qs 16 15,qm 5 16] [])))
def c30 : CF := ⟨.seq (.reg false [qf 4] []) (.seq (.seq (.reg false [qm 6 0,qe 7 6,qm 8 1,qe 9 8,⟨some 10,.bin .neq 3 false false (.t 7) (.t 9),none⟩] []) (.cond (.t 10) (.seq (.reg false [qf 4] []) .ret) .skip)) (.seq (.seq (.reg false [qi 5 0]
 []) (.block 0 (.loop L30_0))) (.seq (.reg false [qt 4] []) .ret))),[.tmp 4]⟩
def L31_0 : CC := (.seq (.seq (.reg false [qm 11 5,qm 12 0,qe 13 12,qz 14 11 13] []) (.cond (.t 14) .skip (.exit 0))) (.seq (.block 1 (.seq (.reg true [qm 17 0,qm 18 5,⟨some 19,.ias 9 (.t 17) (.t 18),none⟩,⟨some 20,.ld 9 true (.t 19),none⟩,qm 21
 1,qm 22 5,⟨some 23,.ias 9 (.t 21) (.t 22),none⟩,⟨some 24,.ld 9 true (.t 23),none⟩,⟨some 25,.bin .neq 153 false false (.t 20) (.t 24),none⟩] []) (.cond (.t 25) (.seq (.reg false [qf 4] []) .ret) .skip))) (.reg false [qm 15 5,qs 16 15,qm 5 16] [])))
def c31 : CF := ⟨.seq (.reg false [qf 4] []) (.seq (.seq (.reg false [qm 6 0,qe 7 6,qm 8 1,qe 9 8,⟨some 10,.bin .neq 3 false false (.t 7) (.t 9),none⟩] []) (.cond (.t 10) (.seq (.reg false [qf 4] []) .ret) .skip)) (.seq (.seq (.reg false [qi 5 0]
 []) (.block 0 (.loop L31_0))) (.seq (.reg false [qt 4] []) .ret))),[.tmp 4]⟩
def L32_0 : CC := (.seq (.seq (.reg false [qm 11 5,qm 12 0,qe 13 12,qz 14 11 13] []) (.cond (.t 14) .skip (.exit 0))) (.seq (.block 1 (.seq (.reg true [qm 17 0,qm 18 5,⟨some 19,.ias 4 (.t 17) (.t 18),none⟩,⟨some 20,.ld 4 true (.t 19),none⟩,qm 21
 1,qm 22 5,⟨some 23,.ias 4 (.t 21) (.t 22),none⟩,⟨some 24,.ld 4 true (.t 23),none⟩,⟨some 25,.bin .neq 104 false false (.t 20) (.t 24),none⟩] []) (.cond (.t 25) (.seq (.reg false [qf 4] []) .ret) .skip))) (.reg false [qm 15 5,qs 16 15,qm 5 16] [])))
def c32 : CF := ⟨.seq (.reg false [qf 4] []) (.seq (.seq (.reg false [qm 6 0,qe 7 6,qm 8 1,qe 9 8,⟨some 10,.bin .neq 3 false false (.t 7) (.t 9),none⟩] []) (.cond (.t 10) (.seq (.reg false [qf 4] []) .ret) .skip)) (.seq (.seq (.reg false [qi 5 0]
 []) (.block 0 (.loop L32_0))) (.seq (.reg false [qt 4] []) .ret))),[.tmp 4]⟩
def L33_0 : CC := (.seq (.seq (.reg false [qm 11 5,qm 12 0,qe 13 12,qz 14 11 13] []) (.cond (.t 14) .skip (.exit 0))) (.seq (.block 1 (.seq (.reg true [qm 17 0,qm 18 5,qx 19 17 18,ql 20 19,qm 21 1,qm 22 5,qx 23 21 22,ql 24 23,⟨some 25,.bin .neq 9
 false false (.t 20) (.t 24),none⟩] []) (.cond (.t 25) (.seq (.reg false [qf 4] []) .ret) .skip))) (.reg false [qm 15 5,qs 16 15,qm 5 16] [])))
def c33 : CF := ⟨.seq (.reg false [qf 4] []) (.seq (.seq (.reg false [qm 6 0,qe 7 6,qm 8 1,qe 9 8,⟨some 10,.bin .neq 3 false false (.t 7) (.t 9),none⟩] []) (.cond (.t 10) (.seq (.reg false [qf 4] []) .ret) .skip)) (.seq (.seq (.reg false [qi 5 0]
 []) (.block 0 (.loop L33_0))) (.seq (.reg false [qt 4] []) .ret))),[.tmp 4]⟩
def L34_0 : CC := (.seq (.seq (.reg false [qm 11 5,qm 12 0,qe 13 12,qz 14 11 13] []) (.cond (.t 14) .skip (.exit 0))) (.seq (.block 1 (.seq (.reg true [qm 17 0,qm 18 5,⟨some 19,.ias 2 (.t 17) (.t 18),none⟩,qa 20 0 19,ql 21 20,qm 22 1,qm 23 5,⟨some
 24,.ias 2 (.t 22) (.t 23),none⟩,qa 25 0 24,ql 26 25,⟨some 27,.bin .neq 9 false false (.t 21) (.t 26),none⟩,qm 28 27,qmF 29 0 28,qmF 30 5 28,⟨some 31,.ias 2 (.t 29) (.t 30),some (28, false)⟩,qaF 32 1 31 28,qlF 33 32 28,qmF 34 1 28,qmF 35 5 28,⟨some
 36,.ias 2 (.t 34) (.t 35),some (28, false)⟩,qaF 37 1 36 28,qlF 38 37 28,⟨some 39,.call (.c (.fn 30 [])) [.t 33,.t 38],some (28, false)⟩,qbF 40 39 28,qo 41 28 40] []) (.cond (.t 41) (.seq (.reg false [qf 4] []) .ret) .skip))) (.reg false [qm 15 5,qs
 16 15,qm 5 16] [])))
def c34 : CF := ⟨.seq (.reg false [qf 4] []) (.seq (.seq (.reg false [qm 6 0,qe 7 6,qm 8 1,qe 9 8,⟨some 10,.bin .neq 3 false false (.t 7) (.t 9),none⟩] []) (.cond (.t 10) (.seq (.reg false [qf 4] []) .ret) .skip)) (.seq (.seq (.reg false [qi 5 0]
 []) (.block 0 (.loop L34_0))) (.seq (.reg false [qt 4] []) .ret))),[.tmp 4]⟩
def L35_0 : CC := (.seq (.seq (.reg false [qm 5 4,qm 6 0,qe 7 6,qz 8 5 7] []) (.cond (.t 8) .skip (.exit 0))) (.seq (.block 1 (.reg true [qm 11 3,qm 12 0,qm 13 4,⟨some 14,.ias 3 (.t 12) (.t 13),none⟩,qa 15 0 14,ql 16 15,qm 17 0,qm 18 4,⟨some 19,.ias
 3 (.t 17) (.t 18),none⟩,qa 20 1 19,⟨some 21,.ld 2 true (.t 20),none⟩,qc 22 66 21,⟨some 23,.build [.val (.string ⟨#[]⟩),.val (.int .i64 0),.im [] true] [(0, 1, (.t 16)),(1, 2, (.t 22))],none⟩,⟨some 24,.bsl 3 1 [.val (.string ⟨#[]⟩),.val (.int .i64
 0),.im [] true] [(0, 3, (.t 23))],none⟩,⟨some 25,.app 3 (.t 11) (.t 24),none⟩,qm 3 25] [(5, 11)])) (.reg false [qm 9 4,qs 10 9,qm 4 10] [])))
def c35 : CF := ⟨.seq (.reg false [qj 2] []) (.seq (.reg false [qj 3] []) (.seq (.seq (.reg false [qi 4 0] []) (.block 0 (.loop L35_0))) (.seq (.reg false [qm 26 3,qm 2 26] []) .ret))),[.tmp 2]⟩
def L36_0 : CC := (.seq (.seq (.reg false [qm 5 4,qm 6 0,qe 7 6,qz 8 5 7] []) (.cond (.t 8) .skip (.exit 0))) (.seq (.block 1 (.reg true [qm 11 3,qm 12 0,qm 13 4,⟨some 14,.ias 2 (.t 12) (.t 13),none⟩,qa 15 0 14,ql 16 15,qm 17 0,qm 18 4,⟨some 19,.ias
 2 (.t 17) (.t 18),none⟩,qa 20 1 19,ql 21 20,⟨some 22,.build [.val (.string ⟨#[]⟩),.val (.int .i64 0)] [(0, 1, (.t 16)),(1, 1, (.t 21))],none⟩,⟨some 23,.bsl 2 1 [.val (.string ⟨#[]⟩),.val (.int .i64 0)] [(0, 2, (.t 22))],none⟩,⟨some 24,.app 2 (.t
 11) (.t 23),none⟩,qm 3 24] [])) (.reg false [qm 9 4,qs 10 9,qm 4 10] [])))
def c36 : CF := ⟨.seq (.reg false [qj 2] []) (.seq (.reg false [qj 3] []) (.seq (.seq (.reg false [qi 4 0] []) (.block 0 (.loop L36_0))) (.seq (.reg false [qm 25 3,qm 2 25] []) .ret))),[.tmp 2]⟩
def L37_0 : CC := (.seq (.seq (.reg false [qm 5 4,qm 6 0,qe 7 6,qz 8 5 7] []) (.cond (.t 8) .skip (.exit 0))) (.seq (.block 1 (.reg false [qm 11 3,qm 12 0,qm 13 4,⟨some 14,.ias 8 (.t 12) (.t 13),none⟩,⟨some 15,.ld 8 true (.t 14),none⟩,qc 16 67
 15,⟨some 17,.bsl 9 1 [.val (.int .i64 0),.val (.string ⟨#[]⟩),.val (.int .i64 0),.val (.int .i64 0),.val (.bool false),.val (.int .i64 0),.val (.int .i64 0),.val (.string ⟨#[]⟩),.val (.bool false)] [(0, 9, (.t 16))],none⟩,⟨some 18,.app 9 (.t 11)
 (.t 17),none⟩,qm 3 18] [])) (.reg false [qm 9 4,qs 10 9,qm 4 10] [])))
def c37 : CF := ⟨.seq (.reg false [qj 2] []) (.seq (.reg false [qj 3] []) (.seq (.seq (.reg false [qi 4 0] []) (.block 0 (.loop L37_0))) (.seq (.reg false [qm 19 3,qm 2 19] []) .ret))),[.tmp 2]⟩
def L38_0 : CC := (.seq (.seq (.reg false [qm 6 4,qm 7 0,qe 8 7,qz 9 6 8] []) (.cond (.t 9) .skip (.exit 0))) (.seq (.block 1 (.seq (.reg false [qm 12 0,qm 13 4,⟨some 14,.ias 3 (.t 12) (.t 13),none⟩,qa 15 1 14,ql 16 15,qc 17 68 16,⟨some 5,.alloc
 [.val (.int .i64 0),.val (.int .i64 0)],none⟩,qw 2 5 17] []) (.reg true [qm 18 3,qm 19 0,qm 20 4,⟨some 21,.ias 3 (.t 19) (.t 20),none⟩,qa 22 0 21,ql 23 22,qa 24 0 5,ql 25 24,qa 26 1 5,ql 27 26,qm 28 0,qm 29 4,⟨some 30,.ias 3 (.t 28) (.t
 29),none⟩,qa 31 2 30,ql 32 31,⟨some 33,.cv 105 3 (.t 32),none⟩,⟨some 34,.build [.val (.int .i64 0),.val (.int .i64 0),.val (.int .i64 0),.val (.int .i64 0)] [(0, 1, (.t 23)),(1, 1, (.t 25)),(2, 1, (.t 27)),(3, 1, (.t 33))],none⟩,⟨some 35,.bsl 4 1
 [.val (.int .i64 0),.val (.int .i64 0),.val (.int .i64 0),.val (.int .i64 0)] [(0, 4, (.t 34))],none⟩,⟨some 36,.app 4 (.t 18) (.t 35),none⟩,qm 3 36] []))) (.reg false [qm 10 4,qs 11 10,qm 4 11] [])))
def c38 : CF := ⟨.seq (.reg false [qj 2] []) (.seq (.reg false [qj 3] []) (.seq (.seq (.reg false [qi 4 0] []) (.block 0 (.loop L38_0))) (.seq (.reg false [qm 37 3,qm 2 37] []) .ret))),[.tmp 2]⟩
def L39_0 : CC := (.seq (.seq (.reg false [qm 5 4,qm 6 0,qe 7 6,qz 8 5 7] []) (.cond (.t 8) .skip (.exit 0))) (.seq (.block 1 (.reg false [qm 11 3,qm 12 0,qm 13 4,qx 14 12 13,ql 15 14,⟨some 16,.bsl 1 1 [.val (.string ⟨#[]⟩)] [(0, 1, (.t
 15))],none⟩,⟨some 17,.app 1 (.t 11) (.t 16),none⟩,qm 3 17] [])) (.reg false [qm 9 4,qs 10 9,qm 4 10] [])))
def c39 : CF := ⟨.seq (.reg false [qj 2] []) (.seq (.reg false [qj 3] []) (.seq (.seq (.reg false [qi 4 0] []) (.block 0 (.loop L39_0))) (.seq (.reg false [qm 18 3,qm 2 18] []) .ret))),[.tmp 2]⟩
def L40_0 : CC := (.seq (.seq (.reg false [qm 5 4,qm 6 0,qe 7 6,qz 8 5 7] []) (.cond (.t 8) .skip (.exit 0))) (.seq (.block 1 (.reg true [qm 11 3,qm 12 0,qm 13 4,⟨some 14,.ias 2 (.t 12) (.t 13),none⟩,qa 15 0 14,ql 16 15,qm 17 0,qm 18 4,⟨some 19,.ias
 2 (.t 17) (.t 18),none⟩,qa 20 1 19,ql 21 20,qc 22 36 21,⟨some 23,.build [.val (.string ⟨#[]⟩),.im [] true] [(0, 1, (.t 16)),(1, 1, (.t 22))],none⟩,⟨some 24,.bsl 2 1 [.val (.string ⟨#[]⟩),.im [] true] [(0, 2, (.t 23))],none⟩,⟨some 25,.app 2 (.t 11)
 (.t 24),none⟩,qm 3 25] [(5, 11)])) (.reg false [qm 9 4,qs 10 9,qm 4 10] [])))
def c40 : CF := ⟨.seq (.reg false [qj 2] []) (.seq (.reg false [qj 3] []) (.seq (.seq (.reg false [qi 4 0] []) (.block 0 (.loop L40_0))) (.seq (.reg false [qm 26 3,qm 2 26] []) .ret))),[.tmp 2]⟩
def c42 : CF := ⟨.seq (.reg false [qj 4,qi 5 0] []) (.seq (.seq (.reg false [qm 6 0,qm 7 1,qk 8 69 6 7,qb 9 8] []) (.cond (.t 9) (.seq (.reg false [qm 10 0,qm 4 10,qi 5 11] []) .ret) .skip)) (.seq (.reg false [qm 11 0,qc 12 71 11,qm 13 1,qm 14 1,qs
 15 14,⟨some 16,.call (.c (.fn 70 [])) [.t 12,.t 13,.t 15],none⟩,qm 4 16,qi 5 0] []) .ret)),[.tmp 4,.tmp 5]⟩
def c44 : CF := ⟨.seq (.reg false [⟨some 2,.box (.t 0),none⟩,⟨some 4,.alloc [.im [] true,.im [] true,.val (.int .i64 0)],none⟩,qi 5 0] []) (.seq (.reg false [qa 13 1 2,ql 14 13,qm 15 1,qk 16 72 14 15,qm 12 16,⟨some 17,.ext (.t 12) 0,none⟩,⟨some
 18,.ext (.t 12) 1,none⟩,⟨some 19,.ext (.t 12) 2,none⟩,⟨some 6,.alloc [.val (.int .i64 0),.val (.string ⟨#[]⟩),.val (.string ⟨#[]⟩),.im [] true,.val (.int .i64 0),.im [] true,.im [] true,.im [] true,.im [] true,.im [] true,.val (.bool false),.im []
 true],none⟩,qw 12 6 17,qm 7 18,qm 8 19] []) (.seq (.seq (.reg false [qm 20 8,⟨some 21,.bin .neq 27 false true (.t 20) (.c (.val (.int .i64 0))),none⟩] []) (.cond (.t 21) (.seq (.reg false [⟨some 22,.ld 3 true (.t 2),none⟩,qm 23 8,qw 3 4 22,qm 5 23]
 []) .ret) .skip)) (.seq (.reg false [qm 24 7,qa 25 1 2,qw 1 25 24] []) (.seq (.reg false [⟨some 26,.ld 3 true (.t 2),none⟩,qa 27 2 6,ql 28 27,qk 29 21 26 28,qm 9 29] []) (.seq (.block 0 (.seq (.reg false [qm 31 9,⟨some 32,.bin .lss 3 false true (.t
 31) (.c (.val (.int .i64 0))),none⟩,qm 30 32] []) (.cond (.t 30) (.seq (.reg false [⟨some 33,.ld 3 true (.t 2),none⟩,qw 3 4 33,qi 5 4] []) .ret) (.seq (.reg false [qa 35 0 6,ql 36 35,⟨some 37,.bin .neq 3 false true (.t 36) (.c (.val (.int .i64
 1))),none⟩,qm 34 37] []) (.cond (.t 34) (.seq (.reg true [qa 39 0 2,ql 40 39,qm 41 9,qa 42 0 2,ql 43 42,qm 44 9,⟨some 45,.ias 13 (.t 43) (.t 44),none⟩,⟨some 46,.ld 13 true (.t 45),none⟩,⟨some 47,.ld 12 true (.t 6),none⟩,qk 48 73 46 47,qm 38
 48,⟨some 49,.ext (.t 38) 0,none⟩,⟨some 50,.ext (.t 38) 1,none⟩,⟨some 51,.ias 13 (.t 40) (.t 41),none⟩,qw 13 51 49,qm 8 50] [(1, 9)]) (.seq (.reg false [⟨some 52,.ld 3 true (.t 2),none⟩,qm 53 8,qw 3 4 52,qm 5 53] []) .ret)) .skip))))) (.seq (.reg
 true [qa 55 0 2,ql 56 55,qm 57 9,⟨some 58,.ias 13 (.t 56) (.t 57),none⟩,⟨some 59,.ld 13 true (.t 58),none⟩,⟨some 60,.ld 12 true (.t 6),none⟩,qa 61 2 2,ql 62 61,⟨some 63,.call (.c (.fn 74 [])) [.t 59,.t 60,.t 62],none⟩,qm 54 63,⟨some 64,.ext (.t 54)
 0,none⟩,⟨some 65,.ext (.t 54) 1,none⟩,⟨some 66,.ext (.t 54) 2,none⟩,⟨some 10,.alloc [.val (.string ⟨#[]⟩),.val (.int .i64 0),.val (.int .i64 0),.val (.int .i64 0),.val (.int .i64 0),.im [] true,.im [] true,.im [] true,.im [] true,.im [] true,.im []
 true,.im [] true,.im [] true],none⟩,⟨some 11,.alloc [.val (.int .i64 0),.val (.string ⟨#[]⟩),.val (.string ⟨#[]⟩),.im [] true,.val (.int .i64 0),.im [] true,.im [] true,.im [] true,.im [] true,.im [] true,.val (.bool false),.im [] true],none⟩,qw 13
 10 64,qw 12 11 65,qm 8 66] [(1, 13),(4, 13),(5, 13),(7, 13),(8, 13),(1, 14),(4, 14),(5, 14),(7, 14),(8, 14),(13, 14)]) (.seq (.seq (.reg false [qm 67 8,⟨some 68,.bin .neq 27 false true (.t 67) (.c (.val (.int .i64 0))),none⟩] []) (.cond (.t 68)
 (.seq (.reg false [⟨some 69,.ld 3 true (.t 2),none⟩,qm 70 8,qw 3 4 69,qm 5 70] []) .ret) .skip)) (.seq (.reg false [qa 71 0 2,ql 72 71,qm 73 9,⟨some 74,.ld 13 true (.t 10),none⟩,⟨some 75,.ias 13 (.t 72) (.t 73),none⟩,qw 13 75 74] []) (.seq (.reg
 false [qa 77 1 2,ql 78 77,⟨some 79,.ld 12 true (.t 11),none⟩,qk 80 49 78 79,qm 76 80,⟨some 81,.ext (.t 76) 0,none⟩,⟨some 82,.ext (.t 76) 1,none⟩,qa 83 1 2,qw 1 83 81,qm 8 82] []) (.seq (.reg false [⟨some 84,.ld 3 true (.t 2),none⟩,qm 85 8,qw 3 4
 84,qm 5 85] []) .ret)))))))))),[.cell 4 3 true,.tmp 5]⟩
def L45_0 : CC := (.seq (.reg false [qz 9 8 7] []) (.seq (.cond (.t 9) .skip (.exit 0)) (.seq (.block 1 (.seq (.reg false [qm 10 8,qm 5 10] []) (.seq (.reg false [qm 11 1,qm 12 0,qm 13 5,⟨some 14,.ias 13 (.t 12) (.t 13),none⟩,⟨some 15,.ld 13 true
 (.t 14),none⟩,⟨some 16,.call (.t 11) [.t 15],none⟩] []) (.cond (.t 16) (.seq (.reg false [qm 17 5,qm 4 17] []) .ret) .skip)))) (.reg false [qs 18 8,qm 8 18] []))))
def c45 : CF := ⟨.seq (.reg false [qi 4 0] []) (.seq (.seq (.reg false [qm 6 0,qe 7 6,qi 8 0] []) (.block 0 (.loop L45_0))) (.seq (.reg false [⟨some 4,.mv (.c (.val (.int .i64 (-1)))),none⟩] []) .ret)),[.tmp 4]⟩
def c46 : CF := ⟨.seq (.reg false [⟨some 2,.box (.t 0),none⟩,qf 3] []) (.seq (.reg false [qa 4 0 2,ql 5 4,ql 6 1,⟨some 7,.bin .eql 38 false false (.t 5) (.t 6),none⟩,qm 3 7] []) .ret),[.tmp 3]⟩
def c47 : CF := ⟨.seq (.reg false [⟨some 1,.box (.t 0),none⟩,⟨some 2,.alloc [.val (.string ⟨#[]⟩),.val (.int .i64 0),.val (.int .i64 0),.val (.int .i64 0),.val (.int .i64 0),.im [] true,.im [] true,.im [] true,.im [] true,.im [] true,.im [] true,.im
 [] true,.im [] true],none⟩,⟨some 3,.alloc [.val (.string ⟨#[]⟩),.val (.int .i64 0),.val (.int .i64 0),.val (.int .i64 0),.val (.int .i64 0),.im [] true,.im [] true,.im [] true,.im [] true,.im [] true,.im [] true,.im [] true,.im [] true],none⟩,qi 4
 0] []) (.seq (.seq (.reg false [qa 8 1 1,ql 9 8,⟨some 10,.bin .neq 3 false true (.t 9) (.c (.val (.int .i64 0))),none⟩] []) (.cond (.t 10) (.seq (.reg false [⟨some 11,.ld 13 true (.t 1),none⟩,⟨some 12,.build [.val (.string ⟨#[]⟩),.val (.int .i64
 0),.val (.int .i64 0),.val (.int .i64 0),.val (.int .i64 0),.im [] true,.im [] true,.im [] true,.im [] true,.im [] true,.im [] true,.im [] true,.im [] true] [],none⟩,qw 13 2 11,qw 13 3 12,qi 4 5] []) .ret) .skip)) (.seq (.reg false [qa 14 0 1,ql 15
 14,qa 16 2 1,ql 17 16,qs 18 17,qk 19 75 15 18,qm 13 19,⟨some 20,.ext (.t 13) 0,none⟩,⟨some 21,.ext (.t 13) 1,none⟩,qm 5 20,qm 6 21] []) (.seq (.seq (.reg false [qm 22 6,⟨some 23,.bin .neq 27 false true (.t 22) (.c (.val (.int .i64 0))),none⟩] [])
 (.cond (.t 23) (.seq (.reg false [⟨some 24,.ld 13 true (.t 1),none⟩,⟨some 25,.build [.val (.string ⟨#[]⟩),.val (.int .i64 0),.val (.int .i64 0),.val (.int .i64 0),.val (.int .i64 0),.im [] true,.im [] true,.im [] true,.im [] true,.im [] true,.im []
 true,.im [] true,.im [] true] [],none⟩,qw 13 2 24,qw 13 3 25,qi 4 18] []) .ret) .skip)) (.seq (.reg false [⟨some 26,.ld 13 true (.t 1),none⟩,qc 27 56 26,qw 13 1 27] []) (.seq (.reg false [qa 28 2 1,ql 29 28,qs 30 29,qa 31 2 1,qw 1 31 30] []) (.seq
 (.reg false [qa 32 10 1,ql 33 32,qm 34 5,qk 35 76 33 34,qa 36 10 1,qw 1 36 35] []) (.seq (.reg true [qa 37 12 1,ql 38 37,qm 39 5,⟨some 40,.ld 13 true (.t 1),none⟩,qc 41 59 40,qc 42 58 41,⟨some 43,.call (.c (.fn 57 [])) [.t 38,.t 39,.t 42],none⟩,qa
 44 12 1,qw 1 44 43] [(1, 4),(1, 5)]) (.seq (.reg false [⟨some 45,.ld 13 true (.t 1),none⟩,qc 46 26 45,qw 13 1 46] []) (.seq (.reg false [⟨some 47,.ld 13 true (.t 1),none⟩,⟨some 7,.alloc [.val (.string ⟨#[]⟩),.val (.int .i64 0),.val (.int .i64
 0),.val (.int .i64 0),.val (.int .i64 0),.im [] true,.im [] true,.im [] true,.im [] true,.im [] true,.im [] true,.im [] true,.im [] true],none⟩,qw 13 7 47] []) (.seq (.reg false [qm 48 5,qa 49 0 7,qw 1 49 48,qa 50 2 7,⟨none,.st 1 (.t 50) (.c (.val
 (.int .i64 0))),none⟩,qa 51 3 7,⟨none,.st 1 (.t 51) (.c (.val (.int .i64 0))),none⟩] []) (.seq (.reg true [⟨some 52,.ld 13 true (.t 1),none⟩,⟨some 53,.ld 13 true (.t 7),none⟩,qc 54 26 53,qw 13 2 52,qw 13 3 54,qi 4 0] [(0, 2)])
 .ret))))))))))),[.cell 2 13 true,.cell 3 13 true,.tmp 4]⟩
def c48 : CF := ⟨.seq (.reg false [⟨some 2,.box (.t 0),none⟩,⟨some 4,.alloc [.val (.int .i64 0),.val (.string ⟨#[]⟩),.val (.string ⟨#[]⟩),.im [] true,.val (.int .i64 0),.im [] true,.im [] true,.im [] true,.im [] true,.im [] true,.val (.bool
 false),.im [] true],none⟩,qi 5 0] []) (.seq (.block 0 (.seq (.reg false [qa 8 1 2,ql 9 8,⟨some 10,.bin .neq 3 false true (.t 9) (.c (.val (.int .i64 0))),none⟩,qm 7 10] []) (.cond (.t 7) (.seq (.reg false [⟨some 11,.build [.val (.int .i64 0),.val
 (.string ⟨#[]⟩),.val (.string ⟨#[]⟩),.im [] true,.val (.int .i64 0),.im [] true,.im [] true,.im [] true,.im [] true,.im [] true,.val (.bool false),.im [] true] [],none⟩,qw 12 4 11,qi 5 5] []) .ret) (.seq (.reg false [qm 13 1,qc 14 77 13,qb 15 14,qm
 16 15,qmF 17 1 16,qaF 18 0 2 16,qlF 19 18 16,⟨some 20,.bin .eql 38 false false (.t 17) (.t 19),some (16, false)⟩,qo 21 16 20,qm 12 21] []) (.cond (.t 12) (.seq (.reg false [⟨some 22,.build [.val (.int .i64 0),.val (.string ⟨#[]⟩),.val (.string
 ⟨#[]⟩),.im [] true,.val (.int .i64 0),.im [] true,.im [] true,.im [] true,.im [] true,.im [] true,.val (.bool false),.im [] true] [],none⟩,qw 12 4 22,qi 5 1] []) .ret) .skip))))) (.seq (.reg false [⟨some 23,.ld 13 true (.t 2),none⟩,qm 24 1,⟨some
 25,.call (.c (.fn 78 [])) [.t 23,.c (.val (.int .i64 1)),.t 24],none⟩,⟨some 6,.alloc [.val (.int .i64 0),.val (.string ⟨#[]⟩),.val (.string ⟨#[]⟩),.im [] true,.val (.int .i64 0),.im [] true,.im [] true,.im [] true,.im [] true,.im [] true,.val
 (.bool false),.im [] true],none⟩,qw 12 6 25] []) (.seq (.reg true [qa 26 9 2,ql 27 26,⟨some 28,.app 3 (.c (.im [] true)) (.t 27),none⟩,⟨some 29,.ld 13 true (.t 2),none⟩,qc 30 79 29,qa 31 8 6,qw 1 31 28,qa 32 9 6,qw 1 32 30] [(2, 3)]) (.seq (.reg
 false [⟨some 33,.ld 12 true (.t 6),none⟩,qw 12 4 33,qi 5 0] []) .ret)))),[.cell 4 12 true,.tmp 5]⟩
def c49 : CF := ⟨.seq (.reg false [⟨some 3,.box (.t 1),none⟩,qj 4,qi 5 0] []) (.seq (.block 0 (.seq (.reg false [⟨some 7,.ld 12 true (.t 3),none⟩,qc 8 80 7,qb 9 8,qm 6 9] []) (.cond (.t 6) (.seq (.reg false [qm 10 0,qm 4 10,qi 5 1] []) .ret) (.seq
 (.reg false [qm 12 0,qe 13 12,⟨some 14,.bin .geq 3 false true (.t 13) (.c (.val (.int .i64 64))),none⟩,qm 11 14] []) (.cond (.t 11) (.seq (.reg false [qm 15 0,qm 4 15,qi 5 18] []) .ret) .skip))))) (.seq (.reg true [qm 16 0,qc 17 71 16,⟨some 18,.ld
 12 true (.t 3),none⟩,qc 19 81 18,⟨some 20,.bsl 1 1 [.im [] true] [(0, 1, (.t 19))],none⟩,⟨some 21,.app 1 (.t 17) (.t 20),none⟩,qm 4 21,qi 5 0] [(1, 2)]) .ret)),[.tmp 4,.tmp 5]⟩
def c51 : CF := ⟨.seq (.reg false [⟨some 4,.box (.t 0),none⟩,⟨some 8,.alloc [.val (.string ⟨#[]⟩),.val (.int .i64 0),.val (.int .i64 0),.val (.int .i64 0),.val (.int .i64 0),.im [] true,.im [] true,.im [] true,.im [] true,.im [] true,.im [] true,.im
 [] true,.im [] true],none⟩,qi 9 0] []) (.seq (.block 0 (.seq (.reg false [qa 11 1 4,ql 12 11,⟨some 13,.bin .neq 3 false true (.t 12) (.c (.val (.int .i64 0))),none⟩,qm 10 13] []) (.cond (.t 10) (.seq (.reg false [⟨some 14,.ld 13 true (.t
 4),none⟩,qw 13 8 14,qi 9 5] []) .ret) (.seq (.reg false [qm 16 1,⟨some 17,.bin .lss 3 false true (.t 16) (.c (.val (.int .i64 0))),none⟩,qm 18 17,qmF 19 1 18,⟨some 20,.bin .geq 3 false true (.t 19) (.c (.val (.int .i64 32))),some (18, false)⟩,qo 21
 18 20,qm 15 21] []) (.cond (.t 15) (.seq (.reg false [⟨some 22,.ld 13 true (.t 4),none⟩,qw 13 8 22,qi 9 6] []) .ret) (.seq (.reg false [qm 24 2,qc 25 62 24,qb 26 25,qm 23 26] []) (.cond (.t 23) (.seq (.reg false [⟨some 27,.ld 13 true (.t
 4),none⟩,qw 13 8 27,qi 9 8] []) .ret) (.seq (.reg false [qa 29 9 4,ql 30 29,qm 31 2,qk 32 28 30 31,qb 33 32,qm 28 33] []) (.cond (.t 28) (.seq (.reg false [⟨some 34,.ld 13 true (.t 4),none⟩,qw 13 8 34,qi 9 9] []) .ret) (.seq (.reg false [qm 36
 3,⟨some 37,.len true (.t 36),none⟩,⟨some 38,.bin .gtr 3 false true (.t 37) (.c (.val (.int .i64 16))),none⟩,qm 35 38] []) (.cond (.t 35) (.seq (.reg false [⟨some 39,.ld 13 true (.t 4),none⟩,qw 13 8 39,qi 9 7] []) .ret) .skip))))))))))) (.seq (.reg
 false [⟨some 40,.ld 13 true (.t 4),none⟩,qm 41 1,qm 42 2,qm 43 3,⟨some 44,.build [.val (.int .i64 0),.val (.string ⟨#[]⟩),.val (.int .i64 0),.val (.int .i64 0),.val (.bool false),.val (.complex .f64 0 0),.val (.string ⟨#[]⟩),.val (.bool false)]
 [(0, 1, (.t 41)),(5, 1, (.t 42)),(6, 1, (.t 43)),(7, 1, (.c (.val (.bool true))))],none⟩,qk 45 88 40 44,⟨some 46,.ext (.t 45) 0,none⟩,⟨some 47,.ext (.t 45) 1,none⟩,qw 13 8 46,qm 9 47] []) .ret)),[.cell 8 13 true,.tmp 9]⟩
def c56 : CF := ⟨.seq (.reg false [⟨some 1,.box (.t 0),none⟩,⟨some 2,.alloc [.val (.string ⟨#[]⟩),.val (.int .i64 0),.val (.int .i64 0),.val (.int .i64 0),.val (.int .i64 0),.im [] true,.im [] true,.im [] true,.im [] true,.im [] true,.im [] true,.im
 [] true,.im [] true],none⟩] []) (.seq (.reg true [qa 3 5 1,ql 4 3,⟨some 5,.call (.c (.fn 96 [])) [.t 4,.c (.im [] true)],none⟩,qa 6 12 1,ql 7 6,⟨some 8,.call (.c (.fn 97 [])) [.t 7,.c (.im [] true)],none⟩,qa 9 5 1,qw 1 9 5,qa 10 12 1,qw 1 10 8]
 [(2, 4)]) (.seq (.reg true [qa 11 6 1,ql 12 11,qc 13 98 12,qa 14 7 1,ql 15 14,qc 16 98 15,qa 17 11 1,ql 18 17,qc 19 98 18,qa 20 6 1,qw 1 20 13,qa 21 7 1,qw 1 21 16,qa 22 11 1,qw 1 22 19] [(2, 4),(2, 7),(5, 7)]) (.seq (.reg true [qa 23 8 1,ql 24
 23,qc 25 99 24,qa 26 9 1,ql 27 26,qc 28 89 27,qa 29 10 1,ql 30 29,qc 31 100 30,qa 32 8 1,qw 1 32 25,qa 33 9 1,qw 1 33 28,qa 34 10 1,qw 1 34 31] [(2, 4),(2, 7),(5, 7)]) (.seq (.reg false [⟨some 35,.ld 13 true (.t 1),none⟩,qw 13 2 35] [])
 .ret)))),[.cell 2 13 true]⟩
def c57 : CF := ⟨.seq (.reg false [qj 6] []) (.seq (.reg false [qm 10 0,qc 11 101 10,qm 7 11] []) (.seq (.reg false [qm 13 7,qm 14 1,qk 15 102 13 14,qm 12 15,⟨some 16,.ext (.t 12) 0,none⟩,⟨some 17,.ext (.t 12) 1,none⟩,qm 8 16,qm 9 17] []) (.seq
 (.block 0 (.seq (.reg false [qm 19 9,qm 18 19] []) (.cond (.t 18) (.reg false [qm 20 7,qm 21 8,qm 22 7,qm 23 8,⟨some 24,.ias 2 (.t 22) (.t 23),none⟩,qa 25 1 24,ql 26 25,qm 27 2,qk 28 103 26 27,⟨some 29,.ias 2 (.t 20) (.t 21),none⟩,qa 30 1 29,qw 1
 30 28] []) (.seq (.reg false [qm 32 1,qc 33 77 32,qm 34 33,qmT 35 2 34,qeT 36 35 34,⟨some 37,.bin .gtr 3 false true (.t 36) (.c (.val (.int .i64 0))),some (34, true)⟩,qp 38 34 37,qm 31 38] []) (.cond (.t 31) (.reg false [qm 39 7,qm 40 8,qm 41 1,qm
 42 2,qc 43 98 42,⟨some 44,.build [.val (.string ⟨#[]⟩),.im [] true] [(0, 1, (.t 41)),(1, 1, (.t 43))],none⟩,⟨some 45,.bsl 2 1 [.val (.string ⟨#[]⟩),.im [] true] [(0, 2, (.t 44))],none⟩,⟨some 46,.call (.c (.fn 104 [])) [.t 39,.t 40,.t 45],none⟩,qm 7
 46] []) .skip))))) (.seq (.reg false [qm 47 7,qm 6 47] []) .ret)))),[.tmp 6]⟩
def L58_0 : CC := (.seq (.reg false [qz 9 8 7] []) (.seq (.cond (.t 9) .skip (.exit 0)) (.seq (.block 1 (.seq (.reg false [⟨some 10,.ias 3 (.t 6) (.t 8),none⟩,⟨some 11,.ld 3 true (.t 10),none⟩,⟨some 5,.alloc [.val (.string ⟨#[]⟩),.val (.int .i64
 0),.im [] true],none⟩,qw 3 5 11] []) (.reg false [qm 12 3,qa 13 0 5,ql 14 13,qa 15 1 5,qa 16 0 15,ql 17 16,⟨some 18,.call (.c (.fn 105 [])) [.t 12,.t 14,.t 17],none⟩,qm 3 18] []))) (.reg false [qs 19 8,qm 8 19] []))))
def c58 : CF := ⟨.seq (.reg false [qj 2] []) (.seq (.reg false [qj 3] []) (.seq (.seq (.reg false [qm 6 0,qe 7 6,qi 8 0] []) (.block 0 (.loop L58_0))) (.seq (.reg false [qm 20 3,qm 2 20] []) .ret))),[.tmp 2]⟩
def c59 : CF := ⟨.seq (.reg false [⟨some 1,.box (.t 0),none⟩,qj 2] []) (.seq (.reg true [qa 3 5 1,ql 4 3,qa 5 6 1,ql 6 5,qc 7 106 6,qk 8 96 4 7,qm 2 8] [(1, 4)]) .ret),[.tmp 2]⟩
def c60 : CF :=  ⟨.seq (.reg false [⟨some 4,.alloc [.val (.int .i64 0),.val (.string ⟨#[]⟩),.val (.int .i64 0),.val (.int .i64 0),.val (.bool false),.val (.complex .f64 0 0),.val (.string ⟨#[]⟩),.val (.bool false)],none⟩,qf 5] []) (.seq (.reg false
 [qm 9 0,qm 10 1,qk 11 107 9 10,qm 8 11,⟨some 12,.ext (.t 8) 0,none⟩,⟨some 13,.ext (.t 8) 1,none⟩,qm 6 12,qm 7 13] []) (.seq (.seq (.reg false [qm 14 7,qb 15 14] []) (.cond (.t 15) (.seq (.reg false [⟨some 16,.build [.val (.int .i64 0),.val (.string
 ⟨#[]⟩),.val (.int .i64 0),.val (.int .i64 0),.val (.bool false),.val (.complex .f64 0 0),.val (.string ⟨#[]⟩),.val (.bool false)] [],none⟩,qw 8 4 16,qf 5] []) .ret) .skip)) (.seq (.reg false [qm 17 0,qm 18 6,⟨some 19,.ias 8 (.t 17) (.t
 18),none⟩,⟨some 20,.ld 8 true (.t 19),none⟩,qw 8 4 20,qt 5] []) .ret))),[.cell 4 8 true,.tmp 5]⟩
def L61_0 : CC := (.seq (.reg false [qz 12 11 10] []) (.seq (.cond (.t 12) .skip (.exit 0)) (.seq (.block 1 (.seq (.reg false [⟨some 13,.ias 3 (.t 9) (.t 11),none⟩,⟨some 14,.ld 3 true (.t 13),none⟩,⟨some 5,.alloc [.val (.int .i64 0),.val (.complex
 .f64 0 0),.val (.float .f64 0)],none⟩,qw 3 5 14] []) (.seq (.seq (.reg false [⟨some 15,.ld 3 true (.t 5),none⟩,qc 16 108 15,qb 17 16,qm 18 17,qmF 19 3 18,⟨some 20,.ld 3 true (.t 5),some (18, false)⟩,qcF 21 63 20 18,⟨some 22,.bin .lss 3 false false
 (.t 19) (.t 21),some (18, false)⟩,qo 23 18 22] []) (.cond (.t 23) (.seq (.reg false [qf 2] []) .ret) .skip)) (.reg false [qm 24 3,⟨some 25,.ld 3 true (.t 5),none⟩,qc 26 63 25,⟨some 27,.bin .sub 3 true false (.c (.val (.int .i64 1))) (.t
 26),none⟩,⟨some 28,.bin .add 3 false false (.t 24) (.t 27),none⟩,qm 3 28] [])))) (.reg false [qs 29 11,qm 11 29] []))))
def c61 : CF := ⟨.seq (.reg false [qf 2] []) (.seq (.seq (.reg false [qm 6 0,qe 7 6,⟨some 8,.bin .gtr 3 false true (.t 7) (.c (.val (.int .i64 32))),none⟩] []) (.cond (.t 8) (.seq (.reg false [qf 2] []) .ret) .skip)) (.seq (.reg false [qi 3 0] [])
 (.seq (.seq (.reg false [qm 9 0,qe 10 9,qi 11 0] []) (.block 0 (.loop L61_0))) (.seq (.reg false [qm 30 3,qq 31 30 1,qm 2 31] []) .ret)))),[.tmp 2]⟩
def c62 : CF := ⟨.seq (.reg false [qf 2] []) (.seq (.reg false [qm 3 0,⟨some 4,.fun_ .real #[53] 105 [.t 3],none⟩,⟨some 5,.call (.c (.fn 109 [])) [.t 4,.c (.val (.float .f64 13875379345695965184)),.c (.val (.float .f64
 4652007308841189376))],none⟩,qm 6 5,qmT 7 0 6,⟨some 8,.fun_ .imag #[53] 105 [.t 7],some (6, true)⟩,⟨some 9,.call (.c (.fn 109 [])) [.t 8,.c (.val (.float .f64 13875379345695965184)),.c (.val (.float .f64 4652007308841189376))],some (6, true)⟩,qp 10
 6 9,qm 2 10] []) .ret),[.tmp 2]⟩
def c63 : CF := ⟨.seq (.reg false [⟨some 1,.box (.t 0),none⟩,qi 2 0] []) (.seq (.seq (.reg false [qa 3 0 1,ql 4 3] []) (.block 0 (.seq (.reg false [qq 6 4 4,qm 5 6] []) (.cond (.t 5) (.seq (.reg false [qi 2 1] []) .ret) (.seq (.seq (.reg false [qq 8
 4 5,qm 7 8] []) (.cond (.t 7) .skip (.reg false [qq 9 4 6,qm 7 9] []))) (.cond (.t 7) (.seq (.reg false [qi 2 2] []) .ret) .skip)))))) (.seq (.reg false [qi 2 0] []) .ret)),[.tmp 2]⟩
def c64 : CF := ⟨.seq (.reg false [⟨some 3,.box (.t 0),none⟩,qf 6] []) (.seq (.seq (.reg false [qa 7 0 3,ql 8 7] []) (.block 0 (.seq (.reg false [qq 10 8 2,qm 9 10] []) (.cond (.t 9) (.seq (.reg true [qm 11 1,qa 12 1 3,ql 13 12,⟨some 14,.bin .sub 53
 false false (.t 11) (.t 13),none⟩,qm 15 1,qa 16 1 3,ql 17 16,⟨some 18,.bin .sub 53 false false (.t 15) (.t 17),none⟩,qk 19 110 14 18,qa 20 2 3,ql 21 20,qa 22 2 3,ql 23 22,⟨some 24,.bin .mul 105 false false (.t 21) (.t 23),none⟩,⟨some 25,.bin .leq
 105 false false (.t 19) (.t 24),none⟩,qm 6 25] [(8, 10),(8, 12)]) .ret) (.seq (.reg false [qq 27 8 3,qm 26 27] []) (.cond (.t 26) (.seq (.reg true [qm 28 1,qa 29 1 3,ql 30 29,qk 31 110 28 30,qa 32 2 3,ql 33 32,⟨some 34,.bin .geq 105 false false (.t
 31) (.t 33),none⟩,qm 6 34] [(3, 5)]) .ret) (.seq (.reg false [qq 36 8 4,qm 35 36] []) (.cond (.t 35) (.seq (.reg false [qm 37 2,⟨some 38,.ias 1 (.t 37) (.c (.val (.int .i64 0))),none⟩,ql 39 38,qb 40 39,qm 6 40] []) .ret) (.seq (.reg false [qq 42 8
 5,qm 41 42] []) (.cond (.t 41) (.seq (.reg false [qm 43 2,⟨some 44,.ias 1 (.t 43) (.c (.val (.int .i64 0))),none⟩,ql 45 44,qm 46 45,qmT 47 2 46,⟨some 48,.ias 1 (.t 47) (.c (.val (.int .i64 1))),some (46, true)⟩,qlT 49 48 46,qp 50 46 49,qm 6 50] [])
 .ret) (.seq (.reg false [qq 52 8 6,qm 51 52] []) (.cond (.t 51) (.seq (.reg false [qm 53 2,⟨some 54,.ias 1 (.t 53) (.c (.val (.int .i64 0))),none⟩,ql 55 54,qm 56 55,qmF 57 2 56,⟨some 58,.ias 1 (.t 57) (.c (.val (.int .i64 1))),some (56, false)⟩,qlF
 59 58 56,qo 60 56 59,qm 6 60] []) .ret) .skip)))))))))))) (.seq (.reg false [qt 6] []) .ret)),[.tmp 6]⟩
def c68 : CF := ⟨.seq (.reg false [⟨some 2,.alloc [.val (.int .i64 0),.val (.int .i64 0)],none⟩] []) (.seq (.reg false [qm 3 0,⟨some 4,.fun_ .real #[53] 105 [.t 3],none⟩,⟨some 5,.cv 105 3 (.t 4),none⟩,qm 6 0,⟨some 7,.fun_ .imag #[53] 105 [.t
 6],none⟩,⟨some 8,.cv 105 3 (.t 7),none⟩,⟨some 9,.build [.val (.int .i64 0),.val (.int .i64 0)] [(0, 1, (.t 5)),(1, 1, (.t 8))],none⟩,qw 2 2 9] []) .ret),[.cell 2 2 true]⟩
def c69 : CF := ⟨.seq (.reg false [qf 4] []) (.seq (.reg false [qm 5 1,⟨some 6,.bin .geq 3 false true (.t 5) (.c (.val (.int .i64 0))),none⟩,qm 7 6,qmT 8 1 7,qmT 9 0 7,qeT 10 9 7,⟨some 11,.bin .lss 3 false false (.t 8) (.t 10),some (7, true)⟩,qp 12
 7 11,qm 4 12] []) .ret),[.tmp 4]⟩
def c70 : CF := ⟨.seq (.reg false [qj 6] []) (.seq (.reg false [qm 8 0,qm 9 1,qm 10 2,qm 11 0,qe 12 11,⟨some 13,.slc 1 (.t 8) (some (.t 9)) (some (.t 10)) (some (.t 12)),none⟩] []) (.seq (.seq (.reg false [qm 14 1,qm 15 2,⟨some 16,.bin .eql 3 false
 false (.t 14) (.t 15),none⟩] []) (.cond (.t 16) (.seq (.reg false [qm 17 0,qm 6 17] []) .ret) .skip)) (.seq (.reg false [qm 18 0,qe 19 18,qm 7 19] []) (.seq (.reg true [qm 20 0,qm 21 1,⟨some 22,.slc 1 (.t 20) none (some (.t 21)) none,none⟩,qm 23
 0,qm 24 2,⟨some 25,.slc 1 (.t 23) (some (.t 24)) none none,none⟩,⟨some 26,.app 1 (.t 22) (.t 25),none⟩,qm 0 26] []) (.seq (.reg false [qm 27 0,qm 28 0,qe 29 28,qm 30 7,⟨some 31,.slc 1 (.t 27) (some (.t 29)) (some (.t 30)) none,none⟩,⟨none,.clr [.im
 [] true] (.t 31),none⟩] []) (.seq (.reg false [qm 32 0,qm 6 32] []) .ret)))))),[.tmp 6]⟩
def L71_0 : CC := (.seq (.reg false [qz 10 9 8] []) (.seq (.cond (.t 10) .skip (.exit 0)) (.seq (.block 1 (.seq (.reg false [qm 11 9,qm 4 11] []) (.reg false [qm 12 3,qm 13 4,qm 14 3,qm 15 4,qx 16 14 15,ql 17 16,qc 18 41 17,qx 19 12 13,qw 1 19 18]
 []))) (.reg false [qs 20 9,qm 9 20] []))))
def c71 : CF := ⟨.seq (.reg false [qj 2] []) (.seq (.reg false [qm 5 0,qc 6 111 5,qm 3 6] []) (.seq (.seq (.reg false [qm 7 3,qe 8 7,qi 9 0] []) (.block 0 (.loop L71_0))) (.seq (.reg false [qm 21 3,qm 2 21] []) .ret))),[.tmp 2]⟩
def c72 : CF := ⟨.seq (.reg false [⟨some 4,.alloc [.val (.int .i64 0),.val (.string ⟨#[]⟩),.val (.string ⟨#[]⟩),.im [] true,.val (.int .i64 0),.im [] true,.im [] true,.im [] true,.im [] true,.im [] true,.val (.bool false),.im [] true],none⟩,qj 5,qi
 6 0] []) (.seq (.reg false [qm 12 0,qm 13 1,qk 14 112 12 13,qm 11 14,⟨some 15,.ext (.t 11) 0,none⟩,⟨some 16,.ext (.t 11) 1,none⟩,⟨some 7,.alloc [.val (.int .i64 0),.val (.string ⟨#[]⟩),.val (.string ⟨#[]⟩),.im [] true,.val (.int .i64 0),.im []
 true,.im [] true,.im [] true,.im [] true,.im [] true,.val (.bool false),.im [] true],none⟩,qw 12 7 15,qm 8 16] []) (.seq (.seq (.reg false [qm 17 8,⟨some 18,.bin .neq 27 false true (.t 17) (.c (.val (.int .i64 0))),none⟩] []) (.cond (.t 18) (.seq
 (.reg false [⟨some 19,.build [.val (.int .i64 0),.val (.string ⟨#[]⟩),.val (.string ⟨#[]⟩),.im [] true,.val (.int .i64 0),.im [] true,.im [] true,.im [] true,.im [] true,.im [] true,.val (.bool false),.im [] true] [],none⟩,qm 20 0,qm 21 8,qw 12 4
 19,qm 5 20,qm 6 21] []) .ret) .skip)) (.seq (.reg false [qm 23 0,qm 24 1,qk 25 42 23 24,qm 22 25,⟨some 26,.ext (.t 22) 0,none⟩,⟨some 27,.ext (.t 22) 1,none⟩,qm 9 26,qm 10 27] []) (.seq (.reg false [⟨some 28,.ld 12 true (.t 7),none⟩,qm 29 9,qw 12 4
 28,qm 5 29,qi 6 0] []) .ret)))),[.cell 4 12 true,.tmp 5,.tmp 6]⟩
def c73 : CF := ⟨.seq (.reg false [⟨some 2,.box (.t 0),none⟩,⟨some 3,.box (.t 1),none⟩,⟨some 4,.alloc [.val (.string ⟨#[]⟩),.val (.int .i64 0),.val (.int .i64 0),.val (.int .i64 0),.val (.int .i64 0),.im [] true,.im [] true,.im [] true,.im []
 true,.im [] true,.im [] true,.im [] true,.im [] true],none⟩,qi 5 0] []) (.seq (.block 0 (.seq (.reg false [⟨some 9,.ld 12 true (.t 3),none⟩,qc 10 80 9,qb 11 10,qm 12 11,qaF 13 0 3 12,qlF 14 13 12,qqF 15 14 1 12,qo 16 12 15,qm 8 16] []) (.cond (.t
 8) (.seq (.reg false [⟨some 17,.ld 13 true (.t 2),none⟩,qw 13 4 17,qi 5 1] []) .ret) (.seq (.reg false [qa 19 2 3,ql 20 19,qa 21 0 2,ql 22 21,⟨some 23,.bin .neq 38 false false (.t 20) (.t 22),none⟩,qm 18 23] []) (.cond (.t 18) (.seq (.reg false
 [⟨some 24,.ld 13 true (.t 2),none⟩,qw 13 4 24,qi 5 4] []) .ret) (.seq (.reg false [qa 26 1 2,ql 27 26,⟨some 28,.bin .neq 3 false true (.t 27) (.c (.val (.int .i64 0))),none⟩,qm 25 28] []) (.cond (.t 25) (.seq (.reg false [⟨some 29,.ld 13 true (.t
 2),none⟩,qw 13 4 29,qi 5 5] []) .ret) (.seq (.reg false [qa 31 0 3,ql 32 31,qq 33 32 3,qm 30 33] []) (.cond (.t 30) (.seq (.reg false [⟨some 34,.ld 13 true (.t 2),none⟩,⟨some 35,.ld 12 true (.t 3),none⟩,qk 36 113 34 35,⟨some 37,.ext (.t 36)
 0,none⟩,⟨some 38,.ext (.t 36) 1,none⟩,qw 13 4 37,qm 5 38] []) .ret) (.seq (.reg false [qa 40 3 3,ql 41 40,qa 42 7 2,ql 43 42,qk 44 114 41 43,qb 45 44,qm 39 45] []) (.cond (.t 39) (.seq (.reg false [⟨some 46,.ld 13 true (.t 2),none⟩,qw 13 4 46,qi 5
 17] []) .ret) .skip))))))))))) (.seq (.reg false [⟨some 48,.ld 13 true (.t 2),none⟩,⟨some 49,.ld 12 true (.t 3),none⟩,qk 50 115 48 49,qm 47 50,⟨some 51,.ext (.t 47) 0,none⟩,⟨some 52,.ext (.t 47) 1,none⟩,qm 6 51,qm 7 52] []) (.seq (.seq (.reg false
 [qa 53 10 3,ql 54 53] []) (.cond (.t 54) (.reg false [qa 55 3 3,ql 56 55,qm 7 56] []) .skip)) (.seq (.reg false [⟨some 57,.ld 13 true (.t 2),none⟩,qm 58 7,qk 59 83 57 58,qw 13 2 59] []) (.seq (.reg true [qm 60 6,qa 61 4 2,ql 62 61,qa 63 4 3,ql 64
 63,⟨some 65,.fun_ .max #[3,3] 3 [.t 62,.t 64],none⟩,qa 66 8 2,qw 1 66 60,qa 67 4 2,qw 1 67 65] [(4,7)]) (.seq (.reg false [⟨some 68,.ld 13 true (.t 2),none⟩,qa 69 5 3,ql 70 69,qa 71 6 3,ql 72 71,qa 73 7 3,ql 74 73,⟨some 75,.call (.c (.fn 86 []))
 [.t 68,.t 70,.t 72,.t 74],none⟩,qc 76 26 75,qw 13 4 76,qi 5 0] []) .ret)))))),[.cell 4 13 true,.tmp 5]⟩
def c74 : CF := ⟨.seq (.reg false [⟨some 3,.box (.t 0),none⟩,⟨some 4,.box (.t 1),none⟩,⟨some 6,.alloc [.val (.string ⟨#[]⟩),.val (.int .i64 0),.val (.int .i64 0),.val (.int .i64 0),.val (.int .i64 0),.im [] true,.im [] true,.im [] true,.im []
 true,.im [] true,.im [] true,.im [] true,.im [] true],none⟩,⟨some 7,.alloc [.val (.int .i64 0),.val (.string ⟨#[]⟩),.val (.string ⟨#[]⟩),.im [] true,.val (.int .i64 0),.im [] true,.im [] true,.im [] true,.im [] true,.im [] true,.val (.bool
 false),.im [] true],none⟩,qi 8 0] []) (.seq (.block 0 (.seq (.reg false [⟨some 13,.ld 12 true (.t 4),none⟩,qc 14 80 13,qb 15 14,qm 16 15,qaF 17 0 4 16,qlF 18 17 16,⟨some 19,.bin .neq 3 false true (.t 18) (.c (.val (.int .i64 1))),some (16,
 false)⟩,qo 20 16 19,qm 21 20,qmF 22 2 21,⟨some 23,.bin .lss 3 false true (.t 22) (.c (.val (.int .i64 1))),some (21, false)⟩,qo 24 21 23,qm 25 24,qmF 26 2 25,⟨some 27,.bin .gtr 3 false true (.t 26) (.c (.val (.int .i64 32))),some (25, false)⟩,qo 28
 25 27,qm 12 28] []) (.cond (.t 12) (.seq (.reg false [⟨some 29,.ld 13 true (.t 3),none⟩,⟨some 30,.build [.val (.int .i64 0),.val (.string ⟨#[]⟩),.val (.string ⟨#[]⟩),.im [] true,.val (.int .i64 0),.im [] true,.im [] true,.im [] true,.im [] true,.im
 [] true,.val (.bool false),.im [] true] [],none⟩,qw 13 6 29,qw 12 7 30,qi 8 1] []) .ret) (.seq (.reg false [qa 32 2 4,ql 33 32,qa 34 0 3,ql 35 34,⟨some 36,.bin .neq 38 false false (.t 33) (.t 35),none⟩,qm 31 36] []) (.cond (.t 31) (.seq (.reg false
 [⟨some 37,.ld 13 true (.t 3),none⟩,⟨some 38,.build [.val (.int .i64 0),.val (.string ⟨#[]⟩),.val (.string ⟨#[]⟩),.im [] true,.val (.int .i64 0),.im [] true,.im [] true,.im [] true,.im [] true,.im [] true,.val (.bool false),.im [] true] [],none⟩,qw
 13 6 37,qw 12 7 38,qi 8 4] []) .ret) (.seq (.reg false [qa 40 1 3,ql 41 40,⟨some 42,.bin .neq 3 false true (.t 41) (.c (.val (.int .i64 0))),none⟩,qm 39 42] []) (.cond (.t 39) (.seq (.reg false [⟨some 43,.ld 13 true (.t 3),none⟩,⟨some 44,.build
 [.val (.int .i64 0),.val (.string ⟨#[]⟩),.val (.string ⟨#[]⟩),.im [] true,.val (.int .i64 0),.im [] true,.im [] true,.im [] true,.im [] true,.im [] true,.val (.bool false),.im [] true] [],none⟩,qw 13 6 43,qw 12 7 44,qi 8 5] []) .ret) (.seq (.reg
 false [qa 46 3 4,ql 47 46,qa 48 7 3,ql 49 48,qk 50 114 47 49,qb 51 50,qm 45 51] []) (.cond (.t 45) (.seq (.reg true [⟨some 52,.ld 13 true (.t 3),none⟩,qa 53 0 3,ql 54 53,qa 55 1 4,ql 56 55,qa 57 7 3,ql 58 57,⟨some 59,.app 2 (.c (.im [] true)) (.t
 58),none⟩,⟨some 60,.build [.val (.int .i64 0),.val (.string ⟨#[]⟩),.val (.string ⟨#[]⟩),.im [] true,.val (.int .i64 0),.im [] true,.im [] true,.im [] true,.im [] true,.im [] true,.val (.bool false),.im [] true] [(0, 1, (.c (.val (.int .i64
 3)))),(1, 1, (.t 54)),(2, 1, (.t 56)),(11, 1, (.t 59))],none⟩,qw 13 6 52,qw 12 7 60,qi 8 0] [(0, 7),(2, 7),(4, 7),(2, 9),(4, 9)]) .ret) .skip))))))))) (.seq (.reg false [⟨some 61,.ld 13 true (.t 3),none⟩,qa 62 5 4,ql 63 62,qa 64 6 4,ql 65 64,qa 66
 7 4,ql 67 66,⟨some 68,.call (.c (.fn 86 [])) [.t 61,.t 63,.t 65,.t 67],none⟩,qw 13 3 68] []) (.seq (.reg true [qa 69 12 3,ql 70 69,qa 71 1 4,ql 72 71,qa 73 3 4,ql 74 73,qc 75 58 74,⟨some 76,.call (.c (.fn 57 [])) [.t 70,.t 72,.t 75],none⟩,qa 77 12
 3,qw 1 77 76] [(1, 6),(3, 6)]) (.seq (.reg false [⟨some 78,.ld 13 true (.t 3),none⟩,qc 79 26 78,qw 13 3 79] []) (.seq (.reg false [⟨some 80,.ld 13 true (.t 3),none⟩,qa 81 1 4,ql 82 81,⟨some 83,.call (.c (.fn 78 [])) [.t 80,.c (.val (.int .i64
 2)),.t 82],none⟩,⟨some 9,.alloc [.val (.int .i64 0),.val (.string ⟨#[]⟩),.val (.string ⟨#[]⟩),.im [] true,.val (.int .i64 0),.im [] true,.im [] true,.im [] true,.im [] true,.im [] true,.val (.bool false),.im [] true],none⟩,qw 12 9 83] []) (.seq
 (.reg false [⟨some 85,.ld 13 true (.t 3),none⟩,⟨some 86,.ld 12 true (.t 4),none⟩,qk 87 116 85 86,qm 84 87,⟨some 88,.ext (.t 84) 0,none⟩,⟨some 89,.ext (.t 84) 1,none⟩,qm 10 88,qm 11 89] []) (.seq (.reg false [qm 90 10,qm 91 10,qe 92 91,qm 93 2,⟨some
 94,.fun_ .min #[3,3] 3 [.t 92,.t 93],none⟩,⟨some 95,.slc 8 (.t 90) none (some (.t 94)) none,none⟩,qm 96 11,qb 97 96,qm 98 97,qmT 99 10 98,qeT 100 99 98,qmT 101 2 98,⟨some 102,.bin .leq 3 false false (.t 100) (.t 101),some (98, true)⟩,qp 103 98
 102,qa 104 9 9,qw 1 104 95,qa 105 10 9,qw 1 105 103] []) (.seq (.reg true [⟨some 106,.ld 13 true (.t 3),none⟩,⟨some 107,.ld 12 true (.t 9),none⟩,qw 13 6 106,qw 12 7 107,qi 8 0] [(1, 2)]) .ret)))))))),[.cell 6 13 true,.cell 7 12 true,.tmp 8]⟩
def c75 : CF := ⟨.seq (.reg false [⟨some 4,.mv (.c (.val (.string ⟨#[]⟩))),none⟩,qi 5 0] []) (.seq (.block 0 (.seq (.reg false [qm 7 0,qc 8 77 7,qb 9 8,qm 6 9] []) (.cond (.t 6) (.seq (.reg false [⟨some 4,.mv (.c (.val (.string ⟨#[]⟩))),none⟩,qi 5
 4] []) .ret) (.seq (.reg false [qm 11 1,⟨some 12,.bin .lss 3 false true (.t 11) (.c (.val (.int .i64 1))),none⟩,qm 13 12,qmF 14 1 13,⟨some 15,.bin .gtr 3 false true (.t 14) (.c (.val (.int .i64 9))),some (13, false)⟩,qo 16 13 15,qm 10 16] [])
 (.cond (.t 10) (.seq (.reg false [⟨some 4,.mv (.c (.val (.string ⟨#[]⟩))),none⟩,qi 5 1] []) .ret) (.seq (.reg false [qm 18 0,⟨some 19,.len true (.t 18),none⟩,qq 20 19 6,qm 17 20] []) (.cond (.t 17) (.seq (.reg false [⟨some 4,.mv (.c (.val (.string
 ⟨#[]⟩))),none⟩,qi 5 18] []) .ret) .skip))))))) (.seq (.reg false [qm 21 0,qm 22 1,⟨some 23,.bin .add 3 true false (.c (.val (.int .i64 48))) (.t 22),none⟩,⟨some 24,.cv 3 5 (.t 23),none⟩,⟨some 25,.bsl 1 1 [.val (.int .u8 0)] [(0, 1, (.t
 24))],none⟩,⟨some 26,.b2s (.t 25),none⟩,⟨some 27,.bin .add 38 false false (.t 21) (.t 26),none⟩,qm 4 27,qi 5 0] []) .ret)),[.tmp 4,.tmp 5]⟩
def c76 : CF := ⟨.seq (.reg false [qj 4] []) (.seq (.reg false [qm 5 0,qm 6 1,⟨some 7,.bsl 1 1 [.val (.string ⟨#[]⟩)] [(0, 1, (.t 6))],none⟩,qk 8 117 5 7,qm 4 8] []) .ret),[.tmp 4]⟩
def L77_0 : CC := (.seq (.reg false [qz 18 17 16] []) (.seq (.cond (.t 18) .skip (.exit 0)) (.seq (.block 1 (.seq (.reg false [qx 19 15 17,ql 20 19,qm 4 20] []) (.seq (.reg false [qm 21 4,⟨some 22,.bin .leq 5 false true (.t 21) (.c (.val (.int .u8
 48))),none⟩,qm 23 22,qmF 24 4 23,⟨some 25,.bin .gtr 5 false true (.t 24) (.c (.val (.int .u8 57))),some (23, false)⟩,qo 26 23 25] []) (.cond (.t 26) (.seq (.reg false [qf 2] []) .ret) .skip)))) (.reg false [qs 27 17,qm 17 27] []))))
def c77 : CF := ⟨.seq (.reg false [qf 2] []) (.seq (.seq (.reg false [qm 5 0,⟨some 6,.call (.c (.fn 118 [])) [.t 5,.c (.val (.string ⟨#[48]⟩))],none⟩,qb 7 6,qm 8 7,qmF 9 0 8,⟨some 10,.len true (.t 9),some (8, false)⟩,⟨some 11,.bin .gtr 3 false true
 (.t 10) (.c (.val (.int .i64 6))),some (8, false)⟩,qo 12 8 11] []) (.cond (.t 12) (.seq (.reg false [qf 2] []) .ret) .skip)) (.seq (.seq (.reg false [qm 13 0,⟨some 14,.slc 0 (.t 13) (some (.c (.val (.int .i64 1)))) none none,none⟩,⟨some 15,.s2b (.t
 14),none⟩,qe 16 15,qi 17 0] []) (.block 0 (.loop L77_0))) (.seq (.reg false [qt 2] []) .ret))),[.tmp 2]⟩
def c78 : CF := ⟨.seq (.reg false [⟨some 3,.box (.t 0),none⟩,⟨some 6,.alloc [.val (.int .i64 0),.val (.string ⟨#[]⟩),.val (.string ⟨#[]⟩),.im [] true,.val (.int .i64 0),.im [] true,.im [] true,.im [] true,.im [] true,.im [] true,.val (.bool
 false),.im [] true],none⟩] []) (.seq (.reg false [⟨some 8,.ld 13 true (.t 3),none⟩,qc 9 26 8,⟨some 7,.alloc [.val (.string ⟨#[]⟩),.val (.int .i64 0),.val (.int .i64 0),.val (.int .i64 0),.val (.int .i64 0),.im [] true,.im [] true,.im [] true,.im []
 true,.im [] true,.im [] true,.im [] true,.im [] true],none⟩,qw 13 7 9] []) (.seq (.reg true [qm 10 1,qa 11 0 7,ql 12 11,qm 13 2,⟨some 14,.ld 13 true (.t 7),none⟩,qc 15 59 14,qa 16 4 7,ql 17 16,qa 18 10 7,ql 19 18,qa 20 11 7,ql 21 20,qa 22 12 7,ql
 23 22,⟨some 24,.build [.val (.int .i64 0),.val (.string ⟨#[]⟩),.val (.string ⟨#[]⟩),.im [] true,.val (.int .i64 0),.im [] true,.im [] true,.im [] true,.im [] true,.im [] true,.val (.bool false),.im [] true] [(0, 1, (.t 10)),(1, 1, (.t 12)),(2, 1,
 (.t 13)),(3, 1, (.t 15)),(4, 1, (.t 17)),(5, 1, (.t 19)),(6, 1, (.t 21)),(7, 1, (.t 23))],none⟩,qw 12 6 24] [(2, 5),(5, 7),(5, 9),(5, 11),(5, 13)]) .ret)),[.cell 6 12 true]⟩
def L79_0 : CC := (.seq (.reg false [qz 10 9 8] []) (.seq (.cond (.t 10) .skip (.exit 0)) (.seq (.block 1 (.seq (.reg false [⟨some 11,.ias 8 (.t 7) (.t 9),none⟩,⟨some 12,.ld 8 true (.t 11),none⟩,⟨some 5,.alloc [.val (.int .i64 0),.val (.string
 ⟨#[]⟩),.val (.int .i64 0),.val (.int .i64 0),.val (.bool false),.val (.complex .f64 0 0),.val (.string ⟨#[]⟩),.val (.bool false)],none⟩,qw 8 5 12] []) (.seq (.reg false [qa 13 4 5,ql 14 13,qb 15 14,qm 16 15,qaT 17 7 5 16,qlT 18 17 16,qbT 19 18
 16,qp 20 16 19,qm 21 20,qaT 22 9 1 21,qlT 23 22 21,qaT 24 5 5 21,qlT 25 24 21,qkT 26 28 23 25 21,qp 27 21 26] []) (.cond (.t 27) (.reg false [qm 28 3,⟨some 29,.ld 8 true (.t 5),none⟩,⟨some 30,.bsl 8 1 [.val (.int .i64 0),.val (.string ⟨#[]⟩),.val
 (.int .i64 0),.val (.int .i64 0),.val (.bool false),.val (.complex .f64 0 0),.val (.string ⟨#[]⟩),.val (.bool false)] [(0, 8, (.t 29))],none⟩,⟨some 31,.app 8 (.t 28) (.t 30),none⟩,qm 3 31] []) .skip)))) (.reg false [qs 32 9,qm 9 32] []))))
def c79 : CF := ⟨.seq (.reg false [⟨some 1,.box (.t 0),none⟩,qj 2] []) (.seq (.reg false [qj 3] []) (.seq (.seq (.reg false [qa 6 8 1,ql 7 6,qe 8 7,qi 9 0] []) (.block 0 (.loop L79_0))) (.seq (.reg false [qm 33 3,qm 2 33] []) .ret))),[.tmp 2]⟩
def c80 : CF := ⟨.seq (.reg false [⟨some 1,.box (.t 0),none⟩,qf 2] []) (.seq (.seq (.reg false [qa 3 1 1,ql 4 3,qc 5 77 4,qb 6 5,qm 7 6,qaF 8 2 1 7,qlF 9 8 7,qcF 10 77 9 7,qbF 11 10 7,qo 12 7 11] []) (.cond (.t 12) (.seq (.reg false [qf 2] []) .ret)
 .skip)) (.seq (.seq (.reg false [qa 13 0 1,ql 14 13] []) (.block 0 (.seq (.reg false [qq 16 14 1,qm 15 16] []) (.cond (.t 15) (.seq (.reg false [⟨some 17,.ld 12 true (.t 1),none⟩,qc 18 119 17,qm 19 18,qaT 20 8 1 19,qlT 21 20 19,qcT 22 61 21 19,qp
 23 19 22,qm 24 23,qaT 25 10 1 24,qlT 26 25 24,qbT 27 26 24,qp 28 24 27,qm 2 28] []) .ret) (.seq (.reg false [qq 30 14 2,qm 29 30] []) (.cond (.t 29) (.seq (.reg false [⟨some 31,.ld 12 true (.t 1),none⟩,qc 32 119 31,qm 33 32,qaT 34 8 1 33,qlT 35 34
 33,qeT 36 35 33,qqT 37 36 0 33,qp 38 33 37,qm 2 38] []) .ret) (.seq (.reg false [qq 40 14 3,qm 39 40] []) (.cond (.t 39) (.seq (.reg false [⟨some 41,.ld 12 true (.t 1),none⟩,qc 42 120 41,qm 43 42,qaT 44 11 1 43,qlT 45 44 43,qcT 46 121 45 43,qp 47
 43 46,qm 2 47] []) .ret) .skip)))))))) (.seq (.reg false [qf 2] []) .ret))),[.tmp 2]⟩
def L81_0 : CC := (.seq (.reg false [qz 51 50 49] []) (.seq (.cond (.t 51) .skip (.exit 0)) (.seq (.block 1 (.seq (.reg false [⟨some 52,.ias 8 (.t 48) (.t 50),none⟩,⟨some 53,.ld 8 true (.t 52),none⟩,⟨some 5,.alloc [.val (.int .i64 0),.val (.string
 ⟨#[]⟩),.val (.int .i64 0),.val (.int .i64 0),.val (.bool false),.val (.complex .f64 0 0),.val (.string ⟨#[]⟩),.val (.bool false)],none⟩,qw 8 5 53] []) (.reg false [qm 54 3,⟨some 55,.ld 8 true (.t 5),none⟩,qk 56 129 54 55,qm 3 56] []))) (.reg false
 [qs 57 50,qm 50 57] []))))
def c81 : CF := ⟨.seq (.reg false [⟨some 1,.box (.t 0),none⟩,qj 2] []) (.seq (.seq (.reg false [⟨some 6,.ld 12 true (.t 1),none⟩,qc 7 80 6,qb 8 7] []) (.cond (.t 8) (.seq (.reg false [qj 2] []) .ret) .skip)) (.seq (.reg true [qa 9 0 1,ql 10 9,⟨some
 11,.call (.c (.fn 123 [])) [.c (.im [] true),.t 10],none⟩,qa 12 1 1,ql 13 12,qk 14 122 11 13,qa 15 2 1,ql 16 15,qk 17 122 14 16,qm 3 17] [(2, 4),(2, 7),(5, 7)]) (.seq (.seq (.reg false [qa 18 0 1,ql 19 18,qq 20 19 3] []) (.cond (.t 20) (.seq (.reg
 false [qm 21 3,qa 22 11 1,ql 23 22,qk 24 124 21 23,qm 2 24] []) .ret) .skip)) (.seq (.reg true [qm 25 3,qa 26 3 1,ql 27 26,qk 28 126 25 27,qa 29 4 1,ql 30 29,qk 31 123 28 30,⟨some 32,.ld 12 true (.t 1),none⟩,qk 33 125 31 32,qm 3 33] [(3, 5),(3,
 7),(6, 7)]) (.seq (.seq (.reg false [qa 34 0 1,ql 35 34,qq 36 35 1] []) (.cond (.t 36) (.reg false [qm 37 3,qa 38 8 1,ql 39 38,qc 40 128 39,qk 41 127 37 40,qm 3 41] []) .skip)) (.seq (.reg false [qm 42 3,qa 43 9 1,ql 44 43,qe 45 44,qk 46 123 42
 45,qm 3 46] []) (.seq (.seq (.reg false [qa 47 9 1,ql 48 47,qe 49 48,qi 50 0] []) (.block 0 (.loop L81_0))) (.seq (.block 2 (.seq (.reg false [qa 59 0 1,ql 60 59,qq 61 60 2,qm 62 61,qaT 63 10 1 62,qlT 64 63 62,qp 65 62 64,qm 58 65] []) (.cond (.t
 58) (.seq (.reg false [qm 66 3,qd 67 123 66 1,qm 2 67] []) .ret) (.seq (.reg false [qa 69 0 1,ql 70 69,qq 71 70 2,qm 68 71] []) (.cond (.t 68) (.seq (.reg false [qm 72 3,qd 73 123 72 0,qm 2 73] []) .ret) .skip))))) (.seq (.reg false [qm 74 3,qm 2
 74] []) .ret))))))))),[.tmp 2]⟩
def L83_0 : CC := (.seq (.reg false [qz 13 12 11] []) (.seq (.cond (.t 13) .skip (.exit 0)) (.seq (.block 1 (.seq (.reg false [⟨some 14,.ias 3 (.t 10) (.t 12),none⟩,⟨some 15,.ld 3 true (.t 14),none⟩,⟨some 6,.alloc [.val (.string ⟨#[]⟩),.val (.int
 .i64 0),.im [] true],none⟩,qw 3 6 15] []) (.seq (.reg false [qa 16 6 2,ql 17 16,qa 18 0 6,ql 19 18,qk 20 133 17 19,qc 21 132 20,⟨some 7,.alloc [.val (.int .i64 0),.im [] true],none⟩,qw 2 7 21] []) (.seq (.seq (.reg false [qa 22 0 7,ql 23 22,⟨some
 24,.bin .gtr 3 false true (.t 23) (.c (.val (.int .i64 0))),none⟩,qm 25 24,qaT 26 1 6 25,⟨some 27,.ld 2 true (.t 26),some (25, true)⟩,⟨some 28,.ld 2 true (.t 7),some (25, true)⟩,qkT 29 134 27 28 25,qp 30 25 29] []) (.cond (.t 30) (.exit 1) .skip))
 (.seq (.seq (.reg false [qa 31 0 7,ql 32 31,⟨some 33,.bin .gtr 3 false true (.t 32) (.c (.val (.int .i64 0))),none⟩] []) (.cond (.t 33) (.seq (.reg false [qa 34 6 2,ql 35 34,qa 36 0 6,ql 37 36,qk 38 135 35 37,qa 39 6 2,qw 1 39 38] []) (.reg false
 [qa 40 5 2,ql 41 40,qa 42 0 6,ql 43 42,⟨some 44,.ld 2 true (.t 7),none⟩,⟨some 45,.build [.val (.string ⟨#[]⟩),.val (.int .i64 0),.im [] true] [(0, 1, (.t 43)),(1, 2, (.t 44))],none⟩,⟨some 46,.bsl 3 1 [.val (.string ⟨#[]⟩),.val (.int .i64 0),.im []
 true] [(0, 3, (.t 45))],none⟩,qk 47 96 41 46,qa 48 5 2,qw 1 48 47] [])) .skip)) (.reg false [qa 49 5 2,ql 50 49,⟨some 51,.ld 3 true (.t 6),none⟩,⟨some 52,.bsl 3 1 [.val (.string ⟨#[]⟩),.val (.int .i64 0),.im [] true] [(0, 3, (.t 51))],none⟩,qk 53
 96 50 52,qa 54 5 2,qw 1 54 53] [])))))) (.reg false [qs 55 12,qm 12 55] []))))
def c83 : CF := ⟨.seq (.reg false [⟨some 2,.box (.t 0),none⟩,⟨some 4,.alloc [.val (.string ⟨#[]⟩),.val (.int .i64 0),.val (.int .i64 0),.val (.int .i64 0),.val (.int .i64 0),.im [] true,.im [] true,.im [] true,.im [] true,.im [] true,.im [] true,.im
 [] true,.im [] true],none⟩] []) (.seq (.reg false [⟨some 8,.ld 13 true (.t 2),none⟩,qc 9 56 8,qw 13 2 9] []) (.seq (.seq (.reg false [qm 10 1,qe 11 10,qi 12 0] []) (.block 0 (.loop L83_0))) (.seq (.reg false [⟨some 56,.ld 13 true (.t 2),none⟩,qw 13
 4 56] []) .ret))),[.cell 4 13 true]⟩
def c84 : CF := ⟨.seq (.reg false [qf 6] []) (.seq (.reg false [qm 10 0,qm 11 1,qk 12 136 10 11,qm 9 12,⟨some 13,.ext (.t 9) 0,none⟩,⟨some 14,.ext (.t 9) 1,none⟩,qm 7 13,qm 8 14] []) (.seq (.reg false [qm 15 8,qm 16 15,qmT 17 0 16,qmT 18 7 16,⟨some
 19,.ias 3 (.t 17) (.t 18),some (16, true)⟩,qaT 20 1 19 16,⟨some 21,.ld 2 true (.t 20),some (16, true)⟩,qmT 22 2 16,qkT 23 137 21 22 16,qp 24 16 23,qm 6 24] []) .ret)),[.tmp 6]⟩
def c85 : CF := ⟨.seq (.reg false [⟨some 3,.box (.t 1),none⟩,qj 4,qf 5] []) (.seq (.reg false [qm 9 0,qc 10 99 9,qm 6 10] []) (.seq (.reg false [qm 12 6,qa 13 0 3,ql 14 13,qk 15 107 12 14,qm 11 15,⟨some 16,.ext (.t 11) 0,none⟩,⟨some 17,.ext (.t 11)
 1,none⟩,qm 7 16,qm 8 17] []) (.seq (.block 0 (.seq (.reg false [qm 19 8,qb 20 19,qm 18 20] []) (.cond (.t 18) (.seq (.reg false [qm 21 6,qm 22 7,⟨some 23,.ld 8 true (.t 3),none⟩,⟨some 24,.bsl 8 1 [.val (.int .i64 0),.val (.string ⟨#[]⟩),.val (.int
 .i64 0),.val (.int .i64 0),.val (.bool false),.val (.complex .f64 0 0),.val (.string ⟨#[]⟩),.val (.bool false)] [(0, 8, (.t 23))],none⟩,⟨some 25,.call (.c (.fn 138 [])) [.t 21,.t 22,.t 24],none⟩,qm 4 25,qt 5] []) .ret) (.seq (.reg true [qm 27 6,qm
 28 7,⟨some 29,.ias 8 (.t 27) (.t 28),none⟩,⟨some 30,.ld 8 true (.t 29),none⟩,⟨some 31,.ld 8 true (.t 3),none⟩,qk 32 139 30 31,qm 26 32] []) (.cond (.t 26) (.seq (.reg false [qm 33 6,qm 34 7,⟨some 35,.ld 8 true (.t 3),none⟩,⟨some 36,.ias 8 (.t 33)
 (.t 34),none⟩,qw 8 36 35] []) (.seq (.reg false [qm 37 6,qm 4 37,qt 5] []) .ret)) .skip))))) (.seq (.reg false [qm 38 6,qm 4 38,qf 5] []) .ret)))),[.tmp 4,.tmp 5]⟩
def c86 : CF := ⟨.seq (.reg false [⟨some 4,.box (.t 0),none⟩,⟨some 8,.alloc [.val (.string ⟨#[]⟩),.val (.int .i64 0),.val (.int .i64 0),.val (.int .i64 0),.val (.int .i64 0),.im [] true,.im [] true,.im [] true,.im [] true,.im [] true,.im [] true,.im
 [] true,.im [] true],none⟩] []) (.seq (.reg false [⟨some 9,.ld 13 true (.t 4),none⟩,qc 10 56 9,qw 13 4 10] []) (.seq (.reg false [qa 11 10 4,ql 12 11,qm 13 1,qk 14 117 12 13,qa 15 10 4,qw 1 15 14] []) (.seq (.reg false [qa 16 11 4,ql 17 16,qm 18
 2,qk 19 140 17 18,qa 20 11 4,qw 1 20 19] []) (.seq (.reg false [qa 21 12 4,ql 22 21,qm 23 3,qk 24 97 22 23,qa 25 12 4,qw 1 25 24] []) (.seq (.seq (.reg false [qa 26 1 4,ql 27 26,qq 28 27 0,qm 29 28,qaT 30 11 4 29,qlT 31 30 29,qaT 32 0 4 29,qlT 33
 32 29,qkT 34 91 31 33 29,qp 35 29 34] []) (.cond (.t 35) (.reg false [qa 36 1 4,⟨none,.st 1 (.t 36) (.c (.val (.int .i64 1))),none⟩] []) .skip)) (.seq (.reg false [⟨some 37,.ld 13 true (.t 4),none⟩,qw 13 8 37] []) .ret)))))),[.cell 8 13 true]⟩
def c88 : CF := ⟨.seq (.reg false [⟨some 2,.box (.t 0),none⟩,⟨some 3,.box (.t 1),none⟩,⟨some 4,.alloc [.val (.string ⟨#[]⟩),.val (.int .i64 0),.val (.int .i64 0),.val (.int .i64 0),.val (.int .i64 0),.im [] true,.im [] true,.im [] true,.im []
 true,.im [] true,.im [] true,.im [] true,.im [] true],none⟩,qi 5 0] []) (.seq (.seq (.reg false [qa 6 3 2,ql 7 6,⟨some 8,.bin .geq 3 false true (.t 7) (.c (.val (.int .i64 1048575))),none⟩,qm 9 8,qaF 10 4 2 9,qlF 11 10 9,⟨some 12,.bin .geq 3 false
 true (.t 11) (.c (.val (.int .i64 1048575))),some (9, false)⟩,qo 13 9 12] []) (.cond (.t 13) (.seq (.reg false [⟨some 14,.ld 13 true (.t 2),none⟩,qw 13 4 14,qi 5 10] []) .ret) .skip)) (.seq (.reg false [⟨some 15,.ld 13 true (.t 2),none⟩,qc 16 56
 15,qw 13 2 16] []) (.seq (.reg false [qa 17 3 2,ql 18 17,qs 19 18,qa 20 3 2,qw 1 20 19] []) (.seq (.reg false [qa 21 4 2,ql 22 21,qs 23 22,qa 24 4 2,qw 1 24 23] []) (.seq (.reg false [qa 25 0 2,ql 26 25,qa 27 3 2,ql 28 27,qa 29 4 2,ql 30 29,⟨some
 31,.build [.val (.string ⟨#[]⟩),.val (.int .i64 0),.val (.int .i64 0)] [(0, 1, (.t 26)),(1, 1, (.t 28)),(2, 1, (.t 30))],none⟩,qa 32 1 3,qw 3 32 31] []) (.seq (.reg false [qa 33 5 2,ql 34 33,qa 35 0 2,ql 36 35,qa 37 3 2,ql 38 37,⟨some 39,.call (.c
 (.fn 141 [])) [.t 34,.t 36,.t 38],none⟩,qa 40 5 2,qw 1 40 39] []) (.seq (.reg false [qa 42 8 2,ql 43 42,⟨some 44,.ld 8 true (.t 3),none⟩,qk 45 85 43 44,qm 41 45,⟨some 46,.ext (.t 41) 0,none⟩,⟨some 47,.ext (.t 41) 1,none⟩,qa 48 8 2,qw 1 48 46] [])
 (.seq (.reg false [⟨some 49,.ld 13 true (.t 2),none⟩,qc 50 26 49,qw 13 4 50,qi 5 0] []) .ret)))))))),[.cell 4 13 true,.tmp 5]⟩
def c91 : CF := ⟨.seq (.reg false [qf 4] []) (.seq (.reg false [qm 5 0,qm 6 1,qk 7 133 5 6,⟨some 8,.bin .gtr 3 false true (.t 7) (.c (.val (.int .i64 0))),none⟩,qm 4 8] []) .ret),[.tmp 4]⟩
def L96_0 : CC := (.seq (.reg false [qz 14 13 12] []) (.seq (.cond (.t 14) .skip (.exit 0)) (.seq (.block 1 (.seq (.reg false [⟨some 15,.ias 3 (.t 11) (.t 13),none⟩,⟨some 16,.ld 3 true (.t 15),none⟩,⟨some 7,.alloc [.val (.string ⟨#[]⟩),.val (.int
 .i64 0),.im [] true],none⟩,qw 3 7 16] []) (.reg false [qm 17 5,qa 18 0 7,ql 19 18,qa 20 1 7,⟨some 21,.ld 2 true (.t 20),none⟩,⟨some 22,.call (.c (.fn 152 [])) [.t 17,.t 19,.t 21],none⟩,qm 5 22] []))) (.reg false [qs 23 13,qm 13 23] []))))
def c96 : CF := ⟨.seq (.reg false [qj 4] []) (.seq (.reg false [qm 8 0,qc 9 151 8,qm 5 9] []) (.seq (.seq (.reg false [qm 10 1,qc 11 151 10,qe 12 11,qi 13 0] []) (.block 0 (.loop L96_0))) (.seq (.reg false [qm 24 5,qm 4 24] []) .ret))),[.tmp 4]⟩
def L97_0 : CC := (.seq (.reg false [qz 13 12 11] []) (.seq (.cond (.t 13) .skip (.exit 0)) (.seq (.block 1 (.seq (.reg false [⟨some 14,.ias 2 (.t 10) (.t 12),none⟩,⟨some 15,.ld 2 true (.t 14),none⟩,⟨some 7,.alloc [.val (.string ⟨#[]⟩),.im []
 true],none⟩,qw 2 7 15] []) (.reg false [qm 16 5,qa 17 0 7,ql 18 17,qa 19 1 7,ql 20 19,⟨some 21,.call (.c (.fn 57 [])) [.t 16,.t 18,.t 20],none⟩,qm 5 21] []))) (.reg false [qs 22 12,qm 12 22] []))))
def c97 : CF := ⟨.seq (.reg false [qj 4] []) (.seq (.reg false [qm 8 0,qc 9 101 8,qm 5 9] []) (.seq (.seq (.reg false [qm 10 1,qe 11 10,qi 12 0] []) (.block 0 (.loop L97_0))) (.seq (.reg false [qm 23 5,qm 4 23] []) .ret))),[.tmp 4]⟩
def L101_0 : CC := (.seq (.reg false [qz 10 9 8] []) (.seq (.cond (.t 10) .skip (.exit 0)) (.seq (.block 1 (.seq (.reg false [qm 11 9,qm 4 11] []) (.reg false [qm 12 3,qm 13 4,qm 14 3,qm 15 4,⟨some 16,.ias 2 (.t 14) (.t 15),none⟩,qa 17 1 16,ql 18
 17,qc 19 98 18,⟨some 20,.ias 2 (.t 12) (.t 13),none⟩,qa 21 1 20,qw 1 21 19] []))) (.reg false [qs 22 9,qm 9 22] []))))
def c101 : CF := ⟨.seq (.reg false [qj 2] []) (.seq (.reg false [qm 5 0,qc 6 153 5,qm 3 6] []) (.seq (.seq (.reg false [qm 7 3,qe 8 7,qi 9 0] []) (.block 0 (.loop L101_0))) (.seq (.reg false [qm 23 3,qm 2 23] []) .ret))),[.tmp 2]⟩
def c102 : CF := ⟨.seq (.reg false [qi 4 0,qf 5] []) (.seq (.reg false [qm 6 0,qm 7 1,⟨some 8,.build [.val (.string ⟨#[]⟩),.im [] true] [(0, 1, (.t 7))],none⟩,⟨some 9,.call (.c (.fn 154 [])) [.t 6,.t 8,.c (.fn 155 [])],none⟩,⟨some 10,.ext (.t 9)
 0,none⟩,⟨some 11,.ext (.t 9) 1,none⟩,qm 4 10,qm 5 11] []) .ret),[.tmp 4,.tmp 5]⟩
def L103_0 : CC := (.seq (.reg false [qz 13 12 11] []) (.seq (.cond (.t 13) .skip (.exit 0)) (.seq (.block 1 (.seq (.reg false [⟨some 14,.ias 2 (.t 10) (.t 12),none⟩,⟨some 15,.ld 2 true (.t 14),none⟩,⟨some 7,.alloc [.val (.string ⟨#[]⟩),.val (.int
 .i64 0)],none⟩,qw 2 7 15] []) (.reg false [qm 16 5,qa 17 0 7,ql 18 17,qa 19 1 7,ql 20 19,⟨some 21,.call (.c (.fn 105 [])) [.t 16,.t 18,.t 20],none⟩,qm 5 21] []))) (.reg false [qs 22 12,qm 12 22] []))))
def c103 : CF := ⟨.seq (.reg false [qj 4] []) (.seq (.reg false [qm 8 0,qc 9 98 8,qm 5 9] []) (.seq (.seq (.reg false [qm 10 1,qe 11 10,qi 12 0] []) (.block 0 (.loop L103_0))) (.seq (.reg false [qm 23 5,qm 4 23] []) .ret))),[.tmp 4]⟩
def c105 : CF := ⟨.seq (.reg false [qj 6] []) (.seq (.reg false [qm 10 0,qc 11 98 10,qm 7 11] []) (.seq (.seq (.reg false [qm 12 1,qc 13 77 12,qb 14 13,qm 15 14,qmF 16 2 15,⟨some 17,.bin .lss 3 false true (.t 16) (.c (.val (.int .i64 1))),some (15,
 false)⟩,qo 18 15 17] []) (.cond (.t 18) (.seq (.reg false [qm 19 7,qm 6 19] []) .ret) .skip)) (.seq (.reg false [qm 20 2,⟨some 21,.fun_ .min #[3,3] 3 [.t 20,.c (.val (.int .i64 1048576))],none⟩,qm 2 21] []) (.seq (.reg false [qm 23 7,qm 24 1,qk 25
 158 23 24,qm 22 25,⟨some 26,.ext (.t 22) 0,none⟩,⟨some 27,.ext (.t 22) 1,none⟩,qm 8 26,qm 9 27] []) (.seq (.seq (.reg false [qm 28 9,qb 29 28] []) (.cond (.t 29) (.seq (.reg false [qm 30 7,qm 31 8,qm 32 1,qm 33 2,⟨some 34,.build [.val (.string
 ⟨#[]⟩),.val (.int .i64 0)] [(0, 1, (.t 32)),(1, 1, (.t 33))],none⟩,⟨some 35,.bsl 2 1 [.val (.string ⟨#[]⟩),.val (.int .i64 0)] [(0, 2, (.t 34))],none⟩,⟨some 36,.call (.c (.fn 159 [])) [.t 30,.t 31,.t 35],none⟩,qm 6 36] []) .ret) .skip)) (.seq (.reg
 false [qm 37 7,qm 38 8,qm 39 7,qm 40 8,⟨some 41,.ias 2 (.t 39) (.t 40),none⟩,qa 42 1 41,ql 43 42,qm 44 2,⟨some 45,.fun_ .max #[3,3] 3 [.t 43,.t 44],none⟩,⟨some 46,.ias 2 (.t 37) (.t 38),none⟩,qa 47 1 46,qw 1 47 45] []) (.seq (.reg false [qm 48 7,qm
 6 48] []) .ret))))))),[.tmp 6]⟩
def L106_0 : CC := (.seq (.reg false [qz 9 8 7] []) (.seq (.cond (.t 9) .skip (.exit 0)) (.seq (.block 1 (.seq (.reg false [⟨some 10,.ias 2 (.t 6) (.t 8),none⟩,⟨some 11,.ld 2 true (.t 10),none⟩,⟨some 5,.alloc [.val (.string ⟨#[]⟩),.val (.int .i64
 0)],none⟩,qw 2 5 11] []) (.reg true [qm 12 3,qa 13 0 5,ql 14 13,qa 15 1 5,ql 16 15,qc 17 132 16,⟨some 18,.build [.val (.string ⟨#[]⟩),.val (.int .i64 0),.im [] true] [(0, 1, (.t 14)),(1, 2, (.t 17))],none⟩,⟨some 19,.bsl 3 1 [.val (.string
 ⟨#[]⟩),.val (.int .i64 0),.im [] true] [(0, 3, (.t 18))],none⟩,⟨some 20,.app 3 (.t 12) (.t 19),none⟩,qm 3 20] [(2, 5)]))) (.reg false [qs 21 8,qm 8 21] []))))
def c106 : CF := ⟨.seq (.reg false [qj 2] []) (.seq (.reg false [qj 3] []) (.seq (.seq (.reg false [qm 6 0,qe 7 6,qi 8 0] []) (.block 0 (.loop L106_0))) (.seq (.reg false [qm 22 3,qm 2 22] []) .ret))),[.tmp 2]⟩
def c107 : CF := ⟨.seq (.reg false [qi 4 0,qf 5] []) (.seq (.reg false [qm 6 0,qm 7 1,⟨some 8,.build [.val (.int .i64 0),.val (.string ⟨#[]⟩),.val (.int .i64 0),.val (.int .i64 0),.val (.bool false),.val (.complex .f64 0 0),.val (.string ⟨#[]⟩),.val
 (.bool false)] [(0, 1, (.t 7))],none⟩,⟨some 9,.call (.c (.fn 160 [])) [.t 6,.t 8,.c (.fn 161 [])],none⟩,⟨some 10,.ext (.t 9) 0,none⟩,⟨some 11,.ext (.t 9) 1,none⟩,qm 4 10,qm 5 11] []) .ret),[.tmp 4,.tmp 5]⟩
def c108 : CF := ⟨.seq (.reg false [⟨some 1,.box (.t 0),none⟩,qf 2] []) (.seq (.seq (.reg false [qa 3 0 1,ql 4 3] []) (.block 0 (.seq (.reg false [qq 6 4 2,qm 5 6] []) (.cond (.t 5) (.seq (.reg false [qa 7 1 1,ql 8 7,qc 9 62 8,qm 10 9,qaT 11 2 1
 10,qlT 12 11 10,⟨some 13,.call (.c (.fn 109 [])) [.t 12,.c (.val (.float .f64 0)),.c (.val (.float .f64 4656510908468559872))],some (10, true)⟩,qp 14 10 13,qm 2 14] []) .ret) (.seq (.reg false [qq 16 4 3,qm 15 16] []) (.cond (.t 15) (.seq (.reg
 false [qa 17 1 1,ql 18 17,qc 19 62 18,qm 20 19,qaT 21 2 1 20,qlT 22 21 20,⟨some 23,.call (.c (.fn 109 [])) [.t 22,.c (.val (.float .f64 13924712783166832640)),.c (.val (.float .f64 4701340746312056832))],some (20, true)⟩,qp 24 20 23,qm 2 24] [])
 .ret) (.seq (.seq (.reg false [qq 26 4 1,qm 25 26] []) (.cond (.t 25) .skip (.seq (.reg false [qq 27 4 4,qm 25 27] []) (.cond (.t 25) .skip (.seq (.reg false [qq 28 4 5,qm 25 28] []) (.cond (.t 25) .skip (.reg false [qq 29 4 6,qm 25 29] [])))))))
 (.cond (.t 25) (.seq (.reg false [qa 30 1 1,ql 31 30,⟨some 32,.bin .eql 53 false true (.t 31) (.c (.val (.complex .f64 0 0))),none⟩,qm 33 32,qaT 34 2 1 33,qlT 35 34 33,⟨some 36,.bin .eql 105 false true (.t 35) (.c (.val (.float .f64 0))),some (33,
 true)⟩,qp 37 33 36,qm 2 37] []) .ret) .skip)))))))) (.seq (.reg false [qf 2] []) .ret)),[.tmp 2]⟩
def c109 : CF := ⟨.seq (.reg false [qf 6] []) (.seq (.reg false [qm 7 0,qm 8 1,⟨some 9,.bin .geq 105 false false (.t 7) (.t 8),none⟩,qm 10 9,qmT 11 0 10,qmT 12 2 10,⟨some 13,.bin .leq 105 false false (.t 11) (.t 12),some (10, true)⟩,qp 14 10 13,qm
 15 14,qmT 16 0 15,qmT 17 0 15,qcT 18 162 17 15,⟨some 19,.bin .eql 105 false false (.t 16) (.t 18),some (15, true)⟩,qp 20 15 19,qm 6 20] []) .ret),[.tmp 6]⟩
def c112 : CF := ⟨.seq (.reg false [⟨some 4,.alloc [.val (.int .i64 0),.val (.string ⟨#[]⟩),.val (.string ⟨#[]⟩),.im [] true,.val (.int .i64 0),.im [] true,.im [] true,.im [] true,.im [] true,.im [] true,.val (.bool false),.im [] true],none⟩,qi 5 0]
 []) (.seq (.seq (.reg false [qm 6 0,qm 7 1,qk 8 69 6 7,qb 9 8] []) (.cond (.t 9) (.seq (.reg false [⟨some 10,.build [.val (.int .i64 0),.val (.string ⟨#[]⟩),.val (.string ⟨#[]⟩),.im [] true,.val (.int .i64 0),.im [] true,.im [] true,.im [] true,.im
 [] true,.im [] true,.val (.bool false),.im [] true] [],none⟩,qw 12 4 10,qi 5 11] []) .ret) .skip)) (.seq (.reg false [qm 11 0,qm 12 1,qx 13 11 12,ql 14 13,qc 15 164 14,⟨some 16,.ext (.t 15) 0,none⟩,⟨some 17,.ext (.t 15) 1,none⟩,qw 12 4 16,qm 5 17]
 []) .ret)),[.cell 4 12 true,.tmp 5]⟩
def c114 : CF := ⟨.seq (.reg false [qf 4] []) (.seq (.reg false [qm 5 1,qc 6 106 5,qm 7 0,qk 8 165 6 7,qm 4 8] []) .ret),[.tmp 4]⟩
def L115_0 : CC := (.seq (.reg false [qz 22 21 20] []) (.seq (.cond (.t 22) .skip (.exit 0)) (.seq (.block 1 (.seq (.reg false [⟨some 23,.ias 8 (.t 19) (.t 21),none⟩,⟨some 24,.ld 8 true (.t 23),none⟩,⟨some 10,.alloc [.val (.int .i64 0),.val (.string
 ⟨#[]⟩),.val (.int .i64 0),.val (.int .i64 0),.val (.bool false),.val (.complex .f64 0 0),.val (.string ⟨#[]⟩),.val (.bool false)],none⟩,qw 8 10 24] []) (.seq (.reg false [qm 25 6,qa 26 1 10,qa 27 0 26,ql 28 27,qa 29 1 10,qa 30 1 29,ql 31 30,⟨some
 32,.call (.c (.fn 84 [])) [.t 25,.t 28,.t 31],none⟩,qb 33 32,qm 11 33] []) (.seq (.reg false [qm 35 7,qa 36 0 10,ql 37 36,qk 38 60 35 37,qm 34 38,⟨some 39,.ext (.t 34) 0,none⟩,⟨some 40,.ext (.t 34) 1,none⟩,⟨some 12,.alloc [.val (.int .i64 0),.val
 (.string ⟨#[]⟩),.val (.int .i64 0),.val (.int .i64 0),.val (.bool false),.val (.complex .f64 0 0),.val (.string ⟨#[]⟩),.val (.bool false)],none⟩,qw 8 12 39,qm 13 40] []) (.seq (.seq (.reg false [qm 41 11] []) (.cond (.t 41) (.reg false [qm 42 8,qa
 43 1 10,qa 44 0 43,ql 45 44,qa 46 1 10,qa 47 1 46,ql 48 47,⟨some 49,.call (.c (.fn 141 [])) [.t 42,.t 45,.t 48],none⟩,qm 8 49] []) .skip)) (.seq (.reg false [qm 50 11,qm 51 50,qmF 52 13 51,qmF 53 52 51,qaT 54 1 12 53,⟨some 55,.ld 3 true (.t
 54),some (53, true)⟩,qaT 56 1 10 53,⟨some 57,.ld 3 true (.t 56),some (53, true)⟩,⟨some 58,.bin .eql 85 false false (.t 55) (.t 57),some (53, true)⟩,qpF 59 53 58 51,qo 60 51 59] []) (.cond (.t 60) (.reg false [qm 62 7,⟨some 63,.ld 8 true (.t
 10),none⟩,qk 64 85 62 63,qm 61 64,⟨some 65,.ext (.t 61) 0,none⟩,⟨some 66,.ext (.t 61) 1,none⟩,qm 7 65] []) .skip))))))) (.reg false [qs 67 21,qm 21 67] []))))
def c115 : CF := ⟨.seq (.reg false [⟨some 2,.box (.t 0),none⟩,⟨some 3,.box (.t 1),none⟩,qj 4,qj 5] []) (.seq (.reg false [⟨some 14,.ld 13 true (.t 2),none⟩,qc 15 59 14,qm 6 15] []) (.seq (.reg false [qa 16 8 2,ql 17 16,qm 7 17] []) (.seq (.reg false
 [qj 8] []) (.seq (.seq (.reg false [qa 18 9 3,ql 19 18,qe 20 19,qi 21 0] []) (.block 0 (.loop L115_0))) (.seq (.reg false [qm 68 7,qm 69 8,qm 4 68,qm 5 69] []) .ret))))),[.tmp 4,.tmp 5]⟩
def L116_0 : CC := (.seq (.reg false [qz 19 18 17] []) (.seq (.cond (.t 19) .skip (.exit 0)) (.seq (.block 1 (.seq (.reg false [⟨some 20,.ias 8 (.t 16) (.t 18),none⟩,⟨some 21,.ld 8 true (.t 20),none⟩,⟨some 7,.alloc [.val (.int .i64 0),.val (.string
 ⟨#[]⟩),.val (.int .i64 0),.val (.int .i64 0),.val (.bool false),.val (.complex .f64 0 0),.val (.string ⟨#[]⟩),.val (.bool false)],none⟩,qw 8 7 21] []) (.block 2 (.seq (.reg false [qa 23 4 7,ql 24 23,qm 22 24] []) (.cond (.t 22) (.reg false [qm 25
 4,⟨some 26,.ld 8 true (.t 7),none⟩,⟨some 27,.bsl 8 1 [.val (.int .i64 0),.val (.string ⟨#[]⟩),.val (.int .i64 0),.val (.int .i64 0),.val (.bool false),.val (.complex .f64 0 0),.val (.string ⟨#[]⟩),.val (.bool false)] [(0, 8, (.t 26))],none⟩,⟨some
 28,.app 8 (.t 25) (.t 27),none⟩,qm 4 28] []) (.seq (.reg false [qa 30 8 3,ql 31 30,qa 32 5 7,ql 33 32,qk 34 28 31 33,qb 35 34,qm 29 35] []) (.cond (.t 29) (.reg false [qm 36 4,⟨some 37,.ld 8 true (.t 7),none⟩,qc 38 147 37,⟨some 39,.bsl 8 1 [.val
 (.int .i64 0),.val (.string ⟨#[]⟩),.val (.int .i64 0),.val (.int .i64 0),.val (.bool false),.val (.complex .f64 0 0),.val (.string ⟨#[]⟩),.val (.bool false)] [(0, 8, (.t 38))],none⟩,⟨some 40,.app 8 (.t 36) (.t 39),none⟩,qm 4 40] []) (.seq (.reg
 false [qa 42 7 7,ql 43 42,qm 41 43] []) (.cond (.t 41) (.reg false [qm 44 4,⟨some 45,.ld 8 true (.t 7),none⟩,⟨some 46,.bsl 8 1 [.val (.int .i64 0),.val (.string ⟨#[]⟩),.val (.int .i64 0),.val (.int .i64 0),.val (.bool false),.val (.complex .f64 0
 0),.val (.string ⟨#[]⟩),.val (.bool false)] [(0, 8, (.t 45))],none⟩,⟨some 47,.app 8 (.t 44) (.t 46),none⟩,qm 4 47] []) (.reg false [qt 5] [])))))))))) (.reg false [qs 48 18,qm 18 48] []))))
def L116_1 : CC := (.seq (.reg false [qz 53 52 51] []) (.seq (.cond (.t 53) .skip (.exit 3)) (.seq (.block 4 (.seq (.reg false [⟨some 54,.ias 8 (.t 50) (.t 52),none⟩,⟨some 55,.ld 8 true (.t 54),none⟩,⟨some 9,.alloc [.val (.int .i64 0),.val (.string
 ⟨#[]⟩),.val (.int .i64 0),.val (.int .i64 0),.val (.bool false),.val (.complex .f64 0 0),.val (.string ⟨#[]⟩),.val (.bool false)],none⟩,qw 8 9 55] []) (.seq (.reg false [qa 57 8 2,ql 58 57,qa 59 0 9,ql 60 59,qk 61 60 58 60,qm 56 61,⟨some 62,.ext
 (.t 56) 0,none⟩,⟨some 63,.ext (.t 56) 1,none⟩,⟨some 10,.alloc [.val (.int .i64 0),.val (.string ⟨#[]⟩),.val (.int .i64 0),.val (.int .i64 0),.val (.bool false),.val (.complex .f64 0 0),.val (.string ⟨#[]⟩),.val (.bool false)],none⟩,qw 8 10 62,qm 11
 63] []) (.seq (.reg false [qm 64 11,qm 65 64,qaT 66 1 10 65,⟨some 67,.ld 3 true (.t 66),some (65, true)⟩,qaT 68 1 9 65,⟨some 69,.ld 3 true (.t 68),some (65, true)⟩,⟨some 70,.bin .eql 85 false false (.t 67) (.t 69),some (65, true)⟩,qp 71 65 70,qm 72
 71,qaT 73 7 10 72,qlT 74 73 72,qp 75 72 74] []) (.cond (.t 75) (.reg false [qm 76 4,⟨some 77,.ld 8 true (.t 10),none⟩,⟨some 78,.bsl 8 1 [.val (.int .i64 0),.val (.string ⟨#[]⟩),.val (.int .i64 0),.val (.int .i64 0),.val (.bool false),.val (.complex
 .f64 0 0),.val (.string ⟨#[]⟩),.val (.bool false)] [(0, 8, (.t 77))],none⟩,⟨some 79,.app 8 (.t 76) (.t 78),none⟩,qm 4 79] []) .skip))))) (.reg false [qs 80 52,qm 52 80] []))))
def c116 : CF := ⟨.seq (.reg false [⟨some 2,.box (.t 0),none⟩,⟨some 3,.box (.t 1),none⟩,qj 4,qf 5] []) (.seq (.seq (.reg false [qa 12 8 2,ql 13 12,qa 14 3 3,ql 15 14,qk 16 166 13 15,qe 17 16,qi 18 0] []) (.block 0 (.loop L116_0))) (.seq (.seq (.reg
 false [qa 49 9 3,ql 50 49,qe 51 50,qi 52 0] []) (.block 3 (.loop L116_1))) (.seq (.reg false [qm 81 4,qm 82 5,qm 4 81,qm 5 82] []) .ret))),[.tmp 4,.tmp 5]⟩
def c117 : CF := ⟨.seq (.reg false [qj 4] []) (.seq (.reg false [qm 6 0,qm 7 1,⟨some 8,.bsl 1 2 [.im [] true,.im [] true] [(0, 1, (.t 6)),(1, 1, (.t 7))],none⟩,qc 9 167 8,qm 5 9] []) (.seq (.reg false [qm 10 5,⟨some 11,.call (.c (.fn 168 [])) [.t
 10,.c (.fn 143 [])],none⟩] []) (.seq (.reg false [qm 12 5,qc 13 169 12,qm 4 13] []) .ret))),[.tmp 4]⟩
def c118 : CF := ⟨.seq (.reg false [qf 4] []) (.seq (.reg false [qm 5 0,qm 6 1,qk 7 170 5 6,qm 4 7] []) .ret),[.tmp 4]⟩
def c119 : CF := ⟨.seq (.reg false [⟨some 1,.box (.t 0),none⟩,qf 2] []) (.seq (.reg false [qa 3 3 1,ql 4 3,qe 5 4,⟨some 6,.bin .leq 3 false true (.t 5) (.c (.val (.int .i64 64))),none⟩,qm 7 6,qaT 8 3 1 7,qlT 9 8 7,qcT 10 171 9 7,qp 11 7 10,qm 12
 11,qaT 13 4 1 12,qlT 14 13 12,⟨some 15,.bin .geq 3 false true (.t 14) (.c (.val (.int .i64 0))),some (12, true)⟩,qp 16 12 15,qm 17 16,qaT 18 4 1 17,qlT 19 18 17,⟨some 20,.bin .leq 3 false true (.t 19) (.c (.val (.int .i64 1048576))),some (17,
 true)⟩,qp 21 17 20,qm 22 21,qaT 23 5 1 22,qlT 24 23 22,qcT 25 172 24 22,qp 26 22 25,qm 27 26,qaT 28 6 1 27,qlT 29 28 27,qcT 30 121 29 27,qp 31 27 30,qm 32 31,qaT 33 7 1 32,qlT 34 33 32,qcT 35 173 34 32,qp 36 32 35,qm 37 36,qaT 38 9 1 37,qlT 39 38
 37,qaT 40 0 1 37,qlT 41 40 37,qkT 42 174 39 41 37,qp 43 37 42,qm 44 43,qaT 45 11 1 44,qlT 46 45 44,qeT 47 46 44,qqT 48 47 0 44,qp 49 44 48,qm 2 49] []) .ret),[.tmp 2]⟩
def c121 : CF := ⟨.seq (.reg false [qf 2] []) (.seq (.reg false [qm 3 0,qe 4 3,⟨some 5,.bin .leq 3 false true (.t 4) (.c (.val (.int .i64 64))),none⟩,qm 6 5,qmT 7 0 6,qcT 8 175 7 6,qp 9 6 8,qm 2 9] []) .ret),[.tmp 2]⟩
def c122 : CF := ⟨.seq (.reg false [qj 4] []) (.seq (.reg false [qm 5 0,qm 6 1,qk 7 127 5 6,qm 4 7] []) .ret),[.tmp 4]⟩
def L123_0 : CC := (.seq (.seq (.reg false [qm 10 1,⟨some 11,.bin .geq 3 false true (.t 10) (.c (.val (.int .i64 128))),none⟩] []) (.cond (.t 11) .skip (.exit 0))) (.seq (.block 1 (.reg false [qm 14 5,qm 15 1,⟨some 16,.cv 3 5 (.t 15),none⟩,⟨some
 17,.bin .or 5 false true (.t 16) (.c (.val (.int .u8 128))),none⟩,⟨some 18,.bsl 1 1 [.val (.int .u8 0)] [(0, 1, (.t 17))],none⟩,⟨some 19,.app 1 (.t 14) (.t 18),none⟩,qm 5 19] [])) (.reg false [qm 12 1,⟨some 13,.bin .shr 3 false true (.t 12) (.c
 (.val (.int .u64 7))),none⟩,qm 1 13] [])))
def c123 : CF := ⟨.seq (.reg false [qj 4] []) (.seq (.reg false [qm 6 0,qc 7 41 6,qm 5 7] []) (.seq (.seq (.reg false [qm 8 1,⟨some 9,.fun_ .max #[3,3] 3 [.t 8,.c (.val (.int .i64 0))],none⟩,qm 1 9] []) (.block 0 (.loop L123_0))) (.seq (.reg false
 [qm 20 5,qm 21 1,⟨some 22,.cv 3 5 (.t 21),none⟩,⟨some 23,.bsl 1 1 [.val (.int .u8 0)] [(0, 1, (.t 22))],none⟩,⟨some 24,.app 1 (.t 20) (.t 23),none⟩,qm 4 24] []) .ret))),[.tmp 4]⟩
def L124_0 : CC := (.seq (.reg false [qz 14 13 12] []) (.seq (.cond (.t 14) .skip (.exit 0)) (.seq (.block 1 (.seq (.reg false [⟨some 15,.ias 2 (.t 11) (.t 13),none⟩,⟨some 16,.ld 2 true (.t 15),none⟩,⟨some 6,.alloc [.val (.string ⟨#[]⟩),.val (.int
 .i64 0)],none⟩,qw 2 6 16] []) (.reg true [qm 17 0,qa 18 0 6,ql 19 18,qk 20 122 17 19,qa 21 1 6,ql 22 21,qk 23 123 20 22,qm 0 23] [(3, 5)]))) (.reg false [qs 24 13,qm 13 24] []))))
def c124 : CF := ⟨.seq (.reg false [qj 4] []) (.seq (.reg false [qm 7 0,qm 8 1,qe 9 8,qk 10 123 7 9,qm 0 10] []) (.seq (.seq (.reg false [qm 11 1,qe 12 11,qi 13 0] []) (.block 0 (.loop L124_0))) (.seq (.reg false [qm 25 0,qm 4 25] []) .ret))),[.tmp 4]⟩
def L125_0 : CC := (.seq (.reg false [qz 18 17 16] []) (.seq (.cond (.t 18) .skip (.exit 0)) (.seq (.block 1 (.seq (.reg false [qx 19 15 17,ql 20 19,qm 6 20] []) (.reg false [qm 21 0,qm 22 6,qk 23 122 21 22,qm 0 23] []))) (.reg false [qs 24 17,qm 17 24] []))))
def L125_1 : CC := (.seq (.reg false [qz 37 36 35] []) (.seq (.cond (.t 37) .skip (.exit 2)) (.seq (.block 3 (.seq (.reg false [⟨some 38,.ias 2 (.t 34) (.t 36),none⟩,⟨some 39,.ld 2 true (.t 38),none⟩,⟨some 8,.alloc [.val (.string ⟨#[]⟩),.im []
 true],none⟩,qw 2 8 39] []) (.reg true [qm 40 0,qa 41 0 8,ql 42 41,qk 43 122 40 42,qa 44 1 8,ql 45 44,qk 46 124 43 45,qm 0 46] [(3, 5)]))) (.reg false [qs 47 36,qm 36 47] []))))
def c125 : CF := ⟨.seq (.reg false [⟨some 3,.box (.t 1),none⟩,qj 4] []) (.seq (.reg false [qm 9 0,qa 10 5 3,ql 11 10,qe 12 11,qk 13 123 9 12,qm 0 13] []) (.seq (.seq (.reg false [qa 14 5 3,ql 15 14,qe 16 15,qi 17 0] []) (.block 0 (.loop L125_0)))
 (.seq (.reg true [qm 25 0,qa 26 6 3,ql 27 26,qk 28 124 25 27,qa 29 7 3,ql 30 29,qe 31 30,qk 32 123 28 31,qm 0 32] [(3, 5)]) (.seq (.seq (.reg false [qa 33 7 3,ql 34 33,qe 35 34,qi 36 0] []) (.block 2 (.loop L125_1))) (.seq (.reg false [qm 48 0,qm 4
 48] []) .ret))))),[.tmp 4]⟩
def L126_0 : CC := (.seq (.reg false [qz 38 37 36] []) (.seq (.cond (.t 38) .skip (.exit 2)) (.seq (.block 3 (.seq (.reg false [qx 39 35 37,ql 40 39,qm 8 40] []) (.reg false [qm 41 0,qm 42 8,qk 43 123 41 42,qm 0 43] []))) (.reg false [qs 44 37,qm 37 44] []))))
def L126_1 : CC := (.seq (.reg false [qz 16 15 14] []) (.seq (.cond (.t 16) .skip (.exit 0)) (.seq (.block 1 (.seq (.reg false [⟨some 17,.ias 3 (.t 13) (.t 15),none⟩,⟨some 18,.ld 3 true (.t 17),none⟩,⟨some 6,.alloc [.val (.string ⟨#[]⟩),.val (.int
 .i64 0),.im [] true],none⟩,qw 3 6 18] []) (.seq (.reg true [qm 19 0,qa 20 0 6,ql 21 20,qk 22 122 19 21,qa 23 1 6,qa 24 0 23,ql 25 24,qk 26 123 22 25,qm 0 26] [(3, 6)]) (.seq (.reg false [qm 27 0,qa 28 1 6,qa 29 1 28,ql 30 29,qe 31 30,qk 32 123 27
 31,qm 0 32] []) (.seq (.reg false [qa 33 1 6,qa 34 1 33,ql 35 34,qe 36 35,qi 37 0] []) (.block 2 (.loop L126_0))))))) (.reg false [qs 45 15,qm 15 45] []))))
def c126 : CF := ⟨.seq (.reg false [qj 4] []) (.seq (.reg false [qm 9 0,qm 10 1,qe 11 10,qk 12 123 9 11,qm 0 12] []) (.seq (.seq (.reg false [qm 13 1,qe 14 13,qi 15 0] []) (.block 0 (.loop L126_1))) (.seq (.reg false [qm 46 0,qm 4 46] []) .ret))),[.tmp 4]⟩
def c127 : CF := ⟨.seq (.reg false [qj 4] []) (.seq (.reg false [qm 5 0,qm 6 1,⟨some 7,.len true (.t 6),none⟩,qk 8 123 5 7,qm 9 1,⟨some 10,.app 1 (.t 8) (.t 9),none⟩,qm 4 10] []) .ret),[.tmp 4]⟩
def L128_0 : CC := (.seq (.reg false [qz 13 12 11] []) (.seq (.cond (.t 13) .skip (.exit 0)) (.seq (.block 1 (.seq (.reg false [⟨some 14,.ias 3 (.t 10) (.t 12),none⟩,⟨some 15,.ld 3 true (.t 14),none⟩,⟨some 5,.alloc [.val (.int .i64 0),.val (.complex
 .f64 0 0),.val (.float .f64 0)],none⟩,qw 3 5 15] []) (.seq (.reg true [⟨some 16,.call (.c (.fn 176 [])) [],none⟩,qa 17 0 5,ql 18 17,qx 19 16 18,ql 20 19,qm 6 20] [(0, 2)]) (.seq (.seq (.reg false [qa 21 0 5,ql 22 21,qq 23 22 2,qm 24 23,qaF 25 0 5
 24,qlF 26 25 24,qqF 27 26 3 24,qo 28 24 27] []) (.cond (.t 28) (.reg true [qm 29 6,qa 30 1 5,ql 31 30,⟨some 32,.fun_ .real #[53] 105 [.t 31],none⟩,qc 33 178 32,qa 34 1 5,ql 35 34,⟨some 36,.fun_ .imag #[53] 105 [.t 35],none⟩,qc 37 178 36,qa 38 2
 5,ql 39 38,qc 40 178 39,⟨some 41,.bsl 1 4 [.val (.string ⟨#[]⟩),.val (.string ⟨#[]⟩),.val (.string ⟨#[]⟩),.val (.string ⟨#[]⟩)] [(0, 1, (.t 29)),(1, 1, (.t 33)),(2, 1, (.t 37)),(3, 1, (.t 40))],none⟩,⟨some 42,.call (.c (.fn 177 [])) [.t 41,.c (.val
 (.string ⟨#[32]⟩))],none⟩,qm 6 42] [(4, 6),(4, 10),(8, 10)]) .skip)) (.reg false [qm 43 3,qm 44 6,⟨some 45,.bsl 1 1 [.val (.string ⟨#[]⟩)] [(0, 1, (.t 44))],none⟩,⟨some 46,.app 1 (.t 43) (.t 45),none⟩,qm 3 46] []))))) (.reg false [qs 47 12,qm 12 47] []))))
def c128 : CF := ⟨.seq (.reg false [⟨some 2,.mv (.c (.val (.string ⟨#[]⟩))),none⟩] []) (.seq (.seq (.reg false [qm 7 0,qc 8 61 7,qb 9 8] []) (.cond (.t 9) (.seq (.reg false [⟨some 2,.mv (.c (.val (.string ⟨#[]⟩))),none⟩] []) .ret) .skip)) (.seq
 (.reg false [qj 3] []) (.seq (.seq (.reg false [qm 10 0,qe 11 10,qi 12 0] []) (.block 0 (.loop L128_0))) (.seq (.reg false [qm 48 3,⟨some 49,.call (.c (.fn 177 [])) [.t 48,.c (.val (.string ⟨#[44]⟩))],none⟩,qm 2 49] []) .ret)))),[.tmp 2]⟩
def L129_0 : CC := (.seq (.reg false [⟨some 31,.bin .lss 3 false true (.t 30) (.c (.val (.int .i64 3))),none⟩] []) (.seq (.cond (.t 31) .skip (.exit 0)) (.seq (.block 1 (.seq (.reg false [⟨some 32,.ixa 3 1 false (.t 29) (.t 30),none⟩,qm 6 32] [])
 (.reg false [qm 33 0,qm 34 6,qk 35 123 33 34,qm 0 35] []))) (.reg false [qs 36 30,qm 30 36] []))))
def c129 : CF := ⟨.seq (.reg false [⟨some 3,.box (.t 1),none⟩,qj 4] []) (.seq (.seq (.reg false [⟨some 7,.ld 8 true (.t 3),none⟩,qc 8 179 7,qb 9 8] []) (.cond (.t 9) (.seq (.reg false [qm 10 0,⟨some 11,.app 1 (.c (.im [] true)) (.t 10),none⟩,qm 4
 11] []) .ret) .skip)) (.seq (.reg false [qm 12 0,qa 13 0 3,ql 14 13,qk 15 123 12 14,qm 0 15] []) (.seq (.reg false [qm 16 0,qa 17 1 3,qa 18 0 17,ql 19 18,qk 20 127 16 19,qm 0 20] []) (.seq (.seq (.reg true [qa 21 1 3,qa 22 1 21,ql 23 22,qa 24 1
 3,qa 25 2 24,ql 26 25,⟨some 27,.ld 8 true (.t 3),none⟩,qc 28 180 27,⟨some 29,.build [.val (.int .i64 0),.val (.int .i64 0),.val (.int .i64 0)] [(0, 1, (.t 23)),(1, 1, (.t 26)),(2, 1, (.t 28))],none⟩,qi 30 0] [(2, 7),(5, 7)]) (.block 0 (.loop
 L129_0))) (.seq (.seq (.reg false [qa 37 4 3,ql 38 37] []) (.cond (.t 38) (.seq (.reg false [qm 39 0,qm 4 39] []) .ret) .skip)) (.seq (.reg false [qm 40 0,qa 41 5 3,ql 42 41,⟨some 43,.fun_ .real #[53] 105 [.t 42],none⟩,⟨some 44,.cv 105 3 (.t
 43),none⟩,⟨some 45,.bin .add 3 false true (.t 44) (.c (.val (.int .i64 1000))),none⟩,qk 46 123 40 45,qm 0 46] []) (.seq (.reg false [qm 47 0,qa 48 5 3,ql 49 48,⟨some 50,.fun_ .imag #[53] 105 [.t 49],none⟩,⟨some 51,.cv 105 3 (.t 50),none⟩,⟨some
 52,.bin .add 3 false true (.t 51) (.c (.val (.int .i64 1000))),none⟩,qk 53 123 47 52,qm 0 53] []) (.seq (.seq (.reg false [qa 54 7 3,ql 55 54] []) (.cond (.t 55) (.reg false [qm 56 0,qa 57 6 3,ql 58 57,qk 59 127 56 58,qm 0 59] []) .skip)) (.seq
 (.reg false [qm 60 0,qm 4 60] []) .ret))))))))),[.tmp 4]⟩
def c132 : CF := ⟨.seq (.reg false [⟨some 2,.alloc [.val (.int .i64 0),.im [] true],none⟩] []) (.seq (.reg false [qm 3 0,⟨some 4,.fun_ .min #[3,3] 3 [.t 3,.c (.val (.int .i64 1048576))],none⟩,⟨some 5,.fun_ .max #[3,3] 3 [.c (.val (.int .i64 0)),.t
 4],none⟩,⟨some 6,.build [.val (.int .i64 0),.im [] true] [(0, 1, (.t 5))],none⟩,qw 2 2 6] []) .ret),[.cell 2 2 true]⟩
def c133 : CF := ⟨.seq (.reg false [qi 4 0] []) (.seq (.reg false [qm 8 0,qm 9 1,qk 10 158 8 9,qm 7 10,⟨some 11,.ext (.t 7) 0,none⟩,⟨some 12,.ext (.t 7) 1,none⟩,qm 5 11,qm 6 12] []) (.seq (.seq (.reg false [qm 13 6,qb 14 13] []) (.cond (.t 14) (.seq
 (.reg false [qi 4 0] []) .ret) .skip)) (.seq (.reg false [qm 15 0,qm 16 5,⟨some 17,.ias 2 (.t 15) (.t 16),none⟩,qa 18 1 17,ql 19 18,qm 4 19] []) .ret))),[.tmp 4]⟩
def c136 : CF := ⟨.seq (.reg false [qi 4 0,qf 5] []) (.seq (.reg false [qm 6 0,qm 7 1,⟨some 8,.build [.val (.string ⟨#[]⟩),.val (.int .i64 0),.im [] true] [(0, 1, (.t 7))],none⟩,⟨some 9,.call (.c (.fn 187 [])) [.t 6,.t 8,.c (.fn 188 [])],none⟩,⟨some
 10,.ext (.t 9) 0,none⟩,⟨some 11,.ext (.t 9) 1,none⟩,qm 4 10,qm 5 11] []) .ret),[.tmp 4,.tmp 5]⟩
def c140 : CF := ⟨.seq (.reg false [qj 4] []) (.seq (.reg false [qm 5 0,qm 6 1,qk 7 103 5 6,qm 4 7] []) .ret),[.tmp 4]⟩
def c141 : CF := ⟨.seq (.reg false [qj 6] []) (.seq (.seq (.reg false [qm 7 1,qc 8 77 7,qb 9 8] []) (.cond (.t 9) (.seq (.reg false [qm 10 0,qc 11 151 10,qm 6 11] []) .ret) .skip)) (.seq (.reg false [qm 12 0,qc 13 151 12,qm 14 1,⟨some 15,.build
 [.val (.int .i64 0),.im [] true] [],none⟩,qm 16 2,qk 17 193 15 16,⟨some 18,.call (.c (.fn 152 [])) [.t 13,.t 14,.t 17],none⟩,qm 6 18] []) .ret)),[.tmp 6]⟩
def c143 : CF := ⟨.seq (.reg false [qi 4 0] []) (.seq (.reg false [qm 5 0,qm 6 1,qk 7 194 5 6,qm 4 7] []) .ret),[.tmp 4]⟩
def L151_0 : CC := (.seq (.reg false [qz 10 9 8] []) (.seq (.cond (.t 10) .skip (.exit 0)) (.seq (.block 1 (.seq (.reg false [qm 11 9,qm 4 11] []) (.reg false [qm 12 3,qm 13 4,qm 14 3,qm 15 4,⟨some 16,.ias 3 (.t 14) (.t 15),none⟩,qa 17 1 16,qa 18 1
 17,ql 19 18,qc 20 144 19,⟨some 21,.ias 3 (.t 12) (.t 13),none⟩,qa 22 1 21,qa 23 1 22,qw 1 23 20] []))) (.reg false [qs 24 9,qm 9 24] []))))
def c151 : CF := ⟨.seq (.reg false [qj 2] []) (.seq (.reg false [qm 5 0,qc 6 203 5,qm 3 6] []) (.seq (.seq (.reg false [qm 7 3,qe 8 7,qi 9 0] []) (.block 0 (.loop L151_0))) (.seq (.reg false [qm 25 3,qm 2 25] []) .ret))),[.tmp 2]⟩
def c152 : CF := ⟨.seq (.reg false [⟨some 5,.box (.t 2),none⟩,qj 6] []) (.seq (.seq (.reg false [⟨some 9,.ld 2 true (.t 5),none⟩,qc 10 204 9,qq 11 10 0] []) (.cond (.t 11) (.seq (.reg false [qm 12 0,qm 6 12] []) .ret) .skip)) (.seq (.reg false [qm
 14 0,qm 15 1,qk 16 136 14 15,qm 13 16,⟨some 17,.ext (.t 13) 0,none⟩,⟨some 18,.ext (.t 13) 1,none⟩,qm 7 17,qm 8 18] []) (.seq (.seq (.reg false [qm 19 8,qb 20 19] []) (.cond (.t 20) (.seq (.reg false [qm 21 0,qm 22 7,qm 23 1,⟨some 24,.ld 2 true (.t
 5),none⟩,⟨some 25,.build [.val (.string ⟨#[]⟩),.val (.int .i64 0),.im [] true] [(0, 1, (.t 23)),(1, 2, (.t 24))],none⟩,⟨some 26,.bsl 3 1 [.val (.string ⟨#[]⟩),.val (.int .i64 0),.im [] true] [(0, 3, (.t 25))],none⟩,⟨some 27,.call (.c (.fn 205 []))
 [.t 21,.t 22,.t 26],none⟩,qm 6 27] []) .ret) .skip)) (.seq (.reg true [qm 28 0,qm 29 7,qm 30 0,qm 31 7,⟨some 32,.ias 3 (.t 30) (.t 31),none⟩,qa 33 1 32,⟨some 34,.ld 2 true (.t 33),none⟩,⟨some 35,.ld 2 true (.t 5),none⟩,qk 36 184 34 35,⟨some 37,.ias
 3 (.t 28) (.t 29),none⟩,qa 38 1 37,qw 2 38 36] []) (.seq (.reg false [qm 39 0,qm 6 39] []) .ret))))),[.tmp 6]⟩
def L154_0 : CC := (.seq (.seq (.reg false [qm 15 9,qm 16 10,qz 17 15 16] []) (.cond (.t 17) .skip (.exit 0))) (.block 1 (.seq (.reg false [qm 18 9,qm 19 10,⟨some 20,.bin .add 3 false false (.t 18) (.t 19),none⟩,⟨some 21,.cv 3 268 (.t
 20),none⟩,⟨some 22,.bin .shr 268 false true (.t 21) (.c (.val (.int .u64 1))),none⟩,⟨some 23,.cv 268 3 (.t 22),none⟩,qm 11 23] []) (.seq (.reg true [qm 24 2,qm 25 0,qm 26 11,⟨some 27,.ias 2 (.t 25) (.t 26),none⟩,⟨some 28,.ld 2 true (.t
 27),none⟩,⟨some 29,.ld 2 true (.t 4),none⟩,⟨some 30,.call (.t 24) [.t 28,.t 29],none⟩,⟨some 31,.bin .lss 3 false true (.t 30) (.c (.val (.int .i64 0))),none⟩] []) (.cond (.t 31) (.reg false [qm 32 11,qs 33 32,qm 9 33] []) (.reg false [qm 34 11,qm
 10 34] []))))))
def c154 : CF := ⟨.seq (.reg false [⟨some 4,.box (.t 1),none⟩,qi 6 0,qf 7] []) (.seq (.reg false [qm 12 0,qe 13 12,qm 8 13] []) (.seq (.reg false [qm 14 8,qi 9 0,qm 10 14] []) (.seq (.block 0 (.loop L154_0)) (.seq (.reg true [qm 35 9,qm 36 9,qm 37
 8,qz 38 36 37,qm 39 38,qmT 40 2 39,qmT 41 0 39,qmT 42 9 39,⟨some 43,.ias 2 (.t 41) (.t 42),some (39, true)⟩,⟨some 44,.ld 2 true (.t 43),some (39, true)⟩,⟨some 45,.ld 2 true (.t 4),some (39, true)⟩,⟨some 46,.call (.t 40) [.t 44,.t 45],some (39,
 true)⟩,qqT 47 46 0 39,qp 48 39 47,qm 6 35,qm 7 48] []) .ret)))),[.tmp 6,.tmp 7]⟩
def c155 : CF := ⟨.seq (.reg false [⟨some 2,.box (.t 0),none⟩,⟨some 3,.box (.t 1),none⟩,qi 4 0] []) (.seq (.reg false [qa 5 0 2,ql 6 5,qa 7 0 3,ql 8 7,qk 9 143 6 8,qm 4 9] []) .ret),[.tmp 4]⟩
def c158 : CF := ⟨.seq (.reg false [qi 4 0,qf 5] []) (.seq (.reg false [qm 6 0,qm 7 1,⟨some 8,.build [.val (.string ⟨#[]⟩),.val (.int .i64 0)] [(0, 1, (.t 7))],none⟩,⟨some 9,.call (.c (.fn 207 [])) [.t 6,.t 8,.c (.fn 208 [])],none⟩,⟨some 10,.ext (.t
 9) 0,none⟩,⟨some 11,.ext (.t 9) 1,none⟩,qm 4 10,qm 5 11] []) .ret),[.tmp 4,.tmp 5]⟩
def L160_0 : CC := (.seq (.seq (.reg false [qm 15 9,qm 16 10,qz 17 15 16] []) (.cond (.t 17) .skip (.exit 0))) (.block 1 (.seq (.reg false [qm 18 9,qm 19 10,⟨some 20,.bin .add 3 false false (.t 18) (.t 19),none⟩,⟨some 21,.cv 3 268 (.t
 20),none⟩,⟨some 22,.bin .shr 268 false true (.t 21) (.c (.val (.int .u64 1))),none⟩,⟨some 23,.cv 268 3 (.t 22),none⟩,qm 11 23] []) (.seq (.reg true [qm 24 2,qm 25 0,qm 26 11,⟨some 27,.ias 8 (.t 25) (.t 26),none⟩,⟨some 28,.ld 8 true (.t
 27),none⟩,⟨some 29,.ld 8 true (.t 4),none⟩,⟨some 30,.call (.t 24) [.t 28,.t 29],none⟩,⟨some 31,.bin .lss 3 false true (.t 30) (.c (.val (.int .i64 0))),none⟩] []) (.cond (.t 31) (.reg false [qm 32 11,qs 33 32,qm 9 33] []) (.reg false [qm 34 11,qm
 10 34] []))))))
def c160 : CF := ⟨.seq (.reg false [⟨some 4,.box (.t 1),none⟩,qi 6 0,qf 7] []) (.seq (.reg false [qm 12 0,qe 13 12,qm 8 13] []) (.seq (.reg false [qm 14 8,qi 9 0,qm 10 14] []) (.seq (.block 0 (.loop L160_0)) (.seq (.reg true [qm 35 9,qm 36 9,qm 37
 8,qz 38 36 37,qm 39 38,qmT 40 2 39,qmT 41 0 39,qmT 42 9 39,⟨some 43,.ias 8 (.t 41) (.t 42),some (39, true)⟩,⟨some 44,.ld 8 true (.t 43),some (39, true)⟩,⟨some 45,.ld 8 true (.t 4),some (39, true)⟩,⟨some 46,.call (.t 40) [.t 44,.t 45],some (39,
 true)⟩,qqT 47 46 0 39,qp 48 39 47,qm 6 35,qm 7 48] []) .ret)))),[.tmp 6,.tmp 7]⟩
def c161 : CF := ⟨.seq (.reg false [⟨some 2,.box (.t 0),none⟩,⟨some 3,.box (.t 1),none⟩,qi 4 0] []) (.seq (.reg false [qa 5 0 2,ql 6 5,qa 7 0 3,ql 8 7,qk 9 211 6 8,qm 4 9] []) .ret),[.tmp 4]⟩
def c162 : CF := ⟨.seq (.reg false [⟨some 2,.mv (.c (.val (.float .f64 0))),none⟩] []) (.seq (.cond (.c (.val (.bool true))) (.seq (.reg false [qm 3 0,qc 4 212 3,qm 2 4] []) .ret) .skip) (.seq (.reg false [qm 5 0,qc 6 213 5,qm 2 6] []) .ret)),[.tmp 2]⟩
def c164 : CF := ⟨.seq (.reg false [⟨some 2,.alloc [.val (.int .i64 0),.val (.string ⟨#[]⟩),.val (.string ⟨#[]⟩),.im [] true,.val (.int .i64 0),.im [] true,.im [] true,.im [] true,.im [] true,.im [] true,.val (.bool false),.im [] true],none⟩,qi 3 0]
 []) (.seq (.reg false [qm 6 0,qc 7 214 6,⟨some 8,.build [.val (.pointer none),.val (.bool false)] [(0, 1, (.t 7))],none⟩,⟨some 9,.box (.t 8),none⟩,qm 4 9] []) (.seq (.reg false [qm 10 4,qn 11 10,qa 12 0 11,ql 13 12,qd 14 215 13 3,⟨some 15,.build
 [.val (.int .i64 0),.val (.string ⟨#[]⟩),.val (.string ⟨#[]⟩),.im [] true,.val (.int .i64 0),.im [] true,.im [] true,.im [] true,.im [] true,.im [] true,.val (.bool false),.im [] true] [(0, 1, (.t 14))],none⟩,⟨some 5,.alloc [.val (.int .i64 0),.val
 (.string ⟨#[]⟩),.val (.string ⟨#[]⟩),.im [] true,.val (.int .i64 0),.im [] true,.im [] true,.im [] true,.im [] true,.im [] true,.val (.bool false),.im [] true],none⟩,qw 12 5 15] []) (.seq (.reg false [qm 16 4,qa 17 0 5,ql 18 17,qq 19 18 0,qm 20
 19,qmT 21 4 20,⟨some 22,.nck (.t 21),some (20, true)⟩,qaT 23 0 22 20,qlT 24 23 20,qcT 25 216 24 20,⟨some 26,.bin .eql 27 false true (.t 25) (.c (.val (.int .i64 0))),some (20, true)⟩,qp 27 20 26,qn 28 16,qa 29 1 28,qw 1 29 27] []) (.seq (.seq (.reg
 false [qm 30 4,qn 31 30,qa 32 1 31,ql 33 32,qb 34 33] []) (.cond (.t 34) (.seq (.reg false [qm 35 4,qc 36 217 35,qa 37 1 5,qw 1 37 36] []) (.seq (.reg false [qm 38 4,qc 39 217 38,qa 40 2 5,qw 1 40 39] []) (.seq (.reg false [qa 41 0 5,ql 42 41,qq 43
 42 3] []) (.cond (.t 43) (.reg false [qm 44 4,qc 45 218 44,qa 46 11 5,qw 1 46 45] []) (.reg false [qm 47 4,qk 48 219 47 5] []))))) .skip)) (.seq (.block 0 (.seq (.reg false [qm 50 4,qn 51 50,qa 52 1 51,ql 53 52,qm 49 53] []) (.cond (.t 49) (.seq
 (.reg false [⟨some 54,.build [.val (.int .i64 0),.val (.string ⟨#[]⟩),.val (.string ⟨#[]⟩),.im [] true,.val (.int .i64 0),.im [] true,.im [] true,.im [] true,.im [] true,.im [] true,.val (.bool false),.im [] true] [],none⟩,qw 12 2 54,qi 3 3] [])
 .ret) (.seq (.reg false [qm 56 4,qn 57 56,qa 58 0 57,ql 59 58,qc 60 220 59,⟨some 61,.bin .neq 27 false true (.t 60) (.c (.val (.int .i64 0))),none⟩,qm 55 61] []) (.cond (.t 55) (.seq (.reg false [⟨some 62,.build [.val (.int .i64 0),.val (.string
 ⟨#[]⟩),.val (.string ⟨#[]⟩),.im [] true,.val (.int .i64 0),.im [] true,.im [] true,.im [] true,.im [] true,.im [] true,.val (.bool false),.im [] true] [],none⟩,qm 63 4,qn 64 63,qa 65 0 64,ql 66 65,qc 67 220 66,qw 12 2 62,qm 3 67] []) .ret) (.seq
 (.reg false [⟨some 69,.ld 12 true (.t 5),none⟩,qc 70 80 69,qb 71 70,qm 68 71] []) (.cond (.t 68) (.seq (.reg false [⟨some 72,.build [.val (.int .i64 0),.val (.string ⟨#[]⟩),.val (.string ⟨#[]⟩),.im [] true,.val (.int .i64 0),.im [] true,.im []
 true,.im [] true,.im [] true,.im [] true,.val (.bool false),.im [] true] [],none⟩,qw 12 2 72,qi 3 3] []) .ret) .skip))))))) (.seq (.reg false [⟨some 73,.ld 12 true (.t 5),none⟩,qw 12 2 73,qi 3 0] []) .ret)))))),[.cell 2 12 true,.tmp 3]⟩
def c165 : CF := ⟨.seq (.reg false [⟨some 3,.box (.t 1),none⟩,qf 4] []) (.seq (.reg false [qm 5 0,⟨some 6,.mkf 222 [.t 3],none⟩,qk 7 221 5 6,qb 8 7,qm 4 8] []) .ret),[.tmp 4]⟩
def c166 : CF := ⟨.seq (.reg false [⟨some 3,.box (.t 1),none⟩,qj 4] []) (.seq (.reg false [qm 5 0,qc 6 224 5,⟨some 7,.mkf 225 [.t 3],none⟩,qk 8 223 6 7,qm 4 8] []) .ret),[.tmp 4]⟩
def L167_0 : CC := (.seq (.reg false [qz 12 11 10] []) (.seq (.cond (.t 12) .skip (.exit 0)) (.seq (.block 1 (.seq (.reg false [qx 13 9 11,ql 14 13,qm 5 14] []) (.seq (.reg false [qm 15 3,qm 16 5,qe 17 16,⟨some 18,.bin .add 3 false false (.t 15) (.t
 17),none⟩,qm 3 18] []) (.seq (.reg false [qm 19 3,⟨some 20,.bin .lss 3 false true (.t 19) (.c (.val (.int .i64 0))),none⟩] []) (.cond (.t 20) (.reg false [⟨some 21,.bad,none⟩,⟨none,.bad,none⟩] []) .skip))))) (.reg false [qs 22 11,qm 11 22] []))))
def L167_1 : CC := (.seq (.reg false [qz 28 27 26] []) (.seq (.cond (.t 28) .skip (.exit 2)) (.seq (.block 3 (.seq (.reg false [qx 29 25 27,ql 30 29,qm 8 30] []) (.reg false [qm 31 6,qm 32 8,⟨some 33,.app 1 (.t 31) (.t 32),none⟩,qm 6 33] []))) (.reg
 false [qs 34 27,qm 27 34] []))))
def c167 : CF := ⟨.seq (.reg false [qj 2] []) (.seq (.reg false [qi 3 0] []) (.seq (.seq (.reg false [qm 9 0,qe 10 9,qi 11 0] []) (.block 0 (.loop L167_0))) (.seq (.reg false [qm 23 3,⟨some 24,.call (.c (.fn 226 [])) [.c (.im [] true),.t
 23],none⟩,qm 6 24] []) (.seq (.seq (.reg false [qm 25 0,qe 26 25,qi 27 0] []) (.block 2 (.loop L167_1))) (.seq (.reg false [qm 35 6,qm 2 35] []) .ret))))),[.tmp 2]⟩
def L169_0 : CC := (.seq (.seq (.reg false [qm 29 5,qm 30 4,qe 31 30,qz 32 29 31] []) (.cond (.t 32) .skip (.exit 2))) (.seq (.block 3 (.seq (.reg true [qm 35 4,qm 36 5,qx 37 35 36,ql 38 37,qm 39 4,qm 40 5,⟨some 41,.bin .sub 3 false true (.t 40) (.c
 (.val (.int .i64 1))),none⟩,qx 42 39 41,ql 43 42,⟨some 44,.bin .neq 38 false false (.t 38) (.t 43),none⟩] []) (.cond (.t 44) (.seq (.reg false [qm 45 0,qm 46 3,qm 47 4,qm 48 5,qx 49 47 48,ql 50 49,qx 51 45 46,qw 1 51 50] []) (.reg false [qm 52 3,qs
 53 52,qm 3 53] [])) .skip))) (.reg false [qm 33 5,qs 34 33,qm 5 34] [])))
def L169_1 : CC := (.seq (.seq (.reg false [qm 10 3,qm 11 0,qe 12 11,qz 13 10 12] []) (.cond (.t 13) .skip (.exit 0))) (.seq (.block 1 (.seq (.reg true [qm 16 0,qm 17 3,qx 18 16 17,ql 19 18,qm 20 0,qm 21 3,⟨some 22,.bin .sub 3 false true (.t 21) (.c
 (.val (.int .i64 1))),none⟩,qx 23 20 22,ql 24 23,⟨some 25,.bin .eql 38 false false (.t 19) (.t 24),none⟩] []) (.cond (.t 25) (.seq (.reg false [qm 26 0,qm 27 3,⟨some 28,.slc 1 (.t 26) (some (.t 27)) none none,none⟩,qm 4 28] []) (.seq (.seq (.reg
 false [qi 5 1] []) (.block 2 (.loop L169_0))) (.seq (.reg false [qm 54 0,qm 55 3,⟨some 56,.slc 1 (.t 54) (some (.t 55)) none none,none⟩,⟨none,.clr [.val (.string ⟨#[]⟩)] (.t 56),none⟩] []) (.seq (.reg false [qm 57 0,qm 58 3,⟨some 59,.slc 1 (.t 57)
 none (some (.t 58)) none,none⟩,qm 2 59] []) .ret)))) .skip))) (.reg false [qm 14 3,qs 15 14,qm 3 15] [])))
def c169 : CF := ⟨.seq (.reg false [qj 2] []) (.seq (.seq (.reg false [qm 6 0,qe 7 6,⟨some 8,.bin .lss 3 false true (.t 7) (.c (.val (.int .i64 2))),none⟩] []) (.cond (.t 8) (.seq (.reg false [qm 9 0,qm 2 9] []) .ret) .skip)) (.seq (.seq (.reg false
 [qi 3 1] []) (.block 0 (.loop L169_1))) (.seq (.reg false [qm 60 0,qm 2 60] []) .ret))),[.tmp 2]⟩
def c170 : CF := ⟨.seq (.reg false [qf 4] []) (.seq (.reg false [qm 5 0,⟨some 6,.len true (.t 5),none⟩,qm 7 1,⟨some 8,.len true (.t 7),none⟩,⟨some 9,.bin .geq 3 false false (.t 6) (.t 8),none⟩,qm 10 9,qmT 11 0 10,qmT 12 1 10,⟨some 13,.len true (.t
 12),some (10, true)⟩,⟨some 14,.slc 0 (.t 11) none (some (.t 13)) none,some (10, true)⟩,qmT 15 1 10,⟨some 16,.bin .eql 9 false false (.t 14) (.t 15),some (10, true)⟩,qp 17 10 16,qm 4 17] []) .ret),[.tmp 4]⟩
def L171_0 : CC := (.seq (.reg false [qz 8 7 6] []) (.seq (.cond (.t 8) .skip (.exit 0)) (.seq (.block 1 (.seq (.reg false [qm 9 7,⟨some 10,.ias 3 (.t 5) (.t 7),none⟩,⟨some 11,.ld 3 true (.t 10),none⟩,⟨some 4,.alloc [.val (.string ⟨#[]⟩),.val (.int
 .i64 0),.im [] true],none⟩,qm 3 9,qw 3 4 11] []) (.seq (.reg true [qa 12 0 4,ql 13 12,qc 14 77 13,qb 15 14,qm 16 15,qaF 17 1 4 16,⟨some 18,.ld 2 true (.t 17),some (16, false)⟩,qcF 19 229 18 16,qbF 20 19 16,qo 21 16 20,qm 22 21,qaF 23 1 4 22,⟨some
 24,.ld 2 true (.t 23),some (22, false)⟩,qcF 25 204 24 22,qqF 26 25 0 22,qo 27 22 26,qm 28 27,qmF 29 3 28,⟨some 30,.bin .gtr 3 false true (.t 29) (.c (.val (.int .i64 0))),some (28, false)⟩,qmF 31 30 28,qmT 32 0 31,qmT 33 3 31,⟨some 34,.bin .sub 3
 false true (.t 33) (.c (.val (.int .i64 1))),some (31, true)⟩,⟨some 35,.ias 3 (.t 32) (.t 34),some (31, true)⟩,⟨some 36,.ld 3 true (.t 35),some (31, true)⟩,⟨some 37,.ld 3 true (.t 4),some (31, true)⟩,qkT 38 188 36 37 31,⟨some 39,.bin .geq 3 false
 true (.t 38) (.c (.val (.int .i64 0))),some (31, true)⟩,qpF 40 31 39 28,qo 41 28 40] []) (.cond (.t 41) (.seq (.reg false [qf 2] []) .ret) .skip)))) (.reg false [qs 42 7,qm 7 42] []))))
def c171 : CF := ⟨.seq (.reg false [qf 2] []) (.seq (.seq (.reg false [qm 5 0,qe 6 5,qi 7 0] []) (.block 0 (.loop L171_0))) (.seq (.reg false [qt 2] []) .ret)),[.tmp 2]⟩
def L172_0 : CC := (.seq (.reg false [qz 8 7 6] []) (.seq (.cond (.t 8) .skip (.exit 0)) (.seq (.block 1 (.seq (.reg false [qm 9 7,qx 10 5 7,ql 11 10,qm 3 9,qm 4 11] []) (.seq (.reg false [qm 12 4,qc 13 77 12,qb 14 13,qm 15 14,qmF 16 3 15,⟨some
 17,.bin .gtr 3 false true (.t 16) (.c (.val (.int .i64 0))),some (15, false)⟩,qmF 18 17 15,qmT 19 0 18,qmT 20 3 18,⟨some 21,.bin .sub 3 false true (.t 20) (.c (.val (.int .i64 1))),some (18, true)⟩,⟨some 22,.ias 1 (.t 19) (.t 21),some (18,
 true)⟩,qlT 23 22 18,qmT 24 4 18,qkT 25 143 23 24 18,⟨some 26,.bin .geq 3 false true (.t 25) (.c (.val (.int .i64 0))),some (18, true)⟩,qpF 27 18 26 15,qo 28 15 27] []) (.cond (.t 28) (.seq (.reg false [qf 2] []) .ret) .skip)))) (.reg false [qs 29
 7,qm 7 29] []))))
def c172 : CF := ⟨.seq (.reg false [qf 2] []) (.seq (.seq (.reg false [qm 5 0,qe 6 5,qi 7 0] []) (.block 0 (.loop L172_0))) (.seq (.reg false [qm 30 0,qe 31 30,⟨some 32,.bin .leq 3 false true (.t 31) (.c (.val (.int .i64 64))),none⟩,qm 2 32] [])
 .ret)),[.tmp 2]⟩
def c173 : CF := ⟨.seq (.reg false [qf 2] []) (.seq (.reg false [qm 3 0,qe 4 3,⟨some 5,.bin .leq 3 false true (.t 4) (.c (.val (.int .i64 64))),none⟩,qm 6 5,qmT 7 0 6,qcT 8 230 7 6,qp 9 6 8,qm 10 9,qmT 11 0 10,⟨some 12,.call (.c (.fn 231 [])) [.t
 11,.c (.fn 232 [])],some (10, true)⟩,qbT 13 12 10,qp 14 10 13,qm 2 14] []) .ret),[.tmp 2]⟩
def c174 : CF := ⟨.seq (.reg false [⟨some 3,.box (.t 1),none⟩,qf 4] []) (.seq (.reg false [qm 5 0,qe 6 5,⟨some 7,.bin .leq 3 false true (.t 6) (.c (.val (.int .i64 32))),none⟩,qm 8 7,qmT 9 0 8,⟨some 10,.mkf 234 [.t 3],some (8, true)⟩,qkT 11 233 9 10
 8,qbT 12 11 8,qp 13 8 12,qm 4 13] []) .ret),[.tmp 4]⟩
def L175_0 : CC := (.seq (.reg false [qz 8 7 6] []) (.seq (.cond (.t 8) .skip (.exit 0)) (.seq (.block 1 (.seq (.reg false [qm 9 7,⟨some 10,.ias 2 (.t 5) (.t 7),none⟩,⟨some 11,.ld 2 true (.t 10),none⟩,⟨some 4,.alloc [.val (.string ⟨#[]⟩),.val (.int
 .i64 0)],none⟩,qm 3 9,qw 2 4 11] []) (.seq (.reg true [qa 12 0 4,ql 13 12,qc 14 77 13,qb 15 14,qm 16 15,qaF 17 1 4 16,qlF 18 17 16,⟨some 19,.bin .lss 3 false true (.t 18) (.c (.val (.int .i64 1))),some (16, false)⟩,qo 20 16 19,qm 21 20,qaF 22 1 4
 21,qlF 23 22 21,⟨some 24,.bin .gtr 3 false true (.t 23) (.c (.val (.int .i64 1048576))),some (21, false)⟩,qo 25 21 24,qm 26 25,qmF 27 3 26,⟨some 28,.bin .gtr 3 false true (.t 27) (.c (.val (.int .i64 0))),some (26, false)⟩,qmF 29 28 26,qmT 30 0
 29,qmT 31 3 29,⟨some 32,.bin .sub 3 false true (.t 31) (.c (.val (.int .i64 1))),some (29, true)⟩,⟨some 33,.ias 2 (.t 30) (.t 32),some (29, true)⟩,⟨some 34,.ld 2 true (.t 33),some (29, true)⟩,⟨some 35,.ld 2 true (.t 4),some (29, true)⟩,qkT 36 208
 34 35 29,⟨some 37,.bin .geq 3 false true (.t 36) (.c (.val (.int .i64 0))),some (29, true)⟩,qpF 38 29 37 26,qo 39 26 38] []) (.cond (.t 39) (.seq (.reg false [qf 2] []) .ret) .skip)))) (.reg false [qs 40 7,qm 7 40] []))))
def c175 : CF := ⟨.seq (.reg false [qf 2] []) (.seq (.seq (.reg false [qm 5 0,qe 6 5,qi 7 0] []) (.block 0 (.loop L175_0))) (.seq (.reg false [qt 2] []) .ret)),[.tmp 2]⟩
def c176 : CF := ⟨.seq (.reg false [qj 0] []) (.seq (.reg false [⟨some 1,.bsl 1 7 [.val (.string ⟨#[]⟩),.val (.string ⟨#[]⟩),.val (.string ⟨#[]⟩),.val (.string ⟨#[]⟩),.val (.string ⟨#[]⟩),.val (.string ⟨#[]⟩),.val (.string ⟨#[]⟩)] [(0, 1, (.c (.val
 (.string ⟨#[]⟩)))),(1, 1, (.c (.val (.string ⟨#[97,108,108]⟩)))),(2, 1, (.c (.val (.string ⟨#[100,105,115,99]⟩)))),(3, 1, (.c (.val (.string ⟨#[104,97,108,102]⟩)))),(4, 1, (.c (.val (.string ⟨#[110,111,116]⟩)))),(5, 1, (.c (.val (.string
 ⟨#[97,110,100]⟩)))),(6, 1, (.c (.val (.string ⟨#[111,114]⟩))))],none⟩,qm 0 1] []) .ret),[.tmp 0]⟩
def c179 : CF := ⟨.seq (.reg false [⟨some 1,.box (.t 0),none⟩,qf 2] []) (.seq (.block 0 (.seq (.seq (.reg false [qa 4 0 1,ql 5 4,⟨some 6,.bin .lss 3 false true (.t 5) (.c (.val (.int .i64 0))),none⟩,qm 3 6] []) (.cond (.t 3) .skip (.seq (.reg false
 [qa 7 0 1,ql 8 7,⟨some 9,.bin .geq 3 false true (.t 8) (.c (.val (.int .i64 32))),none⟩,qm 3 9] []) (.cond (.t 3) .skip (.seq (.reg false [qa 10 1 1,⟨some 11,.ld 3 true (.t 10),none⟩,qc 12 239 11,qb 13 12,qm 3 13] []) (.cond (.t 3) .skip (.seq
 (.reg false [qa 14 5 1,ql 15 14,qc 16 62 15,qb 17 16,qm 3 17] []) (.cond (.t 3) .skip (.reg false [qa 18 6 1,ql 19 18,⟨some 20,.len true (.t 19),none⟩,⟨some 21,.bin .gtr 3 false true (.t 20) (.c (.val (.int .i64 16))),none⟩,qm 3 21] [])))))))))
 (.cond (.t 3) (.seq (.reg false [qf 2] []) .ret) (.seq (.reg false [qa 23 4 1,ql 24 23,qm 25 24,qaT 26 7 1 25,qlT 27 26 25,qmT 28 27 25,qaF 29 5 1 28,qlF 30 29 28,⟨some 31,.bin .neq 53 false true (.t 30) (.c (.val (.complex .f64 0 0))),some (28,
 false)⟩,⟨some 32,.pick (.t 28) (.c (.val (.bool true))) (.t 31),some (25, true)⟩,qp 33 25 32,qm 22 33] []) (.cond (.t 22) (.seq (.reg false [qf 2] []) .ret) .skip))))) (.seq (.reg false [qa 34 7 1,ql 35 34,qm 36 35,qaF 37 6 1 36,qlF 38 37 36,⟨some
 39,.bin .eql 9 false true (.t 38) (.c (.val (.string ⟨#[]⟩))),some (36, false)⟩,qo 40 36 39,qm 2 40] []) .ret)),[.tmp 2]⟩
def c180 : CF := ⟨.seq (.reg false [⟨some 1,.box (.t 0),none⟩,qi 2 0] []) (.seq (.block 0 (.seq (.reg false [qa 4 4 1,ql 5 4,qm 3 5] []) (.cond (.t 3) (.seq (.reg false [qi 2 0] []) .ret) (.seq (.reg false [qa 7 7 1,ql 8 7,qm 6 8] []) (.cond (.t 6)
 (.seq (.reg false [qi 2 2] []) .ret) .skip))))) (.seq (.reg false [qi 2 1] []) .ret)),[.tmp 2]⟩
def c184 : CF := ⟨.seq (.reg false [⟨some 2,.box (.t 0),none⟩,⟨some 3,.box (.t 1),none⟩,⟨some 4,.alloc [.val (.int .i64 0),.im [] true],none⟩] []) (.seq (.reg false [qa 6 1 2,ql 7 6,qa 8 1 3,ql 9 8,⟨some 10,.bsl 1 2 [.im [] true,.im [] true] [(0, 1,
 (.t 7)),(1, 1, (.t 9))],none⟩,qc 11 242 10,qm 5 11] []) (.seq (.reg false [qm 12 5,qc 13 243 12] []) (.seq (.reg true [qa 14 0 2,ql 15 14,qa 16 0 3,ql 17 16,⟨some 18,.fun_ .max #[3,3] 3 [.t 15,.t 17],none⟩,qm 19 5,qc 20 245 19,qk 21 244 18 20,qw 2
 4 21] [(1, 6),(3, 6)]) .ret))),[.cell 4 2 true]⟩
def L187_0 : CC := (.seq (.seq (.reg false [qm 15 9,qm 16 10,qz 17 15 16] []) (.cond (.t 17) .skip (.exit 0))) (.block 1 (.seq (.reg false [qm 18 9,qm 19 10,⟨some 20,.bin .add 3 false false (.t 18) (.t 19),none⟩,⟨some 21,.cv 3 268 (.t
 20),none⟩,⟨some 22,.bin .shr 268 false true (.t 21) (.c (.val (.int .u64 1))),none⟩,⟨some 23,.cv 268 3 (.t 22),none⟩,qm 11 23] []) (.seq (.reg true [qm 24 2,qm 25 0,qm 26 11,⟨some 27,.ias 3 (.t 25) (.t 26),none⟩,⟨some 28,.ld 3 true (.t
 27),none⟩,⟨some 29,.ld 3 true (.t 4),none⟩,⟨some 30,.call (.t 24) [.t 28,.t 29],none⟩,⟨some 31,.bin .lss 3 false true (.t 30) (.c (.val (.int .i64 0))),none⟩] []) (.cond (.t 31) (.reg false [qm 32 11,qs 33 32,qm 9 33] []) (.reg false [qm 34 11,qm
 10 34] []))))))
def c187 : CF := ⟨.seq (.reg false [⟨some 4,.box (.t 1),none⟩,qi 6 0,qf 7] []) (.seq (.reg false [qm 12 0,qe 13 12,qm 8 13] []) (.seq (.reg false [qm 14 8,qi 9 0,qm 10 14] []) (.seq (.block 0 (.loop L187_0)) (.seq (.reg true [qm 35 9,qm 36 9,qm 37
 8,qz 38 36 37,qm 39 38,qmT 40 2 39,qmT 41 0 39,qmT 42 9 39,⟨some 43,.ias 3 (.t 41) (.t 42),some (39, true)⟩,⟨some 44,.ld 3 true (.t 43),some (39, true)⟩,⟨some 45,.ld 3 true (.t 4),some (39, true)⟩,⟨some 46,.call (.t 40) [.t 44,.t 45],some (39,
 true)⟩,qqT 47 46 0 39,qp 48 39 47,qm 6 35,qm 7 48] []) .ret)))),[.tmp 6,.tmp 7]⟩
def c193 : CF := ⟨.seq (.reg false [⟨some 2,.box (.t 0),none⟩,⟨some 4,.alloc [.val (.int .i64 0),.im [] true],none⟩] []) (.seq (.seq (.reg false [qm 5 1,⟨some 6,.bin .lss 3 false true (.t 5) (.c (.val (.int .i64 1))),none⟩,qm 7 6,qmF 8 1 7,⟨some
 9,.bin .gtr 3 false true (.t 8) (.c (.val (.int .i64 1048576))),some (7, false)⟩,qo 10 7 9] []) (.cond (.t 10) (.seq (.reg true [qa 11 0 2,ql 12 11,qa 13 1 2,ql 14 13,qc 15 144 14,⟨some 16,.build [.val (.int .i64 0),.im [] true] [(0, 1, (.t
 12)),(1, 1, (.t 15))],none⟩,qw 2 4 16] [(1, 4)]) .ret) .skip)) (.seq (.reg false [⟨some 17,.ld 2 true (.t 2),none⟩,qm 18 1,⟨some 19,.bsl 1 1 [.val (.int .i64 0)] [(0, 1, (.t 18))],none⟩,⟨some 20,.build [.val (.int .i64 0),.im [] true] [(1, 1, (.t
 19))],none⟩,qk 21 184 17 20,qw 2 4 21] []) .ret)),[.cell 4 2 true]⟩
def c204 : CF := ⟨.seq (.reg false [⟨some 1,.box (.t 0),none⟩,qi 2 0] []) (.seq (.reg false [qa 3 0 1,ql 4 3,qa 5 1 1,ql 6 5,qe 7 6,⟨some 8,.bin .add 3 false false (.t 4) (.t 7),none⟩,qm 2 8] []) .ret),[.tmp 2]⟩
def L207_0 : CC := (.seq (.seq (.reg false [qm 15 9,qm 16 10,qz 17 15 16] []) (.cond (.t 17) .skip (.exit 0))) (.block 1 (.seq (.reg false [qm 18 9,qm 19 10,⟨some 20,.bin .add 3 false false (.t 18) (.t 19),none⟩,⟨some 21,.cv 3 268 (.t
 20),none⟩,⟨some 22,.bin .shr 268 false true (.t 21) (.c (.val (.int .u64 1))),none⟩,⟨some 23,.cv 268 3 (.t 22),none⟩,qm 11 23] []) (.seq (.reg true [qm 24 2,qm 25 0,qm 26 11,⟨some 27,.ias 2 (.t 25) (.t 26),none⟩,⟨some 28,.ld 2 true (.t
 27),none⟩,⟨some 29,.ld 2 true (.t 4),none⟩,⟨some 30,.call (.t 24) [.t 28,.t 29],none⟩,⟨some 31,.bin .lss 3 false true (.t 30) (.c (.val (.int .i64 0))),none⟩] []) (.cond (.t 31) (.reg false [qm 32 11,qs 33 32,qm 9 33] []) (.reg false [qm 34 11,qm
 10 34] []))))))
def c207 : CF := ⟨.seq (.reg false [⟨some 4,.box (.t 1),none⟩,qi 6 0,qf 7] []) (.seq (.reg false [qm 12 0,qe 13 12,qm 8 13] []) (.seq (.reg false [qm 14 8,qi 9 0,qm 10 14] []) (.seq (.block 0 (.loop L207_0)) (.seq (.reg true [qm 35 9,qm 36 9,qm 37
 8,qz 38 36 37,qm 39 38,qmT 40 2 39,qmT 41 0 39,qmT 42 9 39,⟨some 43,.ias 2 (.t 41) (.t 42),some (39, true)⟩,⟨some 44,.ld 2 true (.t 43),some (39, true)⟩,⟨some 45,.ld 2 true (.t 4),some (39, true)⟩,⟨some 46,.call (.t 40) [.t 44,.t 45],some (39,
 true)⟩,qqT 47 46 0 39,qp 48 39 47,qm 6 35,qm 7 48] []) .ret)))),[.tmp 6,.tmp 7]⟩
def c208 : CF := ⟨.seq (.reg false [⟨some 2,.box (.t 0),none⟩,⟨some 3,.box (.t 1),none⟩,qi 4 0] []) (.seq (.reg false [qa 5 0 2,ql 6 5,qa 7 0 3,ql 8 7,qk 9 143 6 8,qm 4 9] []) .ret),[.tmp 4]⟩
def c211 : CF := ⟨.seq (.reg false [qi 4 0] []) (.seq (.reg false [qm 7 0,qc 8 258 7,qm 5 8] []) (.seq (.reg false [qm 9 1,qc 10 258 9,qm 6 10] []) (.seq (.seq (.reg false [qm 11 5] []) (.cond (.t 11) (.seq (.seq (.reg false [qm 12 6] []) (.cond (.t
 12) (.seq (.reg false [qi 4 0] []) .ret) .skip)) (.seq (.reg false [⟨some 4,.mv (.c (.val (.int .i64 (-1)))),none⟩] []) .ret)) .skip)) (.seq (.seq (.reg false [qm 13 6] []) (.cond (.t 13) (.seq (.reg false [qi 4 1] []) .ret) .skip)) (.seq (.seq
 (.reg false [qm 14 0,qm 15 1,qz 16 14 15] []) (.cond (.t 16) (.seq (.reg false [⟨some 4,.mv (.c (.val (.int .i64 (-1)))),none⟩] []) .ret) .skip)) (.seq (.seq (.reg false [qm 17 0,qm 18 1,⟨some 19,.bin .gtr 3 false false (.t 17) (.t 18),none⟩] [])
 (.cond (.t 19) (.seq (.reg false [qi 4 1] []) .ret) .skip)) (.seq (.reg false [qi 4 0] []) .ret))))))),[.tmp 4]⟩
def c214 : CF := ⟨.seq (.reg false [⟨some 2,.mv (.c (.val (.pointer none))),none⟩] []) (.seq (.reg false [qm 3 0,qc 4 41 3,⟨some 5,.build [.im [] true,.val (.int .i64 0),.val (.int .i64 0)] [(0, 1, (.t 4))],none⟩,⟨some 6,.box (.t 5),none⟩,qm 2 6]
 []) .ret),[.tmp 2]⟩
def c215 : CF := ⟨.seq (.reg false [qi 4 0] []) (.seq (.seq (.reg false [qm 8 0,qc 9 216 8,⟨some 10,.bin .neq 27 false true (.t 9) (.c (.val (.int .i64 0))),none⟩] []) (.cond (.t 10) (.seq (.reg false [qi 4 0] []) .ret) .skip)) (.seq (.reg false [qm
 12 0,qc 13 263 12,qm 11 13,⟨some 14,.ext (.t 11) 0,none⟩,⟨some 15,.ext (.t 11) 1,none⟩,⟨some 16,.ext (.t 11) 2,none⟩,qm 5 14,qm 6 15,qm 7 16] []) (.seq (.seq (.reg false [qm 17 7,⟨some 18,.bin .eql 27 false true (.t 17) (.c (.val (.int .i64
 0))),none⟩,qm 19 18,qmT 20 5 19,qmT 21 1 19,⟨some 22,.bin .gtr 3 false false (.t 20) (.t 21),some (19, true)⟩,qp 23 19 22] []) (.cond (.t 23) (.reg false [qi 7 3] []) .skip)) (.seq (.seq (.reg false [qm 24 7,⟨some 25,.bin .neq 27 false true (.t 24)
 (.c (.val (.int .i64 0))),none⟩] []) (.cond (.t 25) (.seq (.reg false [qm 26 0,qm 27 7,qn 28 26,qa 29 2 28,qw 1 29 27] []) (.seq (.reg false [qi 4 0] []) .ret)) .skip)) (.seq (.reg false [qm 30 0,qn 31 30,qa 32 1 31,ql 33 32,qm 34 6,⟨some 35,.bin
 .add 3 false false (.t 33) (.t 34),none⟩,qn 36 30,qa 37 1 36,qw 1 37 35] []) (.seq (.reg false [qm 38 5,qm 4 38] []) .ret)))))),[.tmp 4]⟩
def c216 : CF := ⟨.seq (.reg false [qi 2 0] []) (.seq (.seq (.reg false [qm 3 0,⟨some 4,.bin .eql 300 false true (.t 3) (.c (.val (.pointer none))),none⟩] []) (.cond (.t 4) (.seq (.reg false [qi 2 1] []) .ret) .skip)) (.seq (.reg false [qm 5 0,qn 6
 5,qa 7 2 6,ql 8 7,qm 2 8] []) .ret)),[.tmp 2]⟩
def c217 : CF := ⟨.seq (.reg false [⟨some 2,.mv (.c (.val (.string ⟨#[]⟩))),none⟩] []) (.seq (.reg false [qm 3 0,qn 4 3,qa 5 0 4,ql 6 5,qd 7 264 6 6,qm 2 7] []) .ret),[.tmp 2]⟩
def c218 : CF := ⟨.seq (.reg false [⟨some 1,.box (.t 0),none⟩,qj 2] []) (.seq (.reg false [⟨some 3,.alloc [.im [] true],none⟩] []) (.seq (.reg false [ql 4 1,⟨some 5,.mkf 266 [.t 1,.t 3],none⟩,⟨some 6,.call (.c (.fn 265 [])) [.t 4,.c (.val (.int .i64
 64)),.t 5],none⟩] []) (.seq (.reg false [ql 7 3,qm 2 7] []) .ret))),[.tmp 2]⟩
def c219 : CF := ⟨.seq (.reg false [⟨some 2,.box (.t 0),none⟩,⟨some 3,.box (.t 1),none⟩] []) (.seq (.reg false [ql 6 2,⟨some 7,.mkf 268 [.t 2,.t 3],none⟩,⟨some 8,.call (.c (.fn 265 [])) [.t 6,.c (.val (.int .i64 64)),.t 7],none⟩] []) (.seq (.reg
 true [ql 9 3,ql 10 2,qc 11 267 10,qn 12 9,qa 13 4 12,qw 1 13 11] [(0, 2)]) (.seq (.reg false [ql 14 2,⟨some 15,.mkf 270 [.t 3,.t 2],none⟩,⟨some 16,.call (.c (.fn 265 [])) [.t 14,.c (.val (.int .i64 64)),.t 15],none⟩] []) (.seq (.reg true [ql 17
 3,ql 18 2,qc 19 218 18,qn 20 17,qa 21 6 20,qw 1 21 19] [(0, 2)]) (.seq (.reg false [ql 22 2,⟨some 23,.mkf 271 [.t 2,.t 3],none⟩,⟨some 24,.call (.c (.fn 265 [])) [.t 22,.c (.val (.int .i64 64)),.t 23],none⟩] []) (.seq (.seq (.reg false [ql 25 3,qn
 26 25,qa 27 0 26,ql 28 27,qq 29 28 1] []) (.cond (.t 29) (.seq (.reg false [ql 31 2,qn 32 31,qa 33 0 32,ql 34 33,qd 35 264 34 2000,qc 36 272 35,qm 30 36,⟨some 37,.ext (.t 30) 0,none⟩,⟨some 38,.ext (.t 30) 1,none⟩,qm 4 37,qm 5 38] []) (.seq (.reg
 false [ql 39 3,qm 40 4,qn 41 39,qa 42 8 41,qw 1 42 40] []) (.reg true [ql 43 2,ql 44 2,qn 45 44,qa 46 1 45,ql 47 46,qm 48 47,qmF 49 5 48,qbF 50 49 48,qmF 51 50 48,qlT 52 2 51,⟨some 53,.nck (.t 52),some (51, true)⟩,qaT 54 0 53 51,qlT 55 54 51,qcT 56
 216 55 51,⟨some 57,.bin .eql 27 false true (.t 56) (.c (.val (.int .i64 0))),some (51, true)⟩,qpF 58 51 57 48,qo 59 48 58,qn 60 43,qa 61 1 60,qw 1 61 59] [(0, 13)]))) .skip)) (.seq (.seq (.reg false [ql 62 2,qc 63 273 62] []) (.cond (.t 63) .ret
 .skip)) (.seq (.reg false [ql 64 2,⟨some 65,.mkf 274 [.t 2,.t 3],none⟩,⟨some 66,.call (.c (.fn 265 [])) [.t 64,.c (.val (.int .i64 32)),.t 65],none⟩] []) (.seq (.reg false [ql 67 3,qn 68 67,qa 69 0 68,ql 70 69,qq 71 70 2,qm 72 71,qlT 73 2 72,qcT 74
 273 73 72,qbT 75 74 72,qp 76 72 75] []) (.cond (.t 76) (.reg true [ql 77 3,ql 78 2,qn 79 78,qa 80 0 79,ql 81 80,qd 82 215 81 1,qq 83 82 1,qn 84 77,qa 85 10 84,qw 1 85 83] [(0, 5)]) .skip)))))))))),[]⟩
def c220 : CF := ⟨.seq (.reg false [qi 2 0] []) (.seq (.seq (.reg true [qm 3 0,qc 4 216 3,⟨some 5,.bin .eql 27 false true (.t 4) (.c (.val (.int .i64 0))),none⟩,qm 6 5,qmT 7 0 6,⟨some 8,.nck (.t 7),some (6, true)⟩,qaT 9 1 8 6,qlT 10 9 6,qmT 11 0
 6,⟨some 12,.nck (.t 11),some (6, true)⟩,qaT 13 0 12 6,qlT 14 13 6,qeT 15 14 6,⟨some 16,.bin .lss 3 false false (.t 10) (.t 15),some (6, true)⟩,qp 17 6 16] []) (.cond (.t 17) (.seq (.reg false [qi 2 3] []) .ret) .skip)) (.seq (.reg false [qm 18 0,qc
 19 216 18,qm 2 19] []) .ret)),[.tmp 2]⟩
def c221 : CF := ⟨.seq (.reg false [qf 4] []) (.seq (.reg false [qm 5 0,qm 6 1,qk 7 252 5 6,⟨some 8,.bin .geq 3 false true (.t 7) (.c (.val (.int .i64 0))),none⟩,qm 4 8] []) .ret),[.tmp 4]⟩
def L223_0 : CC := (.seq (.seq (.reg false [qm 16 6,qm 17 0,qe 18 17,qz 19 16 18] []) (.cond (.t 19) .skip (.exit 0))) (.seq (.block 1 (.seq (.reg false [qm 22 0,qm 23 6,⟨some 24,.ias 8 (.t 22) (.t 23),none⟩,⟨some 25,.ld 8 true (.t 24),none⟩,⟨some
 7,.alloc [.val (.int .i64 0),.val (.string ⟨#[]⟩),.val (.int .i64 0),.val (.int .i64 0),.val (.bool false),.val (.complex .f64 0 0),.val (.string ⟨#[]⟩),.val (.bool false)],none⟩,qw 8 7 25] []) (.seq (.reg false [qm 26 1,⟨some 27,.ld 8 true (.t
 7),none⟩,⟨some 28,.call (.t 26) [.t 27],none⟩,qb 29 28] []) (.cond (.t 29) (.seq (.reg false [qm 30 0,qm 31 5,⟨some 32,.ld 8 true (.t 7),none⟩,⟨some 33,.ias 8 (.t 30) (.t 31),none⟩,qw 8 33 32] []) (.reg false [qm 34 5,qs 35 34,qm 5 35] []))
 .skip)))) (.reg false [qm 20 6,qs 21 20,qm 6 21] [])))
def c223 : CF := ⟨.seq (.reg false [qj 4] []) (.seq (.reg false [qm 8 0,qm 9 1,qk 10 276 8 9,qm 5 10] []) (.seq (.seq (.reg false [qm 11 5,⟨some 12,.bin .eql 3 false true (.t 11) (.c (.val (.int .i64 (-1)))),none⟩] []) (.cond (.t 12) (.seq (.reg
 false [qm 13 0,qm 4 13] []) .ret) .skip)) (.seq (.seq (.reg false [qm 14 5,qs 15 14,qm 6 15] []) (.block 0 (.loop L223_0))) (.seq (.reg false [qm 36 0,qm 37 5,⟨some 38,.slc 8 (.t 36) (some (.t 37)) none none,none⟩,⟨none,.clr [.val (.int .i64
 0),.val (.string ⟨#[]⟩),.val (.int .i64 0),.val (.int .i64 0),.val (.bool false),.val (.complex .f64 0 0),.val (.string ⟨#[]⟩),.val (.bool false)] (.t 38),none⟩] []) (.seq (.reg false [qm 39 0,qm 40 5,⟨some 41,.slc 8 (.t 39) none (some (.t 40))
 none,none⟩,qm 4 41] []) .ret))))),[.tmp 4]⟩
def c224 : CF := ⟨.seq (.reg false [qj 2] []) (.seq (.reg false [qm 4 0,qc 5 99 4,qm 3 5] []) (.seq (.reg false [qm 6 3,⟨some 7,.call (.c (.fn 277 [])) [.t 6,.c (.fn 278 [])],none⟩] []) (.seq (.reg false [qm 8 3,qm 2 8] []) .ret))),[.tmp 2]⟩
def c225 : CF := ⟨.seq (.reg false [⟨some 2,.box (.t 0),none⟩,qf 3] []) (.seq (.reg false [ql 4 1,qa 5 1 2,qa 6 0 5,ql 7 6,qa 8 1 2,qa 9 1 8,ql 10 9,⟨some 11,.call (.c (.fn 84 [])) [.t 4,.t 7,.t 10],none⟩,qm 3 11] []) .ret),[.tmp 3]⟩
def L229_0 : CC := (.seq (.reg false [qz 27 26 25] []) (.seq (.cond (.t 27) .skip (.exit 0)) (.seq (.block 1 (.seq (.reg false [qx 28 24 26,ql 29 28,qm 5 29] []) (.seq (.seq (.reg false [qm 30 5,qm 31 3,⟨some 32,.bin .leq 3 false false (.t 30) (.t
 31),none⟩,qm 33 32,qmF 34 5 33,⟨some 35,.bin .gtr 3 false true (.t 34) (.c (.val (.int .i64 1048576))),some (33, false)⟩,qo 36 33 35] []) (.cond (.t 36) (.seq (.reg false [qf 2] []) .ret) .skip)) (.reg false [qm 37 5,qm 3 37] [])))) (.reg false [qs
 38 26,qm 26 38] []))))
def c229 : CF := ⟨.seq (.reg false [⟨some 1,.box (.t 0),none⟩,qf 2] []) (.seq (.seq (.reg false [qa 6 0 1,ql 7 6,⟨some 8,.bin .lss 3 false true (.t 7) (.c (.val (.int .i64 0))),none⟩,qm 9 8,qaF 10 0 1 9,qlF 11 10 9,⟨some 12,.bin .gtr 3 false true
 (.t 11) (.c (.val (.int .i64 1048576))),some (9, false)⟩,qo 13 9 12,qm 14 13,qaF 15 1 1 14,qlF 16 15 14,⟨some 17,.len false (.t 16),some (14, false)⟩,⟨some 18,.bin .gtr 3 false true (.t 17) (.c (.val (.int .i64 4096))),some (14, false)⟩,qo 19 14
 18] []) (.cond (.t 19) (.seq (.reg false [qf 2] []) .ret) .skip)) (.seq (.reg false [qa 20 0 1,ql 21 20,qs 22 21,qm 3 22] []) (.seq (.seq (.reg false [qa 23 1 1,ql 24 23,qe 25 24,qi 26 0] []) (.block 0 (.loop L229_0))) (.seq (.reg false [qt 2] [])
 .ret)))),[.tmp 2]⟩
def L230_0 : CC := (.seq (.reg false [qz 8 7 6] []) (.seq (.cond (.t 8) .skip (.exit 0)) (.seq (.block 1 (.seq (.reg false [qm 9 7,⟨some 10,.ias 2 (.t 5) (.t 7),none⟩,⟨some 11,.ld 2 true (.t 10),none⟩,⟨some 4,.alloc [.val (.string ⟨#[]⟩),.im []
 true],none⟩,qm 3 9,qw 2 4 11] []) (.seq (.reg true [qa 12 0 4,ql 13 12,qc 14 77 13,qb 15 14,qm 16 15,qaF 17 1 4 16,qlF 18 17 16,qcF 19 175 18 16,qbF 20 19 16,qo 21 16 20,qm 22 21,qaF 23 1 4 22,qlF 24 23 22,⟨some 25,.len false (.t 24),some (22,
 false)⟩,qqF 26 25 0 22,qo 27 22 26,qm 28 27,qmF 29 3 28,⟨some 30,.bin .gtr 3 false true (.t 29) (.c (.val (.int .i64 0))),some (28, false)⟩,qmF 31 30 28,qmT 32 0 31,qmT 33 3 31,⟨some 34,.bin .sub 3 false true (.t 33) (.c (.val (.int .i64 1))),some
 (31, true)⟩,⟨some 35,.ias 2 (.t 32) (.t 34),some (31, true)⟩,⟨some 36,.ld 2 true (.t 35),some (31, true)⟩,⟨some 37,.ld 2 true (.t 4),some (31, true)⟩,qkT 38 155 36 37 31,⟨some 39,.bin .geq 3 false true (.t 38) (.c (.val (.int .i64 0))),some (31,
 true)⟩,qpF 40 31 39 28,qo 41 28 40] []) (.cond (.t 41) (.seq (.reg false [qf 2] []) .ret) .skip)))) (.reg false [qs 42 7,qm 7 42] []))))
def c230 : CF := ⟨.seq (.reg false [qf 2] []) (.seq (.seq (.reg false [qm 5 0,qe 6 5,qi 7 0] []) (.block 0 (.loop L230_0))) (.seq (.reg false [qt 2] []) .ret)),[.tmp 2]⟩
def c231 : CF := ⟨.seq (.reg false [qf 4] []) (.seq (.reg false [qm 5 0,qm 6 1,qk 7 253 5 6,⟨some 8,.bin .geq 3 false true (.t 7) (.c (.val (.int .i64 0))),none⟩,qm 4 8] []) .ret),[.tmp 4]⟩
def c232 : CF := ⟨.seq (.reg false [⟨some 1,.box (.t 0),none⟩,qf 2] []) (.seq (.reg false [qa 3 1 1,ql 4 3,qe 5 4,⟨some 6,.bin .gtr 3 false true (.t 5) (.c (.val (.int .i64 64))),none⟩,qm 2 6] []) .ret),[.tmp 2]⟩
def c233 : CF := ⟨.seq (.reg false [qf 4] []) (.seq (.reg false [qm 5 0,qm 6 1,qk 7 276 5 6,⟨some 8,.bin .geq 3 false true (.t 7) (.c (.val (.int .i64 0))),none⟩,qm 4 8] []) .ret),[.tmp 4]⟩
def c234 : CF := ⟨.seq (.reg false [⟨some 2,.box (.t 0),none⟩,qf 3] []) (.seq (.reg false [⟨some 4,.ld 8 true (.t 2),none⟩,qc 5 179 4,qb 6 5,qm 7 6,qlF 8 1 7,qqF 9 8 1 7,qmF 10 9 7,qaT 11 4 2 10,qlT 12 11 10,qmT 13 12 10,qaF 14 7 2 13,qlF 15 14
 13,⟨some 16,.pick (.t 13) (.c (.val (.bool true))) (.t 15),some (10, true)⟩,qpF 17 10 16 7,qo 18 7 17,qm 3 18] []) .ret),[.tmp 3]⟩
def c239 : CF := ⟨.seq (.reg false [⟨some 1,.box (.t 0),none⟩,qf 2] []) (.seq (.reg false [qa 3 0 1,ql 4 3,qc 5 77 4,qm 6 5,qaT 7 1 1 6,qlT 8 7 6,⟨some 9,.bin .geq 3 false true (.t 8) (.c (.val (.int .i64 1))),some (6, true)⟩,qp 10 6 9,qm 11 10,qaT
 12 1 1 11,qlT 13 12 11,⟨some 14,.bin .leq 3 false true (.t 13) (.c (.val (.int .i64 1048576))),some (11, true)⟩,qp 15 11 14,qm 16 15,qaT 17 2 1 16,qlT 18 17 16,⟨some 19,.bin .geq 3 false true (.t 18) (.c (.val (.int .i64 1))),some (16, true)⟩,qp 20
 16 19,qm 21 20,qaT 22 2 1 21,qlT 23 22 21,⟨some 24,.bin .leq 3 false true (.t 23) (.c (.val (.int .i64 1048576))),some (21, true)⟩,qp 25 21 24,qm 2 25] []) .ret),[.tmp 2]⟩
def L242_0 : CC := (.seq (.reg false [qz 12 11 10] []) (.seq (.cond (.t 12) .skip (.exit 0)) (.seq (.block 1 (.seq (.reg false [qx 13 9 11,ql 14 13,qm 5 14] []) (.seq (.reg false [qm 15 3,qm 16 5,qe 17 16,⟨some 18,.bin .add 3 false false (.t 15) (.t
 17),none⟩,qm 3 18] []) (.seq (.reg false [qm 19 3,⟨some 20,.bin .lss 3 false true (.t 19) (.c (.val (.int .i64 0))),none⟩] []) (.cond (.t 20) (.reg false [⟨some 21,.bad,none⟩,⟨none,.bad,none⟩] []) .skip))))) (.reg false [qs 22 11,qm 11 22] []))))
def L242_1 : CC := (.seq (.reg false [qz 28 27 26] []) (.seq (.cond (.t 28) .skip (.exit 2)) (.seq (.block 3 (.seq (.reg false [qx 29 25 27,ql 30 29,qm 8 30] []) (.reg false [qm 31 6,qm 32 8,⟨some 33,.app 1 (.t 31) (.t 32),none⟩,qm 6 33] []))) (.reg
 false [qs 34 27,qm 27 34] []))))
def c242 : CF := ⟨.seq (.reg false [qj 2] []) (.seq (.reg false [qi 3 0] []) (.seq (.seq (.reg false [qm 9 0,qe 10 9,qi 11 0] []) (.block 0 (.loop L242_0))) (.seq (.reg false [qm 23 3,⟨some 24,.call (.c (.fn 292 [])) [.c (.im [] true),.t
 23],none⟩,qm 6 24] []) (.seq (.seq (.reg false [qm 25 0,qe 26 25,qi 27 0] []) (.block 2 (.loop L242_1))) (.seq (.reg false [qm 35 6,qm 2 35] []) .ret))))),[.tmp 2]⟩
def L244_0 : CC := (.seq (.seq (.reg false [qm 6 5,qm 7 1,qe 8 7,qz 9 6 8,qm 10 9,qmT 11 1 10,qmT 12 5 10,⟨some 13,.ias 1 (.t 11) (.t 12),some (10, true)⟩,qlT 14 13 10,qmT 15 0 10,⟨some 16,.bin .add 3 false true (.t 15) (.c (.val (.int .i64
 1))),some (10, true)⟩,⟨some 17,.bin .leq 3 false false (.t 14) (.t 16),some (10, true)⟩,qp 18 10 17] []) (.cond (.t 18) .skip (.exit 0))) (.seq (.block 1 (.reg false [qm 21 0,qm 22 1,qm 23 5,qx 24 22 23,ql 25 24,⟨some 26,.fun_ .max #[3,3] 3 [.t
 21,.t 25],none⟩,qm 0 26] [])) (.reg false [qm 19 5,qs 20 19,qm 5 20] [])))
def c244 : CF := ⟨.seq (.reg false [⟨some 4,.alloc [.val (.int .i64 0),.im [] true],none⟩] []) (.seq (.reg false [qi 5 0] []) (.seq (.block 0 (.loop L244_0)) (.seq (.reg false [qm 27 0,qm 28 1,qm 29 5,⟨some 30,.slc 1 (.t 28) (some (.t 29)) none
 none,none⟩,qc 31 144 30,⟨some 32,.build [.val (.int .i64 0),.im [] true] [(0, 1, (.t 27)),(1, 1, (.t 31))],none⟩,qw 2 4 32] []) .ret))),[.cell 4 2 true]⟩
def L245_0 : CC := (.seq (.seq (.reg false [qm 29 5,qm 30 4,qe 31 30,qz 32 29 31] []) (.cond (.t 32) .skip (.exit 2))) (.seq (.block 3 (.seq (.reg true [qm 35 4,qm 36 5,qx 37 35 36,ql 38 37,qm 39 4,qm 40 5,⟨some 41,.bin .sub 3 false true (.t 40) (.c
 (.val (.int .i64 1))),none⟩,qx 42 39 41,ql 43 42,⟨some 44,.bin .neq 3 false false (.t 38) (.t 43),none⟩] []) (.cond (.t 44) (.seq (.reg false [qm 45 0,qm 46 3,qm 47 4,qm 48 5,qx 49 47 48,ql 50 49,qx 51 45 46,qw 1 51 50] []) (.reg false [qm 52 3,qs
 53 52,qm 3 53] [])) .skip))) (.reg false [qm 33 5,qs 34 33,qm 5 34] [])))
def L245_1 : CC := (.seq (.seq (.reg false [qm 10 3,qm 11 0,qe 12 11,qz 13 10 12] []) (.cond (.t 13) .skip (.exit 0))) (.seq (.block 1 (.seq (.reg true [qm 16 0,qm 17 3,qx 18 16 17,ql 19 18,qm 20 0,qm 21 3,⟨some 22,.bin .sub 3 false true (.t 21) (.c
 (.val (.int .i64 1))),none⟩,qx 23 20 22,ql 24 23,⟨some 25,.bin .eql 3 false false (.t 19) (.t 24),none⟩] []) (.cond (.t 25) (.seq (.reg false [qm 26 0,qm 27 3,⟨some 28,.slc 1 (.t 26) (some (.t 27)) none none,none⟩,qm 4 28] []) (.seq (.seq (.reg
 false [qi 5 1] []) (.block 2 (.loop L245_0))) (.seq (.reg false [qm 54 0,qm 55 3,⟨some 56,.slc 1 (.t 54) (some (.t 55)) none none,none⟩,⟨none,.clr [.val (.int .i64 0)] (.t 56),none⟩] []) (.seq (.reg false [qm 57 0,qm 58 3,⟨some 59,.slc 1 (.t 57)
 none (some (.t 58)) none,none⟩,qm 2 59] []) .ret)))) .skip))) (.reg false [qm 14 3,qs 15 14,qm 3 15] [])))
def c245 : CF := ⟨.seq (.reg false [qj 2] []) (.seq (.seq (.reg false [qm 6 0,qe 7 6,⟨some 8,.bin .lss 3 false true (.t 7) (.c (.val (.int .i64 2))),none⟩] []) (.cond (.t 8) (.seq (.reg false [qm 9 0,qm 2 9] []) .ret) .skip)) (.seq (.seq (.reg false
 [qi 3 1] []) (.block 0 (.loop L245_1))) (.seq (.reg false [qm 60 0,qm 2 60] []) .ret))),[.tmp 2]⟩
def L252_0 : CC := (.seq (.reg false [qz 9 8 7] []) (.seq (.cond (.t 9) .skip (.exit 0)) (.seq (.block 1 (.seq (.reg false [qm 10 8,qm 5 10] []) (.seq (.reg false [qm 11 1,qm 12 0,qm 13 5,⟨some 14,.ias 3 (.t 12) (.t 13),none⟩,⟨some 15,.ld 3 true (.t
 14),none⟩,⟨some 16,.call (.t 11) [.t 15],none⟩] []) (.cond (.t 16) (.seq (.reg false [qm 17 5,qm 4 17] []) .ret) .skip)))) (.reg false [qs 18 8,qm 8 18] []))))
def c252 : CF := ⟨.seq (.reg false [qi 4 0] []) (.seq (.seq (.reg false [qm 6 0,qe 7 6,qi 8 0] []) (.block 0 (.loop L252_0))) (.seq (.reg false [⟨some 4,.mv (.c (.val (.int .i64 (-1)))),none⟩] []) .ret)),[.tmp 4]⟩
def L253_0 : CC := (.seq (.reg false [qz 9 8 7] []) (.seq (.cond (.t 9) .skip (.exit 0)) (.seq (.block 1 (.seq (.reg false [qm 10 8,qm 5 10] []) (.seq (.reg false [qm 11 1,qm 12 0,qm 13 5,⟨some 14,.ias 2 (.t 12) (.t 13),none⟩,⟨some 15,.ld 2 true (.t
 14),none⟩,⟨some 16,.call (.t 11) [.t 15],none⟩] []) (.cond (.t 16) (.seq (.reg false [qm 17 5,qm 4 17] []) .ret) .skip)))) (.reg false [qs 18 8,qm 8 18] []))))
def c253 : CF := ⟨.seq (.reg false [qi 4 0] []) (.seq (.seq (.reg false [qm 6 0,qe 7 6,qi 8 0] []) (.block 0 (.loop L253_0))) (.seq (.reg false [⟨some 4,.mv (.c (.val (.int .i64 (-1)))),none⟩] []) .ret)),[.tmp 4]⟩
def c258 : CF := ⟨.seq (.reg false [qf 2] []) (.seq (.reg false [qm 3 0,qm 4 0,⟨some 5,.bin .neq 3 false false (.t 3) (.t 4),none⟩,qm 2 5] []) .ret),[.tmp 2]⟩
def L263_0 : CC := (.block 1048576 (.seq (.seq .skip (.seq (.block 0 (.seq (.reg false [qm 7 3,qq 8 7 9,qm 6 8] []) (.cond (.t 6) (.seq (.reg false [qi 2 0,qi 3 0,qi 4 3] []) .ret) (.seq (.reg true [qm 10 0,qn 11 10,qa 12 1 11,ql 13 12,qm 14 3,⟨some
 15,.bin .add 3 false false (.t 13) (.t 14),none⟩,qm 16 0,qn 17 16,qa 18 0 17,ql 19 18,qe 20 19,⟨some 21,.bin .eql 3 false false (.t 15) (.t 20),none⟩,qm 9 21] []) (.cond (.t 9) (.seq (.reg false [qi 2 0,qi 3 0,qi 4 2] []) .ret) .skip))))) (.seq
 (.reg true [qm 22 0,qn 23 22,qa 24 0 23,ql 25 24,qm 26 0,qn 27 26,qa 28 1 27,ql 29 28,qm 30 3,⟨some 31,.bin .add 3 false false (.t 29) (.t 30),none⟩,qx 32 25 31,ql 33 32,qm 5 33] []) (.seq (.reg false [qm 34 2,qm 35 5,⟨some 36,.bin .andNot 5 false
 true (.t 35) (.c (.val (.int .u8 128))),none⟩,⟨some 37,.cv 5 3 (.t 36),none⟩,qm 38 3,⟨some 39,.bin .mul 3 true false (.c (.val (.int .i64 7))) (.t 38),none⟩,⟨some 40,.bin .shl 3 false false (.t 37) (.t 39),none⟩,⟨some 41,.bin .or 3 false false (.t
 34) (.t 40),none⟩,qm 2 41] []) (.seq (.reg false [qm 42 3,qs 43 42,qm 3 43] []) (.seq (.seq (.reg false [qm 44 5,⟨some 45,.bin .geq 5 false true (.t 44) (.c (.val (.int .u8 128))),none⟩] []) (.cond (.t 45) (.exit 1048576) .skip)) (.seq (.seq (.reg
 false [qm 46 5,⟨some 47,.bin .eql 5 false true (.t 46) (.c (.val (.int .u8 0))),none⟩,qm 48 47,qmT 49 3 48,⟨some 50,.bin .gtr 3 false true (.t 49) (.c (.val (.int .i64 1))),some (48, true)⟩,qp 51 48 50] []) (.cond (.t 51) (.seq (.reg false [qi 2
 0,qi 3 0,qi 4 3] []) .ret) .skip)) (.seq (.reg false [qm 52 2,qm 53 3,qm 2 52,qm 3 53,qi 4 0] []) .ret)))))))) (.exit 2097152)))
def c263 : CF := ⟨.seq (.reg false [qi 2 0,qi 3 0,qi 4 0] []) (.block 2097152 (.seq (.block 1048576 (.seq (.seq (.reg false [⟨some 5,.mv (.c (.val (.int .u8 0))),none⟩] []) (.seq (.block 4194304 .skip) (.seq (.block 0 (.seq (.reg false [qm 7 3,qq 8
 7 9,qm 6 8] []) (.cond (.t 6) (.seq (.reg false [qi 2 0,qi 3 0,qi 4 3] []) .ret) (.seq (.reg true [qm 10 0,qn 11 10,qa 12 1 11,ql 13 12,qm 14 3,⟨some 15,.bin .add 3 false false (.t 13) (.t 14),none⟩,qm 16 0,qn 17 16,qa 18 0 17,ql 19 18,qe 20
 19,⟨some 21,.bin .eql 3 false false (.t 15) (.t 20),none⟩,qm 9 21] []) (.cond (.t 9) (.seq (.reg false [qi 2 0,qi 3 0,qi 4 2] []) .ret) .skip))))) (.seq (.reg true [qm 22 0,qn 23 22,qa 24 0 23,ql 25 24,qm 26 0,qn 27 26,qa 28 1 27,ql 29 28,qm 30
 3,⟨some 31,.bin .add 3 false false (.t 29) (.t 30),none⟩,qx 32 25 31,ql 33 32,qm 5 33] []) (.seq (.reg false [qm 34 2,qm 35 5,⟨some 36,.bin .andNot 5 false true (.t 35) (.c (.val (.int .u8 128))),none⟩,⟨some 37,.cv 5 3 (.t 36),none⟩,qm 38 3,⟨some
 39,.bin .mul 3 true false (.c (.val (.int .i64 7))) (.t 38),none⟩,⟨some 40,.bin .shl 3 false false (.t 37) (.t 39),none⟩,⟨some 41,.bin .or 3 false false (.t 34) (.t 40),none⟩,qm 2 41] []) (.seq (.reg false [qm 42 3,qs 43 42,qm 3 43] []) (.seq (.seq
 (.reg false [qm 44 5,⟨some 45,.bin .geq 5 false true (.t 44) (.c (.val (.int .u8 128))),none⟩] []) (.cond (.t 45) (.exit 1048576) .skip)) (.seq (.seq (.reg false [qm 46 5,⟨some 47,.bin .eql 5 false true (.t 46) (.c (.val (.int .u8 0))),none⟩,qm 48
 47,qmT 49 3 48,⟨some 50,.bin .gtr 3 false true (.t 49) (.c (.val (.int .i64 1))),some (48, true)⟩,qp 51 48 50] []) (.cond (.t 51) (.seq (.reg false [qi 2 0,qi 3 0,qi 4 3] []) .ret) .skip)) (.seq (.reg false [qm 52 2,qm 53 3,qm 2 52,qm 3 53,qi 4 0]
 []) .ret))))))))) (.exit 2097152))) (.loop L263_0))),[.tmp 2,.tmp 3,.tmp 4]⟩
def c264 : CF := ⟨.seq (.reg false [⟨some 4,.mv (.c (.val (.string ⟨#[]⟩))),none⟩] []) (.seq (.reg false [qm 6 0,qm 7 1,qk 8 215 6 7,qm 5 8] []) (.seq (.block 0 (.seq (.reg false [qm 10 0,qc 11 216 10,⟨some 12,.bin .neq 27 false true (.t 11) (.c
 (.val (.int .i64 0))),none⟩,qm 9 12] []) (.cond (.t 9) (.seq (.reg false [⟨some 4,.mv (.c (.val (.string ⟨#[]⟩))),none⟩] []) .ret) (.seq (.reg true [qm 14 5,qm 15 0,qn 16 15,qa 17 0 16,ql 18 17,qe 19 18,qm 20 0,qn 21 20,qa 22 1 21,ql 23 22,⟨some
 24,.bin .sub 3 false false (.t 19) (.t 23),none⟩,⟨some 25,.bin .gtr 3 false false (.t 14) (.t 24),none⟩,qm 13 25] []) (.cond (.t 13) (.seq (.reg false [qm 26 0,qn 27 26,qa 28 2 27,⟨none,.st 1 (.t 28) (.c (.val (.int .i64 2))),none⟩] []) (.seq (.reg
 false [⟨some 4,.mv (.c (.val (.string ⟨#[]⟩))),none⟩] []) .ret)) .skip))))) (.seq (.reg false [qm 29 0,qn 30 29,qa 31 1 30,ql 32 31,qm 33 5,⟨some 34,.bin .add 3 false false (.t 32) (.t 33),none⟩,qn 35 29,qa 36 1 35,qw 1 36 34] []) (.seq (.reg true
 [qm 37 0,qn 38 37,qa 39 0 38,ql 40 39,qm 41 0,qn 42 41,qa 43 1 42,ql 44 43,qm 45 5,⟨some 46,.bin .sub 3 false false (.t 44) (.t 45),none⟩,qm 47 0,qn 48 47,qa 49 1 48,ql 50 49,⟨some 51,.slc 1 (.t 40) (some (.t 46)) (some (.t 50)) none,none⟩,⟨some
 52,.b2s (.t 51),none⟩,qm 4 52] []) .ret)))),[.tmp 4]⟩
def L265_0 : CC := (.seq (.seq (.reg false [qm 14 7,qm 15 6,qz 16 14 15,qm 17 16,qmT 18 0 17,qcT 19 273 18 17,qbT 20 19 17,qp 21 17 20] []) (.cond (.t 21) .skip (.exit 0))) (.seq (.block 1 (.reg false [qm 24 2,⟨some 25,.call (.t 24) [],none⟩] []))
 (.reg false [qm 22 7,qs 23 22,qm 7 23] [])))
def c265 : CF := ⟨.seq (.reg false [qm 8 0,qn 9 8,qa 10 0 9,ql 11 10,qm 12 1,qk 13 215 11 12,qm 6 13] []) (.seq (.reg false [qi 7 0] []) (.block 0 (.loop L265_0))),[]⟩
def c266 : CF := ⟨.seq (.reg false [ql 3 0,qc 4 217 3,qm 2 4] []) (.reg true [ql 5 1,qm 6 2,ql 7 0,qc 8 267 7,⟨some 9,.build [.val (.string ⟨#[]⟩),.val (.int .i64 0)] [(0, 1, (.t 6)),(1, 1, (.t 8))],none⟩,⟨some 10,.bsl 2 1 [.val (.string ⟨#[]⟩),.val
 (.int .i64 0)] [(0, 2, (.t 9))],none⟩,⟨some 11,.app 2 (.t 5) (.t 10),none⟩,qw 1 1 11] [(0, 3),(0, 5)]),[]⟩
def c267 : CF := ⟨.seq (.reg false [qi 2 0] []) (.seq (.reg false [qm 3 0,qn 4 3,qa 5 0 4,ql 6 5,qd 7 215 6 1048576,qm 2 7] []) .ret),[.tmp 2]⟩
def c268 : CF := ⟨.seq (.reg false [ql 3 0,qc 4 217 3,qm 2 4] []) (.reg true [ql 5 1,ql 6 1,qn 7 6,qa 8 3 7,ql 9 8,qm 10 2,ql 11 0,qc 12 269 11,⟨some 13,.build [.val (.string ⟨#[]⟩),.val (.int .i64 0),.im [] true] [(0, 1, (.t 10)),(1, 2, (.t
 12))],none⟩,⟨some 14,.bsl 3 1 [.val (.string ⟨#[]⟩),.val (.int .i64 0),.im [] true] [(0, 3, (.t 13))],none⟩,⟨some 15,.app 3 (.t 9) (.t 14),none⟩,qn 16 5,qa 17 3 16,qw 1 17 15] [(0, 7),(1, 7),(4, 7),(0, 9),(1, 9),(4, 9),(0, 10)]),[]⟩
def c269 : CF := ⟨.seq (.reg false [⟨some 1,.box (.t 0),none⟩,⟨some 2,.alloc [.val (.int .i64 0),.im [] true],none⟩] []) (.seq (.reg false [ql 4 1,qc 5 267 4,⟨some 6,.build [.val (.int .i64 0),.im [] true] [(0, 1, (.t 5))],none⟩,⟨some 3,.alloc [.val
 (.int .i64 0),.im [] true],none⟩,qw 2 3 6] []) (.seq (.reg false [ql 7 1,⟨some 8,.mkf 298 [.t 3,.t 1],none⟩,⟨some 9,.call (.c (.fn 265 [])) [.t 7,.c (.val (.int .i64 4096)),.t 8],none⟩] []) (.seq (.reg false [⟨some 10,.ld 2 true (.t 3),none⟩,qw 2 2
 10] []) .ret))),[.cell 2 2 true]⟩
def c270 : CF := ⟨.reg true [ql 2 0,ql 3 0,qn 4 3,qa 5 5 4,ql 6 5,ql 7 1,qc 8 217 7,⟨some 9,.bsl 1 1 [.val (.string ⟨#[]⟩)] [(0, 1, (.t 8))],none⟩,⟨some 10,.app 1 (.t 6) (.t 9),none⟩,qn 11 2,qa 12 5 11,qw 1 12 10] [(0, 6),(1, 6),(4, 6),(0, 7),(1,
 7),(4, 7),(0, 8)],[]⟩
def c271 : CF := ⟨.seq (.reg false [ql 3 0,qc 4 217 3,qm 2 4] []) (.reg true [ql 5 1,ql 6 1,qn 7 6,qa 8 7 7,ql 9 8,qm 10 2,ql 11 0,qc 12 218 11,⟨some 13,.build [.val (.string ⟨#[]⟩),.im [] true] [(0, 1, (.t 10)),(1, 1, (.t 12))],none⟩,⟨some 14,.bsl
 2 1 [.val (.string ⟨#[]⟩),.im [] true] [(0, 2, (.t 13))],none⟩,⟨some 15,.app 2 (.t 9) (.t 14),none⟩,qn 16 5,qa 17 7 16,qw 1 17 15] [(0, 7),(1, 7),(4, 7),(0, 9),(1, 9),(4, 9),(0, 10)]),[]⟩
def L272_0 : CC := (.seq (.reg false [qz 11 10 9] []) (.seq (.cond (.t 11) .skip (.exit 0)) (.seq (.block 1 (.seq (.reg false [qx 12 8 10,ql 13 12,qm 6 13] []) (.reg false [qm 14 4,qm 15 6,qc 16 300 15,⟨some 17,.bsl 3 1 [.val (.int .i64 0),.val
 (.complex .f64 0 0),.val (.float .f64 0)] [(0, 3, (.t 16))],none⟩,⟨some 18,.app 3 (.t 14) (.t 17),none⟩,qm 4 18] []))) (.reg false [qs 19 10,qm 10 19] []))))
def c272 : CF := ⟨.seq (.reg false [qj 2,qf 3] []) (.seq (.reg false [qj 4] []) (.seq (.seq (.reg false [qm 7 0,⟨some 8,.call (.c (.fn 299 [])) [.t 7,.c (.val (.string ⟨#[44]⟩))],none⟩,qe 9 8,qi 10 0] []) (.block 0 (.loop L272_0))) (.seq (.seq (.reg
 false [qm 20 4,qc 21 128 20,qm 22 0,⟨some 23,.bin .neq 9 false false (.t 21) (.t 22),none⟩,qm 24 23,qmF 25 0 24,⟨some 26,.bin .eql 9 false true (.t 25) (.c (.val (.string ⟨#[]⟩))),some (24, false)⟩,qo 27 24 26] []) (.cond (.t 27) (.seq (.reg false
 [qj 2,qf 3] []) .ret) .skip)) (.seq (.reg false [qm 28 4,qm 2 28,qt 3] []) .ret)))),[.tmp 2,.tmp 3]⟩
def c273 : CF := ⟨.seq (.reg false [qf 2] []) (.seq (.reg false [qm 3 0,qn 4 3,qa 5 1 4,ql 6 5,qm 7 6,qmF 8 0 7,⟨some 9,.nck (.t 8),some (7, false)⟩,qaF 10 0 9 7,qlF 11 10 7,qcF 12 216 11 7,⟨some 13,.bin .neq 27 false true (.t 12) (.c (.val (.int
 .i64 0))),some (7, false)⟩,qo 14 7 13,qm 2 14] []) .ret),[.tmp 2]⟩
def c274 : CF := ⟨.seq (.reg false [ql 5 0,qn 6 5,qa 7 0 6,ql 8 7,qc 9 275 8,qm 4 9,⟨some 10,.ext (.t 4) 0,none⟩,⟨some 11,.ext (.t 4) 1,none⟩,⟨some 2,.alloc [.val (.int .i64 0),.val (.string ⟨#[]⟩),.val (.int .i64 0),.val (.int .i64 0),.val (.bool
 false),.val (.complex .f64 0 0),.val (.string ⟨#[]⟩),.val (.bool false)],none⟩,qw 8 2 10,qm 3 11] []) (.seq (.reg true [ql 12 1,ql 13 1,qn 14 13,qa 15 9 14,ql 16 15,⟨some 17,.ld 8 true (.t 2),none⟩,⟨some 18,.bsl 8 1 [.val (.int .i64 0),.val
 (.string ⟨#[]⟩),.val (.int .i64 0),.val (.int .i64 0),.val (.bool false),.val (.complex .f64 0 0),.val (.string ⟨#[]⟩),.val (.bool false)] [(0, 8, (.t 17))],none⟩,⟨some 19,.app 8 (.t 16) (.t 18),none⟩,qn 20 12,qa 21 9 20,qw 1 21 19] [(0, 6),(1,
 6),(4, 6),(0, 7)]) (.reg true [ql 22 0,ql 23 0,qn 24 23,qa 25 1 24,ql 26 25,qm 27 26,qmF 28 3 27,qbF 29 28 27,qmF 30 29 27,qlT 31 0 30,⟨some 32,.nck (.t 31),some (30, true)⟩,qaT 33 0 32 30,qlT 34 33 30,qcT 35 216 34 30,⟨some 36,.bin .eql 27 false
 true (.t 35) (.c (.val (.int .i64 0))),some (30, true)⟩,qpF 37 30 36 27,qo 38 27 37,qn 39 22,qa 40 1 39,qw 1 40 38] [(0, 13)])),[]⟩
def c275 : CF :=  ⟨.seq (.reg false [⟨some 2,.alloc [.val (.int .i64 0),.val (.string ⟨#[]⟩),.val (.int .i64 0),.val (.int .i64 0),.val (.bool false),.val (.complex .f64 0 0),.val (.string ⟨#[]⟩),.val (.bool false)],none⟩,qf 3] []) (.seq (.reg false
 [qm 7 0,qd 8 215 7 31,⟨some 9,.build [.val (.int .i64 0),.val (.string ⟨#[]⟩),.val (.int .i64 0),.val (.int .i64 0),.val (.bool false),.val (.complex .f64 0 0),.val (.string ⟨#[]⟩),.val (.bool false)] [(0, 1, (.t 8))],none⟩,⟨some 4,.alloc [.val
 (.int .i64 0),.val (.string ⟨#[]⟩),.val (.int .i64 0),.val (.int .i64 0),.val (.bool false),.val (.complex .f64 0 0),.val (.string ⟨#[]⟩),.val (.bool false)],none⟩,qw 8 4 9] []) (.seq (.reg false [qm 10 0,qd 11 264 10 6,qa 12 1 4,qa 13 0 12,qw 1 13
 11] []) (.seq (.reg false [qm 14 0,qd 15 215 14 1048576,qm 16 0,qd 17 215 16 1048576,qa 18 1 4,qa 19 1 18,qw 1 19 15,qa 20 1 4,qa 21 2 20,qw 1 21 17] []) (.seq (.reg false [qm 22 0,qd 23 215 22 2,qm 5 23] []) (.seq (.reg false [qm 24 5,qq 25 24
 0,qm 26 5,qq 27 26 2,qa 28 4 4,qw 1 28 25,qa 29 7 4,qw 1 29 27] []) (.seq (.seq (.reg false [qm 30 5,⟨some 31,.bin .neq 3 false true (.t 30) (.c (.val (.int .i64 0))),none⟩] []) (.cond (.t 31) (.seq (.reg false [qm 32 0,qc 33 301 32,qm 6 33] [])
 (.reg false [qm 34 6,qm 35 0,qc 36 301 35,⟨some 37,.fun_ .complex #[105,105] 53 [.t 34,.t 36],none⟩,qa 38 5 4,qw 1 38 37] [])) .skip)) (.seq (.seq (.reg false [qm 39 5,qq 40 39 2] []) (.cond (.t 40) (.reg false [qm 41 0,qd 42 264 41 16,qa 43 6 4,qw
 1 43 42] []) .skip)) (.seq (.seq (.reg false [qm 44 0,qc 45 216 44,⟨some 46,.bin .neq 27 false true (.t 45) (.c (.val (.int .i64 0))),none⟩,qm 47 46,⟨some 48,.ld 8 true (.t 4),some (47, false)⟩,qcF 49 179 48 47,qbF 50 49 47,qo 51 47 50] []) (.cond
 (.t 51) (.seq (.reg false [⟨some 52,.build [.val (.int .i64 0),.val (.string ⟨#[]⟩),.val (.int .i64 0),.val (.int .i64 0),.val (.bool false),.val (.complex .f64 0 0),.val (.string ⟨#[]⟩),.val (.bool false)] [],none⟩,qw 8 2 52,qf 3] []) .ret)
 .skip)) (.seq (.reg false [⟨some 53,.ld 8 true (.t 4),none⟩,qw 8 2 53,qt 3] []) .ret))))))))),[.cell 2 8 true,.tmp 3]⟩
def L276_0 : CC := (.seq (.reg false [qz 9 8 7] []) (.seq (.cond (.t 9) .skip (.exit 0)) (.seq (.block 1 (.seq (.reg false [qm 10 8,qm 5 10] []) (.seq (.reg false [qm 11 1,qm 12 0,qm 13 5,⟨some 14,.ias 8 (.t 12) (.t 13),none⟩,⟨some 15,.ld 8 true (.t
 14),none⟩,⟨some 16,.call (.t 11) [.t 15],none⟩] []) (.cond (.t 16) (.seq (.reg false [qm 17 5,qm 4 17] []) .ret) .skip)))) (.reg false [qs 18 8,qm 8 18] []))))
def c276 : CF := ⟨.seq (.reg false [qi 4 0] []) (.seq (.seq (.reg false [qm 6 0,qe 7 6,qi 8 0] []) (.block 0 (.loop L276_0))) (.seq (.reg false [⟨some 4,.mv (.c (.val (.int .i64 (-1)))),none⟩] []) .ret)),[.tmp 4]⟩
def c277 : CF := ⟨.reg false [qm 4 0,qm 5 0,qe 6 5,qm 7 1,⟨some 8,.call (.c (.fn 302 [])) [.t 4,.t 6,.t 7],none⟩] [],[]⟩
def L300_0 : CC := (.seq (.reg false [⟨some 22,.bin .lss 3 false true (.t 21) (.c (.val (.int .i64 3))),none⟩] []) (.seq (.cond (.t 22) .skip (.exit 0)) (.seq (.block 1 (.seq (.reg false [qm 23 21,qm 6 23] []) (.seq (.reg false [qm 25 3,qm 26
 6,⟨some 27,.bin .add 3 true false (.c (.val (.int .i64 1))) (.t 26),none⟩,qx 28 25 27,ql 29 28,qc 30 322 29,qm 24 30,⟨some 31,.ext (.t 24) 0,none⟩,⟨some 32,.ext (.t 24) 1,none⟩,qm 7 31,qm 8 32] []) (.seq (.seq (.reg false [qm 33 8,⟨some 34,.nilq
 true true (.t 33) (.c (.val .nilIface)),none⟩] []) (.cond (.t 34) (.seq (.reg false [⟨some 35,.build [.val (.int .i64 0),.val (.complex .f64 0 0),.val (.float .f64 0)] [],none⟩,qw 3 2 35] []) .ret) .skip)) (.reg false [qm 36 6,qm 37 7,⟨some 38,.cv
 3 105 (.t 37),none⟩,⟨some 39,.iaa 3 1 (.t 5) (.t 36),none⟩,qw 1 39 38] []))))) (.reg false [qs 40 21,qm 21 40] []))))
def c300 : CF := ⟨.seq (.reg false [⟨some 2,.alloc [.val (.int .i64 0),.val (.complex .f64 0 0),.val (.float .f64 0)],none⟩] []) (.seq (.reg false [qm 9 0,⟨some 10,.call (.c (.fn 299 [])) [.t 9,.c (.val (.string ⟨#[32]⟩))],none⟩,qm 3 10] []) (.seq
 (.reg true [⟨some 11,.call (.c (.fn 176 [])) [],none⟩,qm 12 3,⟨some 13,.ias 1 (.t 12) (.c (.val (.int .i64 0))),none⟩,ql 14 13,qk 15 321 11 14,⟨some 16,.build [.val (.int .i64 0),.val (.complex .f64 0 0),.val (.float .f64 0)] [(0, 1, (.t
 15))],none⟩,⟨some 4,.alloc [.val (.int .i64 0),.val (.complex .f64 0 0),.val (.float .f64 0)],none⟩,qw 3 4 16] [(0, 3),(0, 6),(3, 6),(4, 6)]) (.seq (.seq (.reg false [qm 17 3,qe 18 17,⟨some 19,.bin .neq 3 false true (.t 18) (.c (.val (.int .i64
 4))),none⟩] []) (.cond (.t 19) (.seq (.reg false [⟨some 20,.ld 3 true (.t 4),none⟩,qw 3 2 20] []) .ret) .skip)) (.seq (.reg false [⟨some 5,.alloc [.val (.float .f64 0),.val (.float .f64 0),.val (.float .f64 0)],none⟩] []) (.seq (.seq (.reg false
 [qi 21 0] []) (.block 0 (.loop L300_0))) (.seq (.reg true [⟨some 41,.iaa 3 1 (.t 5) (.c (.val (.int .i64 0))),none⟩,ql 42 41,⟨some 43,.iaa 3 1 (.t 5) (.c (.val (.int .i64 1))),none⟩,ql 44 43,⟨some 45,.fun_ .complex #[105,105] 53 [.t 42,.t
 44],none⟩,⟨some 46,.iaa 3 1 (.t 5) (.c (.val (.int .i64 2))),none⟩,ql 47 46,qa 48 1 4,qw 1 48 45,qa 49 2 4,qw 1 49 47] [(6, 8)]) (.seq (.reg false [⟨some 50,.ld 3 true (.t 4),none⟩,qw 3 2 50] []) .ret))))))),[.cell 2 3 true]⟩
def c301 : CF := ⟨.seq (.reg false [⟨some 2,.mv (.c (.val (.float .f64 0))),none⟩] []) (.seq (.reg false [qm 3 0,qd 4 215 3 2000,⟨some 5,.bin .sub 3 false true (.t 4) (.c (.val (.int .i64 1000))),none⟩,⟨some 6,.cv 3 105 (.t 5),none⟩,qm 2 6] []) .ret),[.tmp 2]⟩
def L302_0 : CC := (.seq (.seq (.reg false [qm 11 8,qm 12 1,⟨some 13,.bin .leq 3 false false (.t 11) (.t 12),none⟩] []) (.cond (.t 13) .skip (.exit 0))) (.block 1 (.seq (.reg false [qm 14 0,qm 15 7,qm 16 8,qm 17 2,⟨some 18,.call (.c (.fn 323 []))
 [.t 14,.t 15,.t 16,.t 17],none⟩] []) (.seq (.reg false [qm 19 8,qm 7 19] []) (.reg false [qm 20 8,qm 21 6,⟨some 22,.bin .add 3 false false (.t 20) (.t 21),none⟩,qm 8 22] [])))))
def L302_1 : CC := (.seq (.seq (.reg false [qm 33 8,qm 34 1,⟨some 35,.bin .leq 3 false false (.t 33) (.t 34),none⟩] []) (.cond (.t 35) .skip (.exit 4))) (.block 5 (.seq (.reg false [qm 36 0,qm 37 7,qm 38 7,qm 39 6,⟨some 40,.bin .add 3 false false
 (.t 38) (.t 39),none⟩,qm 41 8,qm 42 2,⟨some 43,.call (.c (.fn 324 [])) [.t 36,.t 37,.t 40,.t 41,.t 42],none⟩] []) (.seq (.reg false [qm 44 8,qm 7 44] []) (.reg false [qm 45 8,qm 46 6,⟨some 47,.bin .mul 3 true false (.c (.val (.int .i64 2))) (.t
 46),none⟩,⟨some 48,.bin .add 3 false false (.t 45) (.t 47),none⟩,qm 8 48] [])))))
def L302_2 : CC := (.seq (.seq (.reg false [qm 28 6,qm 29 1,qz 30 28 29] []) (.cond (.t 30) .skip (.exit 2))) (.block 3 (.seq (.reg false [qm 31 6,⟨some 32,.bin .mul 3 true false (.c (.val (.int .i64 2))) (.t 31),none⟩,qi 7 0,qm 8 32] []) (.seq
 (.block 4 (.loop L302_1)) (.seq (.seq (.reg false [qm 49 7,qm 50 6,⟨some 51,.bin .add 3 false false (.t 49) (.t 50),none⟩,qm 9 51] []) (.seq (.reg false [qm 52 9,qm 53 1,qz 54 52 53] []) (.cond (.t 54) (.reg false [qm 55 0,qm 56 7,qm 57 9,qm 58
 1,qm 59 2,⟨some 60,.call (.c (.fn 324 [])) [.t 55,.t 56,.t 57,.t 58,.t 59],none⟩] []) .skip))) (.reg false [qm 61 6,⟨some 62,.bin .mul 3 false true (.t 61) (.c (.val (.int .i64 2))),none⟩,qm 6 62] []))))))
def c302 : CF := ⟨.seq (.reg false [qi 6 20] []) (.seq (.reg false [qm 10 6,qi 7 0,qm 8 10] []) (.seq (.block 0 (.loop L302_0)) (.seq (.reg false [qm 23 0,qm 24 7,qm 25 1,qm 26 2,⟨some 27,.call (.c (.fn 323 [])) [.t 23,.t 24,.t 25,.t 26],none⟩] [])
 (.block 2 (.loop L302_2))))),[]⟩
def L321_0 : CC := (.seq (.reg false [qz 9 8 7] []) (.seq (.cond (.t 9) .skip (.exit 0)) (.seq (.block 1 (.seq (.reg false [qm 10 8,qm 5 10] []) (.seq (.reg false [qm 11 1,qm 12 0,qm 13 5,qx 14 12 13,ql 15 14,⟨some 16,.bin .eql 9 false false (.t 11)
 (.t 15),none⟩] []) (.cond (.t 16) (.seq (.reg false [qm 17 5,qm 4 17] []) .ret) .skip)))) (.reg false [qs 18 8,qm 8 18] []))))
def c321 : CF := ⟨.seq (.reg false [qi 4 0] []) (.seq (.seq (.reg false [qm 6 0,qe 7 6,qi 8 0] []) (.block 0 (.loop L321_0))) (.seq (.reg false [⟨some 4,.mv (.c (.val (.int .i64 (-1)))),none⟩] []) .ret)),[.tmp 4]⟩
def L323_0 : CC := (.seq (.seq (.reg true [qm 18 9,qm 19 1,⟨some 20,.bin .gtr 3 false false (.t 18) (.t 19),none⟩,qm 21 20,qmT 22 3 21,qmT 23 0 21,qmT 24 9 21,⟨some 25,.ias 8 (.t 23) (.t 24),some (21, true)⟩,⟨some 26,.ld 8 true (.t 25),some (21,
 true)⟩,qmT 27 0 21,qmT 28 9 21,⟨some 29,.bin .sub 3 false true (.t 28) (.c (.val (.int .i64 1))),some (21, true)⟩,⟨some 30,.ias 8 (.t 27) (.t 29),some (21, true)⟩,⟨some 31,.ld 8 true (.t 30),some (21, true)⟩,⟨some 32,.call (.t 22) [.t 26,.t
 31],some (21, true)⟩,⟨some 33,.bin .lss 3 false true (.t 32) (.c (.val (.int .i64 0))),some (21, true)⟩,qp 34 21 33] []) (.cond (.t 34) .skip (.exit 2))) (.seq (.block 3 (.reg true [qm 37 0,qm 38 9,qm 39 0,qm 40 9,⟨some 41,.bin .sub 3 false true
 (.t 40) (.c (.val (.int .i64 1))),none⟩,qm 42 0,qm 43 9,⟨some 44,.bin .sub 3 false true (.t 43) (.c (.val (.int .i64 1))),none⟩,⟨some 45,.ias 8 (.t 42) (.t 44),none⟩,⟨some 46,.ld 8 true (.t 45),none⟩,qm 47 0,qm 48 9,⟨some 49,.ias 8 (.t 47) (.t
 48),none⟩,⟨some 50,.ld 8 true (.t 49),none⟩,⟨some 51,.ias 8 (.t 37) (.t 38),none⟩,qw 8 51 46,⟨some 52,.ias 8 (.t 39) (.t 41),none⟩,qw 8 52 50] [])) (.reg false [qm 35 9,⟨some 36,.bin .sub 3 false true (.t 35) (.c (.val (.int .i64 1))),none⟩,qm 9 36] [])))
def L323_1 : CC := (.seq (.seq (.reg false [qm 12 8,qm 13 2,qz 14 12 13] []) (.cond (.t 14) .skip (.exit 0))) (.seq (.block 1 (.seq (.reg false [qm 17 8,qm 9 17] []) (.block 2 (.loop L323_0)))) (.reg false [qm 15 8,qs 16 15,qm 8 16] [])))
def c323 : CF := ⟨.seq (.reg false [qm 10 1,qs 11 10,qm 8 11] []) (.block 0 (.loop L323_1)),[]⟩
def tab (f : FuncId) : Option CF := (cond (Nat.blt f 118)  (cond (Nat.blt f 51)   (cond (Nat.blt f 26)    (cond (Nat.blt f 14)     (cond (Nat.blt f 8)      (cond (Nat.blt f 5)       (cond (Nat.blt f 4)        (cond (Nat.beq f 3) (some c3) none)
   (cond (Nat.beq f 4) (some c4) none))       (cond (Nat.blt f 6)        (cond (Nat.beq f 5) (some c5) none)        (cond (Nat.blt f 7)         (cond (Nat.beq f 6) (some c6) none)         (cond (Nat.beq f 7) (some c7) none))))      (cond (Nat.blt f
 11)       (cond (Nat.blt f 9)        (cond (Nat.beq f 8) (some c8) none)        (cond (Nat.blt f 10)         (cond (Nat.beq f 9) (some c9) none)         (cond (Nat.beq f 10) (some c10) none)))       (cond (Nat.blt f 12)        (cond (Nat.beq f 11)
 (some c11) none)        (cond (Nat.blt f 13)         (cond (Nat.beq f 12) (some c12) none)         (cond (Nat.beq f 13) (some c13) none)))))     (cond (Nat.blt f 19)      (cond (Nat.blt f 16)       (cond (Nat.blt f 15)        (cond (Nat.beq f 14)
 (some c14) none)        (cond (Nat.beq f 15) (some c15) none))       (cond (Nat.blt f 17)        (cond (Nat.beq f 16) (some c16) none)        (cond (Nat.blt f 18)         (cond (Nat.beq f 17) (some c17) none)         (cond (Nat.beq f 18) (some c18)
 none))))      (cond (Nat.blt f 22)       (cond (Nat.blt f 20)        (cond (Nat.beq f 19) (some c19) none)        (cond (Nat.blt f 21)         (cond (Nat.beq f 20) (some c20) none)         (cond (Nat.beq f 21) (some c21) none)))       (cond
 (Nat.blt f 23)        (cond (Nat.beq f 22) (some c22) none)        (cond (Nat.blt f 25)         (cond (Nat.beq f 23) (some c23) none)         (cond (Nat.beq f 25) (some c25) none))))))    (cond (Nat.blt f 37)     (cond (Nat.blt f 31)      (cond
 (Nat.blt f 28)       (cond (Nat.blt f 27)        (cond (Nat.beq f 26) (some c26) none)        (cond (Nat.beq f 27) (some c27) none))       (cond (Nat.blt f 29)        (cond (Nat.beq f 28) (some c28) none)        (cond (Nat.blt f 30)         (cond
 (Nat.beq f 29) (some c29) none)         (cond (Nat.beq f 30) (some c30) none))))      (cond (Nat.blt f 34)       (cond (Nat.blt f 32)        (cond (Nat.beq f 31) (some c31) none)        (cond (Nat.blt f 33)         (cond (Nat.beq f 32) (some c32)
 none)         (cond (Nat.beq f 33) (some c33) none)))       (cond (Nat.blt f 35)        (cond (Nat.beq f 34) (some c34) none)        (cond (Nat.blt f 36)         (cond (Nat.beq f 35) (some c35) none)         (cond (Nat.beq f 36) (some c36)
 none)))))     (cond (Nat.blt f 44)      (cond (Nat.blt f 39)       (cond (Nat.blt f 38)        (cond (Nat.beq f 37) (some c37) none)        (cond (Nat.beq f 38) (some c38) none))       (cond (Nat.blt f 40)        (cond (Nat.beq f 39) (some c39)
 none)        (cond (Nat.blt f 42)         (cond (Nat.beq f 40) (some c40) none)         (cond (Nat.beq f 42) (some c42) none))))      (cond (Nat.blt f 47)       (cond (Nat.blt f 45)        (cond (Nat.beq f 44) (some c44) none)        (cond (Nat.blt
 f 46)         (cond (Nat.beq f 45) (some c45) none)         (cond (Nat.beq f 46) (some c46) none)))       (cond (Nat.blt f 48)        (cond (Nat.beq f 47) (some c47) none)        (cond (Nat.blt f 49)         (cond (Nat.beq f 48) (some c48) none)
      (cond (Nat.beq f 49) (some c49) none)))))))   (cond (Nat.blt f 80)    (cond (Nat.blt f 69)     (cond (Nat.blt f 60)      (cond (Nat.blt f 57)       (cond (Nat.blt f 56)        (cond (Nat.beq f 51) (some c51) none)        (cond (Nat.beq f 56)
 (some c56) none))       (cond (Nat.blt f 58)        (cond (Nat.beq f 57) (some c57) none)        (cond (Nat.blt f 59)         (cond (Nat.beq f 58) (some c58) none)         (cond (Nat.beq f 59) (some c59) none))))      (cond (Nat.blt f 63)
 (cond (Nat.blt f 61)        (cond (Nat.beq f 60) (some c60) none)        (cond (Nat.blt f 62)         (cond (Nat.beq f 61) (some c61) none)         (cond (Nat.beq f 62) (some c62) none)))       (cond (Nat.blt f 64)        (cond (Nat.beq f 63) (some
 c63) none)        (cond (Nat.blt f 68)         (cond (Nat.beq f 64) (some c64) none)         (cond (Nat.beq f 68) (some c68) none)))))     (cond (Nat.blt f 74)      (cond (Nat.blt f 71)       (cond (Nat.blt f 70)        (cond (Nat.beq f 69) (some
 c69) none)        (cond (Nat.beq f 70) (some c70) none))       (cond (Nat.blt f 72)        (cond (Nat.beq f 71) (some c71) none)        (cond (Nat.blt f 73)         (cond (Nat.beq f 72) (some c72) none)         (cond (Nat.beq f 73) (some c73)
 none))))      (cond (Nat.blt f 77)       (cond (Nat.blt f 75)        (cond (Nat.beq f 74) (some c74) none)        (cond (Nat.blt f 76)         (cond (Nat.beq f 75) (some c75) none)         (cond (Nat.beq f 76) (some c76) none)))       (cond
 (Nat.blt f 78)        (cond (Nat.beq f 77) (some c77) none)        (cond (Nat.blt f 79)         (cond (Nat.beq f 78) (some c78) none)         (cond (Nat.beq f 79) (some c79) none))))))    (cond (Nat.blt f 102)     (cond (Nat.blt f 86)      (cond
 (Nat.blt f 83)       (cond (Nat.blt f 81)        (cond (Nat.beq f 80) (some c80) none)        (cond (Nat.beq f 81) (some c81) none))       (cond (Nat.blt f 84)        (cond (Nat.beq f 83) (some c83) none)        (cond (Nat.blt f 85)         (cond
 (Nat.beq f 84) (some c84) none)         (cond (Nat.beq f 85) (some c85) none))))      (cond (Nat.blt f 96)       (cond (Nat.blt f 88)        (cond (Nat.beq f 86) (some c86) none)        (cond (Nat.blt f 91)         (cond (Nat.beq f 88) (some c88)
 none)         (cond (Nat.beq f 91) (some c91) none)))       (cond (Nat.blt f 97)        (cond (Nat.beq f 96) (some c96) none)        (cond (Nat.blt f 101)         (cond (Nat.beq f 97) (some c97) none)         (cond (Nat.beq f 101) (some c101)
 none)))))     (cond (Nat.blt f 109)      (cond (Nat.blt f 106)       (cond (Nat.blt f 103)        (cond (Nat.beq f 102) (some c102) none)        (cond (Nat.blt f 105)         (cond (Nat.beq f 103) (some c103) none)         (cond (Nat.beq f 105)
 (some c105) none)))       (cond (Nat.blt f 107)        (cond (Nat.beq f 106) (some c106) none)        (cond (Nat.blt f 108)         (cond (Nat.beq f 107) (some c107) none)         (cond (Nat.beq f 108) (some c108) none))))      (cond (Nat.blt f
 115)       (cond (Nat.blt f 112)        (cond (Nat.beq f 109) (some c109) none)        (cond (Nat.blt f 114)         (cond (Nat.beq f 112) (some c112) none)         (cond (Nat.beq f 114) (some c114) none)))       (cond (Nat.blt f 116)        (cond
 (Nat.beq f 115) (some c115) none)        (cond (Nat.blt f 117)         (cond (Nat.beq f 116) (some c116) none)         (cond (Nat.beq f 117) (some c117) none))))))))  (cond (Nat.blt f 211)   (cond (Nat.blt f 160)    (cond (Nat.blt f 132)     (cond
 (Nat.blt f 124)      (cond (Nat.blt f 121)       (cond (Nat.blt f 119)        (cond (Nat.beq f 118) (some c118) none)        (cond (Nat.beq f 119) (some c119) none))       (cond (Nat.blt f 122)        (cond (Nat.beq f 121) (some c121) none)
 (cond (Nat.blt f 123)         (cond (Nat.beq f 122) (some c122) none)         (cond (Nat.beq f 123) (some c123) none))))      (cond (Nat.blt f 127)       (cond (Nat.blt f 125)        (cond (Nat.beq f 124) (some c124) none)        (cond (Nat.blt f
 126)         (cond (Nat.beq f 125) (some c125) none)         (cond (Nat.beq f 126) (some c126) none)))       (cond (Nat.blt f 128)        (cond (Nat.beq f 127) (some c127) none)        (cond (Nat.blt f 129)         (cond (Nat.beq f 128) (some c128)
 none)         (cond (Nat.beq f 129) (some c129) none)))))     (cond (Nat.blt f 143)      (cond (Nat.blt f 136)       (cond (Nat.blt f 133)        (cond (Nat.beq f 132) (some c132) none)        (cond (Nat.beq f 133) (some c133) none))       (cond
 (Nat.blt f 140)        (cond (Nat.beq f 136) (some c136) none)        (cond (Nat.blt f 141)         (cond (Nat.beq f 140) (some c140) none)         (cond (Nat.beq f 141) (some c141) none))))      (cond (Nat.blt f 154)       (cond (Nat.blt f 151)
     (cond (Nat.beq f 143) (some c143) none)        (cond (Nat.blt f 152)         (cond (Nat.beq f 151) (some c151) none)         (cond (Nat.beq f 152) (some c152) none)))       (cond (Nat.blt f 155)        (cond (Nat.beq f 154) (some c154) none)
     (cond (Nat.blt f 158)         (cond (Nat.beq f 155) (some c155) none)         (cond (Nat.beq f 158) (some c158) none))))))    (cond (Nat.blt f 173)     (cond (Nat.blt f 166)      (cond (Nat.blt f 162)       (cond (Nat.blt f 161)        (cond
 (Nat.beq f 160) (some c160) none)        (cond (Nat.beq f 161) (some c161) none))       (cond (Nat.blt f 164)        (cond (Nat.beq f 162) (some c162) none)        (cond (Nat.blt f 165)         (cond (Nat.beq f 164) (some c164) none)         (cond
 (Nat.beq f 165) (some c165) none))))      (cond (Nat.blt f 170)       (cond (Nat.blt f 167)        (cond (Nat.beq f 166) (some c166) none)        (cond (Nat.blt f 169)         (cond (Nat.beq f 167) (some c167) none)         (cond (Nat.beq f 169)
 (some c169) none)))       (cond (Nat.blt f 171)        (cond (Nat.beq f 170) (some c170) none)        (cond (Nat.blt f 172)         (cond (Nat.beq f 171) (some c171) none)         (cond (Nat.beq f 172) (some c172) none)))))     (cond (Nat.blt f
 184)      (cond (Nat.blt f 176)       (cond (Nat.blt f 174)        (cond (Nat.beq f 173) (some c173) none)        (cond (Nat.blt f 175)         (cond (Nat.beq f 174) (some c174) none)         (cond (Nat.beq f 175) (some c175) none)))       (cond
 (Nat.blt f 179)        (cond (Nat.beq f 176) (some c176) none)        (cond (Nat.blt f 180)         (cond (Nat.beq f 179) (some c179) none)         (cond (Nat.beq f 180) (some c180) none))))      (cond (Nat.blt f 204)       (cond (Nat.blt f 187)
     (cond (Nat.beq f 184) (some c184) none)        (cond (Nat.blt f 193)         (cond (Nat.beq f 187) (some c187) none)         (cond (Nat.beq f 193) (some c193) none)))       (cond (Nat.blt f 207)        (cond (Nat.beq f 204) (some c204) none)
     (cond (Nat.blt f 208)         (cond (Nat.beq f 207) (some c207) none)         (cond (Nat.beq f 208) (some c208) none)))))))   (cond (Nat.blt f 252)    (cond (Nat.blt f 225)     (cond (Nat.blt f 218)      (cond (Nat.blt f 215)       (cond
 (Nat.blt f 214)        (cond (Nat.beq f 211) (some c211) none)        (cond (Nat.beq f 214) (some c214) none))       (cond (Nat.blt f 216)        (cond (Nat.beq f 215) (some c215) none)        (cond (Nat.blt f 217)         (cond (Nat.beq f 216)
 (some c216) none)         (cond (Nat.beq f 217) (some c217) none))))      (cond (Nat.blt f 221)       (cond (Nat.blt f 219)        (cond (Nat.beq f 218) (some c218) none)        (cond (Nat.blt f 220)         (cond (Nat.beq f 219) (some c219) none)
        (cond (Nat.beq f 220) (some c220) none)))       (cond (Nat.blt f 223)        (cond (Nat.beq f 221) (some c221) none)        (cond (Nat.blt f 224)         (cond (Nat.beq f 223) (some c223) none)         (cond (Nat.beq f 224) (some c224)
 none)))))     (cond (Nat.blt f 233)      (cond (Nat.blt f 230)       (cond (Nat.blt f 229)        (cond (Nat.beq f 225) (some c225) none)        (cond (Nat.beq f 229) (some c229) none))       (cond (Nat.blt f 231)        (cond (Nat.beq f 230) (some
 c230) none)        (cond (Nat.blt f 232)         (cond (Nat.beq f 231) (some c231) none)         (cond (Nat.beq f 232) (some c232) none))))      (cond (Nat.blt f 242)       (cond (Nat.blt f 234)        (cond (Nat.beq f 233) (some c233) none)
 (cond (Nat.blt f 239)         (cond (Nat.beq f 234) (some c234) none)         (cond (Nat.beq f 239) (some c239) none)))       (cond (Nat.blt f 244)        (cond (Nat.beq f 242) (some c242) none)        (cond (Nat.blt f 245)         (cond (Nat.beq f
 244) (some c244) none)         (cond (Nat.beq f 245) (some c245) none))))))    (cond (Nat.blt f 271)     (cond (Nat.blt f 265)      (cond (Nat.blt f 258)       (cond (Nat.blt f 253)        (cond (Nat.beq f 252) (some c252) none)        (cond
 (Nat.beq f 253) (some c253) none))       (cond (Nat.blt f 263)        (cond (Nat.beq f 258) (some c258) none)        (cond (Nat.blt f 264)         (cond (Nat.beq f 263) (some c263) none)         (cond (Nat.beq f 264) (some c264) none))))      (cond
 (Nat.blt f 268)       (cond (Nat.blt f 266)        (cond (Nat.beq f 265) (some c265) none)        (cond (Nat.blt f 267)         (cond (Nat.beq f 266) (some c266) none)         (cond (Nat.beq f 267) (some c267) none)))       (cond (Nat.blt f 269)
     (cond (Nat.beq f 268) (some c268) none)        (cond (Nat.blt f 270)         (cond (Nat.beq f 269) (some c269) none)         (cond (Nat.beq f 270) (some c270) none)))))     (cond (Nat.blt f 277)      (cond (Nat.blt f 274)       (cond (Nat.blt f
 272)        (cond (Nat.beq f 271) (some c271) none)        (cond (Nat.blt f 273)         (cond (Nat.beq f 272) (some c272) none)         (cond (Nat.beq f 273) (some c273) none)))       (cond (Nat.blt f 275)        (cond (Nat.beq f 274) (some c274)
 none)        (cond (Nat.blt f 276)         (cond (Nat.beq f 275) (some c275) none)         (cond (Nat.beq f 276) (some c276) none))))      (cond (Nat.blt f 302)       (cond (Nat.blt f 300)        (cond (Nat.beq f 277) (some c277) none)        (cond
 (Nat.blt f 301)         (cond (Nat.beq f 300) (some c300) none)         (cond (Nat.beq f 301) (some c301) none)))       (cond (Nat.blt f 321)        (cond (Nat.beq f 302) (some c302) none)        (cond (Nat.blt f 323)         (cond (Nat.beq f 321)
 (some c321) none)         (cond (Nat.beq f 323) (some c323) none)))))))))
end Go.Evl.Zone

namespace Go.Evl.Zone
open Go Go.Evl
def splitL (c : UInt8) : List UInt8 → List (List UInt8)
  | [] => [[]]
  | b :: l => if b = c then [] :: splitL c l else match splitL c l with
    | x :: xs => (b :: x) :: xs
    | [] => [[b]]
def joinL (sep : List UInt8) : List (List UInt8) → List UInt8
  | [] => []
  | [x] => x
  | x :: y :: r => x ++ sep ++ joinL sep (y :: r)
def digL : Nat → Nat → List UInt8 → List UInt8
  | 0, _, acc => acc
  | f + 1, n, acc => if n < 10 then UInt8.ofNat (48 + n) :: acc else digL f (n / 10) (UInt8.ofNat (48 + n % 10) :: acc)
def itoaL (n : Int) : List UInt8 := if n < 0 then 45 :: digL 20 n.natAbs [] else digL 20 n.natAbs []
def strOf (l : List UInt8) : PV := .val (.string ⟨l.toArray⟩)
def strs : List (List PV) → Option (List (List UInt8))
  | [] => some []
  | [.val (.string s)] :: r => (strs r).map fun l => s.data.toList :: l
  | _ :: _ => none
def pSplit (args : List PV) (H : Heap) : Option ORes :=
  match args with
  | [.val (.string s), .val (.string p)] => match p.data.toList with
    | [c] => if s.size < 4294967281 then some ⟨.im ((splitL c s.data.toList).map fun x => [strOf x]) false, H, [], some []⟩ else none
    | _ => none
  | _ => none
def pJoin (args : List PV) (H : Heap) : Option ORes :=
  match args with
  | [.val _, _] => none
  | [x, .val (.string p)] => match elems H 1 x with
    | some (xs, is) => match strs xs with
      | some l => if l.length ≤ 140737488355328 ∧ (joinL p.data.toList l).length ≤ 140737488355328 then some ⟨strOf (joinL p.data.toList l), H, [], some is⟩ else none
      | none => none
    | none => none
  | _ => none
def pItoa (args : List PV) (H : Heap) : Option ORes :=
  match args with
  | [.val (.int .i64 n)] => if -9223372036854775808 ≤ n ∧ n ≤ 9223372036854775807 then some ⟨strOf (itoaL n), H, [], some []⟩ else none
  | _ => none
def pAtoi (args : List PV) (H : Heap) : Option ORes :=
  match args with
  | [.val (.string s)] => if s.size ≤ 281474976710656 then
      match Lib.atoiAll s.data.toList with
      | .ok v => some ⟨.tup [.val (.int .i64 v), .val .nilIface], H, [], some []⟩
      | .range => some ⟨.tup [.val (.int .i64 (Lib.atoiSat s.data.toList)), .ifc], H, [], some []⟩
      | _ => some ⟨.tup [.val (.int .i64 0), .ifc], H, [], some []⟩
    else none
  | _ => none
def pTrunc (args : List PV) (H : Heap) : Option ORes :=
  match args with
  | [.val (.float .f64 b)] => match FloatKind.f64.decode b with
    | .nan _ _ => none
    | d => some ⟨.val (.float .f64 (FloatKind.f64.encode (d.integral .zero))), H, [], some []⟩
  | _ => none
def pCompare (args : List PV) (H : Heap) : Option ORes :=
  match args with
  | [.val (.string a), .val (.string b)] => some ⟨.val (.int .i64 (Lib.compareBytes a.data.toList b.data.toList)), H, [], some []⟩
  | _ => none
def isStr : PV → Bool
  | .val (.string _) => true
  | _ => false
def pClone (k : Nat) (args : List PV) (H : Heap) : Option ORes :=
  match args with
  | [x] => if isStr x then none else match elems H k x with
    | some (ys, is) => if ys.length = 0 then some ⟨.im [] true, H.grow 1, [], some is⟩
      else if ys.length ≤ most then some ⟨.sl H.n k ys.length 0 ys.length, (H.grow 1).put H.n (.row k ys true), [H.n], some is⟩ else none
    | none => none
  | _ => none
def pCloneF (k : Nat) (args : List PV) (H : Heap) : Option ORes :=
  match args with
  | [.im xs fl] => if allLen k xs ∧ xs.length ≤ most then match plainss xs with
      | some ys => some ⟨.im ys false, H, [], some []⟩
      | none => none
    else none
  | _ => none
def pGrow (k : Nat) (args : List PV) (H : Heap) : Option ORes :=
  match args with
  | [.im [] true, .val (.int .i64 n)] => if n = 0 then some ⟨.im [] true, H.grow 1, [], some []⟩
    else if 0 < n ∧ n ≤ most then some ⟨.sl H.n k 0 0 0, (H.grow 1).put H.n (.row k [] true), [H.n], some []⟩ else none
  | _ => none
def pIns (k : Nat) (args : List PV) (H : Heap) : Option ORes :=
  match args with
  | [x, .val (.int .i64 i), .im [y] true] => if y.length = k ∧ 0 < k then
      match x with
      | .im [] true => if i = 0 then some ⟨.sl H.n k 1 0 1, (H.grow 1).put H.n (.row k [y] true), [H.n], none⟩ else none
      | .sl r k1 g 0 n => match H.at_ r with
        | .row k4 xs true => if k = k1 ∧ k = k4 ∧ n = g ∧ xs.length = n ∧ 0 ≤ i ∧ i ≤ n ∧ n + 1 ≤ most then
            some ⟨.sl r k (n + 1) 0 (n + 1), (H.grow 1).put r (.row k (xs.take i.toNat ++ y :: xs.drop i.toNat) true), [r], none⟩ else none
        | _ => none
      | _ => none
    else none
  | _ => none
def insB (a : List UInt8) : List (List UInt8) → List (List UInt8)
  | [] => [a]
  | b :: l => if Lib.compareBytes b a < 0 then b :: insB a l else a :: b :: l
def sortB : List (List UInt8) → List (List UInt8)
  | [] => []
  | a :: l => insB a (sortB l)
def insZ (a : Int) : List Int → List Int
  | [] => [a]
  | b :: l => if b < a then b :: insZ a l else a :: b :: l
def sortZ : List Int → List Int
  | [] => []
  | a :: l => insZ a (sortZ l)
def ints : List (List PV) → Option (List Int)
  | [] => some []
  | [.val (.int .i64 n)] :: r => (ints r).map fun l => n :: l
  | _ :: _ => none
def sortRow (f : List (List PV) → Option (List (List PV))) (x : PV) (H : Heap) : Option ORes :=
  match x with
  | .im [] _ => some ⟨uv, H.grow 1, [], none⟩
  | .sl r 1 g 0 n => match H.at_ r with
    | .row 1 xs true => if g = n ∧ xs.length = n ∧ n ≤ most then match f xs with
        | some ys => some ⟨uv, (H.grow 1).put r (.row 1 ys true), [r], none⟩
        | none => none
      else none
    | _ => none
  | _ => none
def pSortS (f : FuncId) (args : List PV) (H : Heap) : Option ORes :=
  match args with
  | [x, .fn g []] => if g = f then sortRow (fun xs => (strs xs).map fun l => (sortB l).map fun s => [strOf s]) x H else none
  | _ => none
def pSortI (args : List PV) (H : Heap) : Option ORes :=
  match args with
  | [x] => sortRow (fun xs => (ints xs).map fun l => (sortZ l).map fun n => [.val (.int .i64 n)]) x H
  | _ => none
def frozF : FuncId → FuncId → Bool
  | 56, 98 => true
  | 56, 99 => true
  | 56, 89 => true
  | 56, 100 => true
  | 53, 89 => true
  | 151, 144 => true
  | 244, 144 => true
  | 193, 144 => true
  | 92, 144 => true
  | 101, 98 => true
  | 57, 98 => true
  | 71, 41 => true
  | 43, 41 => true
  | 19, 41 => true
  | _, _ => false
def prim (c : FuncId) : FuncId → Option (List PV → Heap → Option ORes)
  | 299 => some pSplit
  | 177 => some pJoin
  | 212 => some pTrunc
  | 194 => some pCompare
  | 41 => cond (frozF c 41) (some (pCloneF 1)) (some (pClone 1))
  | 111 => some (pClone 1)
  | 89 => cond (frozF c 89) (some (pCloneF 3)) (some (pClone 3))
  | 98 => cond (frozF c 98) (some (pCloneF 2)) (some (pClone 2))
  | 99 => cond (frozF c 99) (some (pCloneF 8)) (some (pClone 8))
  | 100 => cond (frozF c 100) (some (pCloneF 1)) (some (pClone 1))
  | 203 => some (pClone 3)
  | 153 => some (pClone 2)
  | 144 => cond (frozF c 144) (some (pCloneF 1)) (some (pClone 1))
  | 138 => some (pIns 8)
  | 205 => some (pIns 3)
  | 159 => some (pIns 2)
  | 104 => some (pIns 2)
  | 168 => some (pSortS 143)
  | 243 => some pSortI
  | 226 => some (pGrow 1)
  | 292 => some (pGrow 1)
  | _ => none
def inlF : FuncId → Bool
  | 233 => true
  | 276 => true
  | 234 => true
  | 263 => true
  | 215 => true
  | 264 => true
  | 220 => true
  | 216 => true
  | 273 => true
  | 217 => true
  | 267 => true
  | 269 => true
  | 218 => true
  | 275 => true
  | 301 => true
  | 169 => true
  | 245 => true
  | 186 => true
  | 246 => true
  | 185 => true
  | 182 => true
  | 240 => true
  | 181 => true
  | 222 => true
  | 252 => true
  | 221 => true
  | 45 => true
  | 46 => true
  | 223 => true
  | 225 => true
  | 302 => true
  | 323 => true
  | _ => false
def keepF : FuncId → FuncId → Bool
  | 127, 123 => true
  | 164, 214 => true
  | 49, 71 => true
  | 43, 71 => true
  | 42, 71 => true
  | _, 265 => true
  | _, 266 => true
  | _, 298 => true
  | _, 219 => true
  | _, 268 => true
  | _, 270 => true
  | _, 271 => true
  | _, 274 => true
  | _, 151 => true
  | _, 152 => true
  | _, 101 => true
  | _, 167 => true
  | _, 242 => true
  | _, 70 => true
  | _, 224 => true
  | _, 19 => true
  | _, 22 => true
  | _, 25 => true
  | _, 44 => true
  | _, 23 => true
  | _, 24 => true
  | _, 20 => true
  | _, _ => false
def howF (f g : FuncId) : How := if inlF g then .inl else if keepF f g then .keep else .own
def env (P : Program) : Env := ⟨P, howF, tab, prim⟩
end Go.Evl.Zone
