/- The evaluator's texts DTab to ZG7, joined. -/
import Derived.Test.YtmhcmcpijmogfaaGreatDoorEv2
import Derived.Lib.AtoiAll
import Derived.Lib.Bytealg
import Derived.Laws.BitsLemmas
set_option linter.all false
set_option linter.deprecated false
set_option linter.unusedVariables false
set_option linter.unusedSimpArgs false
set_option linter.unnecessarySimpa false
set_option maxRecDepth 100000
namespace Go.Evl.Zone
open Go Go.Evl
@[reducible] def qm (d : Nat) (a : Nat) : CI := ⟨some d, .mv (.t a), none⟩
@[reducible] def qmT (d : Nat) (a : Nat) (g : Nat) : CI := ⟨some d, .mv (.t a), some (g, true)⟩
@[reducible] def qmF (d : Nat) (a : Nat) (g : Nat) : CI := ⟨some d, .mv (.t a), some (g, false)⟩
@[reducible] def ql (d : Nat) (a : Nat) : CI := ⟨some d, .ld 1 false (.t a), none⟩
@[reducible] def qlT (d : Nat) (a : Nat) (g : Nat) : CI := ⟨some d, .ld 1 false (.t a), some (g, true)⟩
@[reducible] def qlF (d : Nat) (a : Nat) (g : Nat) : CI := ⟨some d, .ld 1 false (.t a), some (g, false)⟩
@[reducible] def qa (d : Nat) (a : Nat) (b : Nat) : CI := ⟨some d, .fad a (.t b), none⟩
@[reducible] def qaT (d : Nat) (a : Nat) (b : Nat) (g : Nat) : CI := ⟨some d, .fad a (.t b), some (g, true)⟩
@[reducible] def qaF (d : Nat) (a : Nat) (b : Nat) (g : Nat) : CI := ⟨some d, .fad a (.t b), some (g, false)⟩
@[reducible] def qf (d : Nat) : CI := ⟨some d, .mv (.c (.val (.bool false))), none⟩
@[reducible] def qt (d : Nat) : CI := ⟨some d, .mv (.c (.val (.bool true))), none⟩
@[reducible] def qi (d : Nat) (a : Int) : CI := ⟨some d, .mv (.c (.val (.int .i64 a))), none⟩
@[reducible] def qp (d : Nat) (a : Nat) (b : Nat) : CI := ⟨some d, .pick (.t a) (.t b) (.c (.val (.bool false))), none⟩
@[reducible] def qpF (d : Nat) (a : Nat) (b : Nat) (g : Nat) : CI := ⟨some d, .pick (.t a) (.t b) (.c (.val (.bool false))), some (g, false)⟩
@[reducible] def qo (d : Nat) (a : Nat) (b : Nat) : CI := ⟨some d, .pick (.t a) (.c (.val (.bool true))) (.t b), none⟩
@[reducible] def qn (d : Nat) (a : Nat) : CI := ⟨some d, .nck (.t a), none⟩
@[reducible] def qnT (d : Nat) (a : Nat) (g : Nat) : CI := ⟨some d, .nck (.t a), some (g, true)⟩
@[reducible] def qc (d : Nat) (a : Nat) (b : Nat) : CI := ⟨some d, .call (.c (.fn a [])) [.t b], none⟩
@[reducible] def qcT (d : Nat) (a : Nat) (b : Nat) (g : Nat) : CI := ⟨some d, .call (.c (.fn a [])) [.t b], some (g, true)⟩
@[reducible] def qcF (d : Nat) (a : Nat) (b : Nat) (g : Nat) : CI := ⟨some d, .call (.c (.fn a [])) [.t b], some (g, false)⟩
@[reducible] def qe (d : Nat) (a : Nat) : CI := ⟨some d, .len false (.t a), none⟩
@[reducible] def qeT (d : Nat) (a : Nat) (g : Nat) : CI := ⟨some d, .len false (.t a), some (g, true)⟩
@[reducible] def qeF (d : Nat) (a : Nat) (g : Nat) : CI := ⟨some d, .len false (.t a), some (g, false)⟩
@[reducible] def qs (d : Nat) (a : Nat) : CI := ⟨some d, .bin .add 3 false true (.t a) (.c (.val (.int .i64 1))), none⟩
@[reducible] def qq (d : Nat) (a : Nat) (b : Int) : CI := ⟨some d, .bin .eql 3 false true (.t a) (.c (.val (.int .i64 b))), none⟩
@[reducible] def qqT (d : Nat) (a : Nat) (b : Int) (g : Nat) : CI := ⟨some d, .bin .eql 3 false true (.t a) (.c (.val (.int .i64 b))), some (g, true)⟩
@[reducible] def qqF (d : Nat) (a : Nat) (b : Int) (g : Nat) : CI := ⟨some d, .bin .eql 3 false true (.t a) (.c (.val (.int .i64 b))), some (g, false)⟩
@[reducible] def qz (d : Nat) (a : Nat) (b : Nat) : CI := ⟨some d, .bin .lss 3 false false (.t a) (.t b), none⟩
@[reducible] def qx (d : Nat) (a : Nat) (b : Nat) : CI := ⟨some d, .ias 1 (.t a) (.t b), none⟩
@[reducible] def qd (d : Nat) (a : Nat) (b : Nat) (c : Int) : CI := ⟨some d, .call (.c (.fn a [])) [.t b,.c (.val (.int .i64 c))], none⟩
@[reducible] def qb (d : Nat) (a : Nat) : CI := ⟨some d, .un .not (.t a), none⟩
@[reducible] def qbT (d : Nat) (a : Nat) (g : Nat) : CI := ⟨some d, .un .not (.t a), some (g, true)⟩
@[reducible] def qbF (d : Nat) (a : Nat) (g : Nat) : CI := ⟨some d, .un .not (.t a), some (g, false)⟩
@[reducible] def qj (d : Nat) : CI := ⟨some d, .mv (.c (.im [] true)), none⟩
@[reducible] def qk (d : Nat) (a : Nat) (b : Nat) (c : Nat) : CI := ⟨some d, .call (.c (.fn a [])) [.t b,.t c], none⟩
@[reducible] def qkT (d : Nat) (a : Nat) (b : Nat) (c : Nat) (g : Nat) : CI := ⟨some d, .call (.c (.fn a [])) [.t b,.t c], some (g, true)⟩
@[reducible] def qw (n a b : Nat) : CI := ⟨none, .st n (.t a) (.t b), none⟩
def c4 : CF := ⟨.seq (.reg false [qf 2] []) (.seq (.reg false [qm 8 0,qm 9 0,qe 10 9,⟨some 11,.fun_ .min #[3,3] 3 [.t 10,.c (.val (.int .i64 2000))],none⟩,⟨some 12,.slc 1 (.t 8) none (some (.t 11)) none,none⟩,qm 0 12] []) (.seq (.reg false [⟨some
 13,.bsl 1 0 [] [],none⟩,qm 14 0,⟨some 15,.app 1 (.t 13) (.t 14),none⟩,qm 3 15] []) (.seq (.reg false [qm 17 3,qc 18 10 17,qm 16 18,⟨some 19,.ext (.t 16) 0,none⟩,⟨some 20,.ext (.t 16) 1,none⟩,⟨some 4,.alloc [.val (.int .i64 0),.val (.string
 ⟨#[]⟩),.val (.string ⟨#[]⟩),.im [] true,.val (.int .i64 0),.im [] true,.im [] true,.im [] true,.im [] true,.im [] true,.val (.bool false),.im [] true],none⟩,qw 12 4 19,qm 5 20] []) (.seq (.reg false [qm 22 0,qc 23 18 22,qm 21 23,⟨some 24,.ext (.t
 21) 0,none⟩,⟨some 25,.ext (.t 21) 1,none⟩,⟨some 6,.alloc [.val (.int .i64 0),.val (.string ⟨#[]⟩),.val (.string ⟨#[]⟩),.im [] true,.val (.int .i64 0),.im [] true,.im [] true,.im [] true,.im [] true,.im [] true,.val (.bool false),.im []
 true],none⟩,qw 12 6 24,qm 7 25] []) (.seq (.seq (.reg true [⟨some 26,.call (.c (.fn 11 [])) [],none⟩,qb 27 26,qm 28 27,qmF 29 5 28,qmF 30 7 28,⟨some 31,.bin .neq 3 false false (.t 29) (.t 30),some (28, false)⟩,qo 32 28 31,qm 33 32,⟨some 34,.ld 12
 true (.t 4),some (33, false)⟩,qcF 35 16 34 33,⟨some 36,.ld 12 true (.t 6),some (33, false)⟩,⟨some 37,.call (.c (.fn 15 [])) [.t 35,.t 36],some (33, false)⟩,qbF 38 37 33,qo 39 33 38,qm 40 39,qmF 41 3 40,qmF 42 0 40,⟨some 43,.call (.c (.fn 12 []))
 [.t 41,.t 42],some (40, false)⟩,qbF 44 43 40,qo 45 40 44] [(9, 10)]) (.cond (.t 45) (.seq (.reg false [qf 2] []) .ret) .skip)) (.seq (.reg false [qm 46 5,⟨some 47,.bin .neq 47 false true (.t 46) (.c (.val (.int .i64 0))),none⟩,qm 48 47,⟨some 49,.ld
 12 true (.t 4),some (48, false)⟩,qcF 50 17 49 48,qmF 51 50 48,⟨some 52,.ld 12 true (.t 4),some (51, true)⟩,qcT 53 9 52 51,qmT 54 0 51,qkT 55 12 53 54 51,qpF 56 51 55 48,qo 57 48 56,qm 2 57] []) .ret)))))),[.tmp 2]⟩
def L9_0 : CC := (.seq (.reg false [qz 51 50 49] []) (.seq (.cond (.t 51) .skip (.exit 0)) (.seq (.block 1 (.seq (.reg false [⟨some 52,.ias 8 (.t 48) (.t 50),none⟩,⟨some 53,.ld 8 true (.t 52),none⟩,⟨some 5,.alloc [.val (.int .i64 0),.val (.string
 ⟨#[]⟩),.val (.int .i64 0),.val (.int .i64 0),.val (.bool false),.val (.complex .f64 0 0),.val (.string ⟨#[]⟩),.val (.bool false)],none⟩,qw 8 5 53] []) (.reg false [qm 54 3,⟨some 55,.ld 8 true (.t 5),none⟩,qk 56 40 54 55,qm 3 56] []))) (.reg false
 [qs 57 50,qm 50 57] []))))
def c9 : CF := ⟨.seq (.reg false [⟨some 1,.box (.t 0),none⟩,qj 2] []) (.seq (.seq (.reg false [⟨some 6,.ld 12 true (.t 1),none⟩,qc 7 17 6,qb 8 7] []) (.cond (.t 8) (.seq (.reg false [qj 2] []) .ret) .skip)) (.seq (.reg true [qa 9 0 1,ql 10 9,⟨some
 11,.call (.c (.fn 34 [])) [.c (.im [] true),.t 10],none⟩,qa 12 1 1,ql 13 12,qk 14 33 11 13,qa 15 2 1,ql 16 15,qk 17 33 14 16,qm 3 17] [(2, 4),(2, 7),(5, 7)]) (.seq (.seq (.reg false [qa 18 0 1,ql 19 18,qq 20 19 3] []) (.cond (.t 20) (.seq (.reg
 false [qm 21 3,qa 22 11 1,ql 23 22,qk 24 35 21 23,qm 2 24] []) .ret) .skip)) (.seq (.reg true [qm 25 3,qa 26 3 1,ql 27 26,qk 28 37 25 27,qa 29 4 1,ql 30 29,qk 31 34 28 30,⟨some 32,.ld 12 true (.t 1),none⟩,qk 33 36 31 32,qm 3 33] [(3, 5),(3, 7),(6,
 7)]) (.seq (.seq (.reg false [qa 34 0 1,ql 35 34,qq 36 35 1] []) (.cond (.t 36) (.reg false [qm 37 3,qa 38 8 1,ql 39 38,qc 40 39 39,qk 41 38 37 40,qm 3 41] []) .skip)) (.seq (.reg false [qm 42 3,qa 43 9 1,ql 44 43,qe 45 44,qk 46 34 42 45,qm 3 46]
 []) (.seq (.seq (.reg false [qa 47 9 1,ql 48 47,qe 49 48,qi 50 0] []) (.block 0 (.loop L9_0))) (.seq (.block 2 (.seq (.reg false [qa 59 0 1,ql 60 59,qq 61 60 2,qm 62 61,qaT 63 10 1 62,qlT 64 63 62,qp 65 62 64,qm 58 65] []) (.cond (.t 58) (.seq
 (.reg false [qm 66 3,qd 67 34 66 1,qm 2 67] []) .ret) (.seq (.reg false [qa 69 0 1,ql 70 69,qq 71 70 2,qm 68 71] []) (.cond (.t 68) (.seq (.reg false [qm 72 3,qd 73 34 72 0,qm 2 73] []) .ret) .skip))))) (.seq (.reg false [qm 74 3,qm 2 74] [])
 .ret))))))))),[.tmp 2]⟩
def c10 : CF := ⟨.seq (.reg false [⟨some 2,.alloc [.val (.int .i64 0),.val (.string ⟨#[]⟩),.val (.string ⟨#[]⟩),.im [] true,.val (.int .i64 0),.im [] true,.im [] true,.im [] true,.im [] true,.im [] true,.val (.bool false),.im [] true],none⟩,qi 3 0]
 []) (.seq (.reg false [qm 6 0,qc 7 41 6,⟨some 8,.build [.val (.pointer none),.val (.bool false)] [(0, 1, (.t 7))],none⟩,⟨some 9,.box (.t 8),none⟩,qm 4 9] []) (.seq (.reg false [qm 10 4,qn 11 10,qa 12 0 11,ql 13 12,qd 14 42 13 3,⟨some 15,.build
 [.val (.int .i64 0),.val (.string ⟨#[]⟩),.val (.string ⟨#[]⟩),.im [] true,.val (.int .i64 0),.im [] true,.im [] true,.im [] true,.im [] true,.im [] true,.val (.bool false),.im [] true] [(0, 1, (.t 14))],none⟩,⟨some 5,.alloc [.val (.int .i64 0),.val
 (.string ⟨#[]⟩),.val (.string ⟨#[]⟩),.im [] true,.val (.int .i64 0),.im [] true,.im [] true,.im [] true,.im [] true,.im [] true,.val (.bool false),.im [] true],none⟩,qw 12 5 15] []) (.seq (.reg false [qm 16 4,qa 17 0 5,ql 18 17,qq 19 18 0,qm 20
 19,qmT 21 4 20,qnT 22 21 20,qaT 23 0 22 20,qlT 24 23 20,qcT 25 43 24 20,⟨some 26,.bin .eql 47 false true (.t 25) (.c (.val (.int .i64 0))),some (20, true)⟩,qp 27 20 26,qn 28 16,qa 29 1 28,qw 1 29 27] []) (.seq (.seq (.reg false [qm 30 4,qn 31 30,qa
 32 1 31,ql 33 32,qb 34 33] []) (.cond (.t 34) (.seq (.reg false [qm 35 4,qc 36 44 35,qa 37 1 5,qw 1 37 36] []) (.seq (.reg false [qm 38 4,qc 39 44 38,qa 40 2 5,qw 1 40 39] []) (.seq (.reg false [qa 41 0 5,ql 42 41,qq 43 42 3] []) (.cond (.t 43)
 (.reg false [qm 44 4,qc 45 45 44,qa 46 11 5,qw 1 46 45] []) (.reg false [qm 47 4,qk 48 46 47 5] []))))) .skip)) (.seq (.block 0 (.seq (.reg false [qm 50 4,qn 51 50,qa 52 1 51,ql 53 52,qm 49 53] []) (.cond (.t 49) (.seq (.reg false [⟨some 54,.build
 [.val (.int .i64 0),.val (.string ⟨#[]⟩),.val (.string ⟨#[]⟩),.im [] true,.val (.int .i64 0),.im [] true,.im [] true,.im [] true,.im [] true,.im [] true,.val (.bool false),.im [] true] [],none⟩,qw 12 2 54,qi 3 3] []) .ret) (.seq (.reg false [qm 56
 4,qn 57 56,qa 58 0 57,ql 59 58,qc 60 47 59,⟨some 61,.bin .neq 47 false true (.t 60) (.c (.val (.int .i64 0))),none⟩,qm 55 61] []) (.cond (.t 55) (.seq (.reg false [⟨some 62,.build [.val (.int .i64 0),.val (.string ⟨#[]⟩),.val (.string ⟨#[]⟩),.im []
 true,.val (.int .i64 0),.im [] true,.im [] true,.im [] true,.im [] true,.im [] true,.val (.bool false),.im [] true] [],none⟩,qm 63 4,qn 64 63,qa 65 0 64,ql 66 65,qc 67 47 66,qw 12 2 62,qm 3 67] []) .ret) (.seq (.reg false [⟨some 69,.ld 12 true (.t
 5),none⟩,qc 70 17 69,qb 71 70,qm 68 71] []) (.cond (.t 68) (.seq (.reg false [⟨some 72,.build [.val (.int .i64 0),.val (.string ⟨#[]⟩),.val (.string ⟨#[]⟩),.im [] true,.val (.int .i64 0),.im [] true,.im [] true,.im [] true,.im [] true,.im []
 true,.val (.bool false),.im [] true] [],none⟩,qw 12 2 72,qi 3 3] []) .ret) .skip))))))) (.seq (.reg false [⟨some 73,.ld 12 true (.t 5),none⟩,qw 12 2 73,qi 3 0] []) .ret)))))),[.cell 2 12 true,.tmp 3]⟩
def c11 : CF := ⟨.seq (.reg false [qf 0] []) (.seq (.reg false [⟨some 7,.build [.val (.int .i64 0),.val (.string ⟨#[]⟩),.val (.string ⟨#[]⟩),.im [] true,.val (.int .i64 0),.im [] true,.im [] true,.im [] true,.im [] true,.im [] true,.val (.bool
 false),.im [] true] [(0, 1, (.c (.val (.int .i64 3)))),(1, 1, (.c (.val (.string ⟨#[48]⟩)))),(2, 1, (.c (.val (.string ⟨#[48,49]⟩))))],none⟩,⟨some 1,.alloc [.val (.int .i64 0),.val (.string ⟨#[]⟩),.val (.string ⟨#[]⟩),.im [] true,.val (.int .i64
 0),.im [] true,.im [] true,.im [] true,.im [] true,.im [] true,.val (.bool false),.im [] true],none⟩,qw 12 1 7] []) (.seq (.reg false [⟨some 8,.ld 12 true (.t 1),none⟩,qc 9 9 8,qm 2 9] []) (.seq (.reg false [qm 11 2,qc 12 10 11,qm 10 12,⟨some
 13,.ext (.t 10) 0,none⟩,⟨some 14,.ext (.t 10) 1,none⟩,⟨some 3,.alloc [.val (.int .i64 0),.val (.string ⟨#[]⟩),.val (.string ⟨#[]⟩),.im [] true,.val (.int .i64 0),.im [] true,.im [] true,.im [] true,.im [] true,.im [] true,.val (.bool false),.im []
 true],none⟩,qw 12 3 13,qm 4 14] []) (.seq (.reg false [⟨some 16,.bsl 1 1 [.val (.int .u8 0)] [(0, 1, (.c (.val (.int .u8 0))))],none⟩,qc 17 10 16,qm 15 17,⟨some 18,.ext (.t 15) 0,none⟩,⟨some 19,.ext (.t 15) 1,none⟩,⟨some 5,.alloc [.val (.int .i64
 0),.val (.string ⟨#[]⟩),.val (.string ⟨#[]⟩),.im [] true,.val (.int .i64 0),.im [] true,.im [] true,.im [] true,.im [] true,.im [] true,.val (.bool false),.im [] true],none⟩,qw 12 5 18,qm 6 19] []) (.seq (.reg false [qm 20 2,⟨some 21,.b2s (.t
 20),none⟩,⟨some 22,.bin .eql 9 false true (.t 21) (.c (.val (.string ⟨#[3,1,48,2,48,49,0]⟩))),none⟩,qm 23 22,qmT 24 4 23,⟨some 25,.bin .eql 47 false true (.t 24) (.c (.val (.int .i64 0))),some (23, true)⟩,qp 26 23 25,qm 27 26,⟨some 28,.ld 12 true
 (.t 1),some (27, true)⟩,⟨some 29,.ld 12 true (.t 3),some (27, true)⟩,qkT 30 14 28 29 27,qp 31 27 30,qm 32 31,⟨some 33,.ld 12 true (.t 1),some (32, true)⟩,qcT 34 17 33 32,qp 35 32 34,qm 36 35,qmT 37 6 36,⟨some 38,.bin .eql 47 false true (.t 37) (.c
 (.val (.int .i64 3))),some (36, true)⟩,qp 39 36 38,qm 0 39] []) .ret))))),[.tmp 0]⟩
def c12 : CF := ⟨.seq (.reg false [qf 4] []) (.seq (.reg false [qm 5 0,⟨some 6,.b2s (.t 5),none⟩,qm 7 1,⟨some 8,.b2s (.t 7),none⟩,⟨some 9,.bin .eql 9 false false (.t 6) (.t 8),none⟩,qm 4 9] []) .ret),[.tmp 4]⟩
def c14 : CF := ⟨.seq (.reg false [⟨some 2,.box (.t 0),none⟩,⟨some 3,.box (.t 1),none⟩,qf 4] []) (.seq (.reg false [qa 5 0 2,ql 6 5,qa 7 0 3,ql 8 7,⟨some 9,.bin .eql 3 false false (.t 6) (.t 8),none⟩,qm 10 9,qaT 11 1 2 10,qlT 12 11 10,qaT 13 1 3
 10,qlT 14 13 10,⟨some 15,.bin .eql 31 false false (.t 12) (.t 14),some (10, true)⟩,qp 16 10 15,qm 17 16,qaT 18 2 2 17,qlT 19 18 17,qaT 20 2 3 17,qlT 21 20 17,⟨some 22,.bin .eql 31 false false (.t 19) (.t 21),some (17, true)⟩,qp 23 17 22,qm 24
 23,qaT 25 4 2 24,qlT 26 25 24,qaT 27 4 3 24,qlT 28 27 24,⟨some 29,.bin .eql 3 false false (.t 26) (.t 28),some (24, true)⟩,qp 30 24 29,qm 31 30,qaT 32 10 2 31,qlT 33 32 31,qaT 34 10 3 31,qlT 35 34 31,⟨some 36,.bin .eql 4 false false (.t 33) (.t
 35),some (31, true)⟩,qp 37 31 36,qm 38 37,qaT 39 3 2 38,qlT 40 39 38,qaT 41 3 3 38,qlT 42 41 38,qkT 43 54 40 42 38,qp 44 38 43,qm 45 44,qaT 46 5 2 45,qlT 47 46 45,qaT 48 5 3 45,qlT 49 48 45,qkT 50 55 47 49 45,qp 51 45 50,qm 52 51,qaT 53 6 2 52,qlT
 54 53 52,qaT 55 6 3 52,qlT 56 55 52,qkT 57 56 54 56 52,qp 58 52 57,qm 59 58,qaT 60 7 2 59,qlT 61 60 59,qaT 62 7 3 59,qlT 63 62 59,qkT 64 57 61 63 59,qp 65 59 64,qm 66 65,qaT 67 8 2 66,qlT 68 67 66,qaT 69 8 3 66,qlT 70 69 66,qkT 71 58 68 70 66,qp 72
 66 71,qm 73 72,qaT 74 9 2 73,qlT 75 74 73,qaT 76 9 3 73,qlT 77 76 73,qkT 78 59 75 77 73,qp 79 73 78,qm 80 79,qaT 81 11 2 80,qlT 82 81 80,qaT 83 11 3 80,qlT 84 83 80,qkT 85 56 82 84 80,qp 86 80 85,qm 4 86] []) .ret),[.tmp 4]⟩
def c15 : CF := ⟨.seq (.reg false [⟨some 2,.box (.t 0),none⟩,⟨some 3,.box (.t 1),none⟩,qf 4] []) (.seq (.reg false [qa 5 0 2,ql 6 5,qa 7 0 3,ql 8 7,⟨some 9,.bin .eql 3 false false (.t 6) (.t 8),none⟩,qm 10 9,qaT 11 1 2 10,qlT 12 11 10,qaT 13 1 3
 10,qlT 14 13 10,⟨some 15,.bin .eql 9 false false (.t 12) (.t 14),some (10, true)⟩,qp 16 10 15,qm 17 16,qaT 18 2 2 17,qlT 19 18 17,qaT 20 2 3 17,qlT 21 20 17,⟨some 22,.bin .eql 9 false false (.t 19) (.t 21),some (17, true)⟩,qp 23 17 22,qm 24 23,qaT
 25 4 2 24,qlT 26 25 24,qaT 27 4 3 24,qlT 28 27 24,⟨some 29,.bin .eql 3 false false (.t 26) (.t 28),some (24, true)⟩,qp 30 24 29,qm 31 30,qaT 32 10 2 31,qlT 33 32 31,qaT 34 10 3 31,qlT 35 34 31,⟨some 36,.bin .eql 4 false false (.t 33) (.t 35),some
 (31, true)⟩,qp 37 31 36,qm 38 37,qaT 39 3 2 38,qlT 40 39 38,qaT 41 3 3 38,qlT 42 41 38,qkT 43 60 40 42 38,qp 44 38 43,qm 45 44,qaT 46 5 2 45,qlT 47 46 45,qaT 48 5 3 45,qlT 49 48 45,qkT 50 61 47 49 45,qp 51 45 50,qm 52 51,qaT 53 6 2 52,qlT 54 53
 52,qaT 55 6 3 52,qlT 56 55 52,qkT 57 62 54 56 52,qp 58 52 57,qm 59 58,qaT 60 7 2 59,qlT 61 60 59,qaT 62 7 3 59,qlT 63 62 59,qkT 64 63 61 63 59,qp 65 59 64,qm 66 65,qaT 67 8 2 66,qlT 68 67 66,qaT 69 8 3 66,qlT 70 69 66,qkT 71 64 68 70 66,qp 72 66
 71,qm 73 72,qaT 74 9 2 73,qlT 75 74 73,qaT 76 9 3 73,qlT 77 76 73,qkT 78 65 75 77 73,qp 79 73 78,qm 80 79,qaT 81 11 2 80,qlT 82 81 80,qaT 83 11 3 80,qlT 84 83 80,qkT 85 62 82 84 80,qp 86 80 85,qm 4 86] []) .ret),[.tmp 4]⟩
def c16 : CF := ⟨.seq (.reg false [⟨some 1,.box (.t 0),none⟩,⟨some 2,.alloc [.val (.int .i64 0),.val (.string ⟨#[]⟩),.val (.string ⟨#[]⟩),.im [] true,.val (.int .i64 0),.im [] true,.im [] true,.im [] true,.im [] true,.im [] true,.val (.bool
 false),.im [] true],none⟩] []) (.seq (.reg true [qa 3 0 1,ql 4 3,qa 5 1 1,ql 6 5,qa 7 2 1,ql 8 7,qa 9 3 1,ql 10 9,qc 11 66 10,qa 12 4 1,ql 13 12,qa 14 5 1,ql 15 14,qc 16 67 15,qa 17 6 1,ql 18 17,qc 19 68 18,qa 20 7 1,ql 21 20,qc 22 69 21,qa 23 8
 1,ql 24 23,qc 25 70 24,qa 26 9 1,ql 27 26,qc 28 71 27,qa 29 10 1,ql 30 29,qa 31 11 1,ql 32 31,qc 33 68 32,⟨some 34,.build [.val (.int .i64 0),.val (.string ⟨#[]⟩),.val (.string ⟨#[]⟩),.im [] true,.val (.int .i64 0),.im [] true,.im [] true,.im []
 true,.im [] true,.im [] true,.val (.bool false),.im [] true] [(0, 1, (.t 4)),(1, 1, (.t 6)),(2, 1, (.t 8)),(3, 1, (.t 11)),(4, 1, (.t 13)),(5, 1, (.t 16)),(6, 1, (.t 19)),(7, 1, (.t 22)),(8, 1, (.t 25)),(9, 1, (.t 28)),(10, 1, (.t 30)),(11, 1, (.t
 33))],none⟩,qw 12 2 34] [(1, 8),(3, 8),(5, 8),(8, 10),(8, 12),(1, 13),(3, 13),(5, 13),(10, 13),(8, 15),(13, 15),(1, 16),(3, 16),(5, 16),(10, 16),(8, 18),(13, 18),(16, 18),(1, 19),(3, 19),(5, 19),(10, 19),(8, 21),(13, 21),(16, 21),(19, 21),(1,
 22),(3, 22),(5, 22),(10, 22),(8, 24),(13, 24),(16, 24),(19, 24),(22, 24),(1, 25),(3, 25),(5, 25),(10, 25),(8, 27),(13, 27),(16, 27),(19, 27),(22, 27),(25, 27),(8, 29),(13, 29),(16, 29),(19, 29),(22, 29),(25, 29),(1, 30),(3, 30),(5, 30),(10,
 30),(27, 30)]) .ret),[.cell 2 12 true]⟩
def c17 : CF := ⟨.seq (.reg false [⟨some 1,.box (.t 0),none⟩,qf 2] []) (.seq (.seq (.reg false [qa 3 1 1,ql 4 3,qc 5 72 4,qb 6 5,qm 7 6,qaF 8 2 1 7,qlF 9 8 7,qcF 10 72 9 7,qbF 11 10 7,qo 12 7 11] []) (.cond (.t 12) (.seq (.reg false [qf 2] []) .ret)
 .skip)) (.seq (.seq (.reg false [qa 13 0 1,ql 14 13] []) (.block 0 (.seq (.reg false [qq 16 14 1,qm 15 16] []) (.cond (.t 15) (.seq (.reg false [⟨some 17,.ld 12 true (.t 1),none⟩,qc 18 73 17,qm 19 18,qaT 20 8 1 19,qlT 21 20 19,qcT 22 74 21 19,qp 23
 19 22,qm 24 23,qaT 25 10 1 24,qlT 26 25 24,qbT 27 26 24,qp 28 24 27,qm 2 28] []) .ret) (.seq (.reg false [qq 30 14 2,qm 29 30] []) (.cond (.t 29) (.seq (.reg false [⟨some 31,.ld 12 true (.t 1),none⟩,qc 32 73 31,qm 33 32,qaT 34 8 1 33,qlT 35 34
 33,qeT 36 35 33,qqT 37 36 0 33,qp 38 33 37,qm 2 38] []) .ret) (.seq (.reg false [qq 40 14 3,qm 39 40] []) (.cond (.t 39) (.seq (.reg false [⟨some 41,.ld 12 true (.t 1),none⟩,qc 42 75 41,qm 43 42,qaT 44 11 1 43,qlT 45 44 43,qcT 46 76 45 43,qp 47 43
 46,qm 2 47] []) .ret) .skip)))))))) (.seq (.reg false [qf 2] []) .ret))),[.tmp 2]⟩
def c18 : CF := ⟨.seq (.reg false [⟨some 2,.alloc [.val (.int .i64 0),.val (.string ⟨#[]⟩),.val (.string ⟨#[]⟩),.im [] true,.val (.int .i64 0),.im [] true,.im [] true,.im [] true,.im [] true,.im [] true,.val (.bool false),.im [] true],none⟩,qi 3 0]
 []) (.seq (.reg false [⟨some 7,.bsl 1 0 [] [],none⟩,qm 8 0,⟨some 9,.app 1 (.t 7) (.t 8),none⟩,⟨some 10,.build [.im [] true,.val (.int .i64 0),.val (.int .i64 0)] [(0, 1, (.t 9))],none⟩,⟨some 11,.box (.t 10),none⟩,qm 4 11] []) (.seq (.reg false [qm
 12 4,qd 13 77 12 3,⟨some 14,.build [.val (.int .i64 0),.val (.string ⟨#[]⟩),.val (.string ⟨#[]⟩),.im [] true,.val (.int .i64 0),.im [] true,.im [] true,.im [] true,.im [] true,.im [] true,.val (.bool false),.im [] true] [(0, 1, (.t
 13))],none⟩,⟨some 5,.alloc [.val (.int .i64 0),.val (.string ⟨#[]⟩),.val (.string ⟨#[]⟩),.im [] true,.val (.int .i64 0),.im [] true,.im [] true,.im [] true,.im [] true,.im [] true,.val (.bool false),.im [] true],none⟩,qw 12 5 14] []) (.seq (.seq
 (.reg false [qm 15 4,qn 16 15,qa 17 2 16,ql 18 17,qq 19 18 0,qm 20 19,qaT 21 0 5 20,qlT 22 21 20,qqT 23 22 0 20,qp 24 20 23] []) (.cond (.t 24) (.seq (.reg false [⟨some 25,.build [.val (.int .i64 0),.val (.string ⟨#[]⟩),.val (.string ⟨#[]⟩),.im []
 true,.val (.int .i64 0),.im [] true,.im [] true,.im [] true,.im [] true,.im [] true,.val (.bool false),.im [] true] [],none⟩,qw 12 2 25,qi 3 3] []) .ret) .skip)) (.seq (.reg false [qm 26 4,qd 27 78 26 6,qa 28 1 5,qw 1 28 27] []) (.seq (.reg false
 [qm 29 4,qd 30 78 29 6,qa 31 2 5,qw 1 31 30] []) (.seq (.seq (.reg false [qa 32 0 5,ql 33 32,qq 34 33 3] []) (.cond (.t 34) (.reg false [qm 35 4,qc 36 79 35,qa 37 11 5,qw 1 37 36] []) (.seq (.reg false [qm 38 4,qk 39 80 38 5,qb 40 39] []) (.cond
 (.t 40) (.seq (.reg false [⟨some 41,.build [.val (.int .i64 0),.val (.string ⟨#[]⟩),.val (.string ⟨#[]⟩),.im [] true,.val (.int .i64 0),.im [] true,.im [] true,.im [] true,.im [] true,.im [] true,.val (.bool false),.im [] true] [],none⟩,qw 12 2
 41,qi 3 3] []) .ret) .skip)))) (.seq (.seq (.reg false [qm 42 4,qc 43 81 42,qm 6 43] []) (.seq (.reg false [qm 44 6,⟨some 45,.bin .neq 3 false true (.t 44) (.c (.val (.int .i64 0))),none⟩] []) (.cond (.t 45) (.seq (.reg false [⟨some 46,.build [.val
 (.int .i64 0),.val (.string ⟨#[]⟩),.val (.string ⟨#[]⟩),.im [] true,.val (.int .i64 0),.im [] true,.im [] true,.im [] true,.im [] true,.im [] true,.val (.bool false),.im [] true] [],none⟩,qm 47 6,qw 12 2 46,qm 3 47] []) .ret) .skip))) (.seq (.seq
 (.reg false [⟨some 48,.ld 12 true (.t 5),none⟩,qc 49 48 48,qb 50 49] []) (.cond (.t 50) (.seq (.reg false [⟨some 51,.build [.val (.int .i64 0),.val (.string ⟨#[]⟩),.val (.string ⟨#[]⟩),.im [] true,.val (.int .i64 0),.im [] true,.im [] true,.im []
 true,.im [] true,.im [] true,.val (.bool false),.im [] true] [],none⟩,qw 12 2 51,qi 3 3] []) .ret) .skip)) (.seq (.reg false [⟨some 52,.ld 12 true (.t 5),none⟩,qw 12 2 52,qi 3 0] []) .ret))))))))),[.cell 2 12 true,.tmp 3]⟩
def c33 : CF := ⟨.seq (.reg false [qj 4] []) (.seq (.reg false [qm 5 0,qm 6 1,qk 7 38 5 6,qm 4 7] []) .ret),[.tmp 4]⟩
def L34_0 : CC := (.seq (.seq (.reg false [qm 10 1,⟨some 11,.bin .geq 3 false true (.t 10) (.c (.val (.int .i64 128))),none⟩] []) (.cond (.t 11) .skip (.exit 0))) (.seq (.block 1 (.reg false [qm 14 5,qm 15 1,⟨some 16,.cv 3 5 (.t 15),none⟩,⟨some
 17,.bin .or 5 false true (.t 16) (.c (.val (.int .u8 128))),none⟩,⟨some 18,.bsl 1 1 [.val (.int .u8 0)] [(0, 1, (.t 17))],none⟩,⟨some 19,.app 1 (.t 14) (.t 18),none⟩,qm 5 19] [])) (.reg false [qm 12 1,⟨some 13,.bin .shr 3 false true (.t 12) (.c
 (.val (.int .u64 7))),none⟩,qm 1 13] [])))
def c34 : CF := ⟨.seq (.reg false [qj 4] []) (.seq (.reg false [qm 6 0,qc 7 92 6,qm 5 7] []) (.seq (.seq (.reg false [qm 8 1,⟨some 9,.fun_ .max #[3,3] 3 [.t 8,.c (.val (.int .i64 0))],none⟩,qm 1 9] []) (.block 0 (.loop L34_0))) (.seq (.reg false [qm
 20 5,qm 21 1,⟨some 22,.cv 3 5 (.t 21),none⟩,⟨some 23,.bsl 1 1 [.val (.int .u8 0)] [(0, 1, (.t 22))],none⟩,⟨some 24,.app 1 (.t 20) (.t 23),none⟩,qm 4 24] []) .ret))),[.tmp 4]⟩
def L35_0 : CC := (.seq (.reg false [qz 14 13 12] []) (.seq (.cond (.t 14) .skip (.exit 0)) (.seq (.block 1 (.seq (.reg false [⟨some 15,.ias 2 (.t 11) (.t 13),none⟩,⟨some 16,.ld 2 true (.t 15),none⟩,⟨some 6,.alloc [.val (.string ⟨#[]⟩),.val (.int
 .i64 0)],none⟩,qw 2 6 16] []) (.reg true [qm 17 0,qa 18 0 6,ql 19 18,qk 20 33 17 19,qa 21 1 6,ql 22 21,qk 23 34 20 22,qm 0 23] [(3, 5)]))) (.reg false [qs 24 13,qm 13 24] []))))
def c35 : CF := ⟨.seq (.reg false [qj 4] []) (.seq (.reg false [qm 7 0,qm 8 1,qe 9 8,qk 10 34 7 9,qm 0 10] []) (.seq (.seq (.reg false [qm 11 1,qe 12 11,qi 13 0] []) (.block 0 (.loop L35_0))) (.seq (.reg false [qm 25 0,qm 4 25] []) .ret))),[.tmp 4]⟩
def L36_0 : CC := (.seq (.reg false [qz 18 17 16] []) (.seq (.cond (.t 18) .skip (.exit 0)) (.seq (.block 1 (.seq (.reg false [qx 19 15 17,ql 20 19,qm 6 20] []) (.reg false [qm 21 0,qm 22 6,qk 23 33 21 22,qm 0 23] []))) (.reg false [qs 24 17,qm 17 24] []))))
def L36_1 : CC := (.seq (.reg false [qz 37 36 35] []) (.seq (.cond (.t 37) .skip (.exit 2)) (.seq (.block 3 (.seq (.reg false [⟨some 38,.ias 2 (.t 34) (.t 36),none⟩,⟨some 39,.ld 2 true (.t 38),none⟩,⟨some 8,.alloc [.val (.string ⟨#[]⟩),.im []
 true],none⟩,qw 2 8 39] []) (.reg true [qm 40 0,qa 41 0 8,ql 42 41,qk 43 33 40 42,qa 44 1 8,ql 45 44,qk 46 35 43 45,qm 0 46] [(3, 5)]))) (.reg false [qs 47 36,qm 36 47] []))))
def c36 : CF := ⟨.seq (.reg false [⟨some 3,.box (.t 1),none⟩,qj 4] []) (.seq (.reg false [qm 9 0,qa 10 5 3,ql 11 10,qe 12 11,qk 13 34 9 12,qm 0 13] []) (.seq (.seq (.reg false [qa 14 5 3,ql 15 14,qe 16 15,qi 17 0] []) (.block 0 (.loop L36_0))) (.seq
 (.reg true [qm 25 0,qa 26 6 3,ql 27 26,qk 28 35 25 27,qa 29 7 3,ql 30 29,qe 31 30,qk 32 34 28 31,qm 0 32] [(3, 5)]) (.seq (.seq (.reg false [qa 33 7 3,ql 34 33,qe 35 34,qi 36 0] []) (.block 2 (.loop L36_1))) (.seq (.reg false [qm 48 0,qm 4 48] [])
 .ret))))),[.tmp 4]⟩
def L37_0 : CC := (.seq (.reg false [qz 38 37 36] []) (.seq (.cond (.t 38) .skip (.exit 2)) (.seq (.block 3 (.seq (.reg false [qx 39 35 37,ql 40 39,qm 8 40] []) (.reg false [qm 41 0,qm 42 8,qk 43 34 41 42,qm 0 43] []))) (.reg false [qs 44 37,qm 37 44] []))))
def L37_1 : CC := (.seq (.reg false [qz 16 15 14] []) (.seq (.cond (.t 16) .skip (.exit 0)) (.seq (.block 1 (.seq (.reg false [⟨some 17,.ias 3 (.t 13) (.t 15),none⟩,⟨some 18,.ld 3 true (.t 17),none⟩,⟨some 6,.alloc [.val (.string ⟨#[]⟩),.val (.int
 .i64 0),.im [] true],none⟩,qw 3 6 18] []) (.seq (.reg true [qm 19 0,qa 20 0 6,ql 21 20,qk 22 33 19 21,qa 23 1 6,qa 24 0 23,ql 25 24,qk 26 34 22 25,qm 0 26] [(3, 6)]) (.seq (.reg false [qm 27 0,qa 28 1 6,qa 29 1 28,ql 30 29,qe 31 30,qk 32 34 27
 31,qm 0 32] []) (.seq (.reg false [qa 33 1 6,qa 34 1 33,ql 35 34,qe 36 35,qi 37 0] []) (.block 2 (.loop L37_0))))))) (.reg false [qs 45 15,qm 15 45] []))))
def c37 : CF := ⟨.seq (.reg false [qj 4] []) (.seq (.reg false [qm 9 0,qm 10 1,qe 11 10,qk 12 34 9 11,qm 0 12] []) (.seq (.seq (.reg false [qm 13 1,qe 14 13,qi 15 0] []) (.block 0 (.loop L37_1))) (.seq (.reg false [qm 46 0,qm 4 46] []) .ret))),[.tmp 4]⟩
def c38 : CF := ⟨.seq (.reg false [qj 4] []) (.seq (.reg false [qm 5 0,qm 6 1,⟨some 7,.len true (.t 6),none⟩,qk 8 34 5 7,qm 9 1,⟨some 10,.app 1 (.t 8) (.t 9),none⟩,qm 4 10] []) .ret),[.tmp 4]⟩
def L39_0 : CC := (.seq (.reg false [qz 13 12 11] []) (.seq (.cond (.t 13) .skip (.exit 0)) (.seq (.block 1 (.seq (.reg false [⟨some 14,.ias 3 (.t 10) (.t 12),none⟩,⟨some 15,.ld 3 true (.t 14),none⟩,⟨some 5,.alloc [.val (.int .i64 0),.val (.complex
 .f64 0 0),.val (.float .f64 0)],none⟩,qw 3 5 15] []) (.seq (.reg true [⟨some 16,.call (.c (.fn 93 [])) [],none⟩,qa 17 0 5,ql 18 17,qx 19 16 18,ql 20 19,qm 6 20] [(0, 2)]) (.seq (.seq (.reg false [qa 21 0 5,ql 22 21,qq 23 22 2,qm 24 23,qaF 25 0 5
 24,qlF 26 25 24,qqF 27 26 3 24,qo 28 24 27] []) (.cond (.t 28) (.reg true [qm 29 6,qa 30 1 5,ql 31 30,⟨some 32,.fun_ .real #[91] 165 [.t 31],none⟩,qc 33 95 32,qa 34 1 5,ql 35 34,⟨some 36,.fun_ .imag #[91] 165 [.t 35],none⟩,qc 37 95 36,qa 38 2 5,ql
 39 38,qc 40 95 39,⟨some 41,.bsl 1 4 [.val (.string ⟨#[]⟩),.val (.string ⟨#[]⟩),.val (.string ⟨#[]⟩),.val (.string ⟨#[]⟩)] [(0, 1, (.t 29)),(1, 1, (.t 33)),(2, 1, (.t 37)),(3, 1, (.t 40))],none⟩,⟨some 42,.call (.c (.fn 94 [])) [.t 41,.c (.val
 (.string ⟨#[32]⟩))],none⟩,qm 6 42] [(4, 6),(4, 10),(8, 10)]) .skip)) (.reg false [qm 43 3,qm 44 6,⟨some 45,.bsl 1 1 [.val (.string ⟨#[]⟩)] [(0, 1, (.t 44))],none⟩,⟨some 46,.app 1 (.t 43) (.t 45),none⟩,qm 3 46] []))))) (.reg false [qs 47 12,qm 12 47] []))))
def c39 : CF := ⟨.seq (.reg false [⟨some 2,.mv (.c (.val (.string ⟨#[]⟩))),none⟩] []) (.seq (.seq (.reg false [qm 7 0,qc 8 74 7,qb 9 8] []) (.cond (.t 9) (.seq (.reg false [⟨some 2,.mv (.c (.val (.string ⟨#[]⟩))),none⟩] []) .ret) .skip)) (.seq (.reg
 false [qj 3] []) (.seq (.seq (.reg false [qm 10 0,qe 11 10,qi 12 0] []) (.block 0 (.loop L39_0))) (.seq (.reg false [qm 48 3,⟨some 49,.call (.c (.fn 94 [])) [.t 48,.c (.val (.string ⟨#[44]⟩))],none⟩,qm 2 49] []) .ret)))),[.tmp 2]⟩
def L40_0 : CC := (.seq (.reg false [⟨some 31,.bin .lss 3 false true (.t 30) (.c (.val (.int .i64 3))),none⟩] []) (.seq (.cond (.t 31) .skip (.exit 0)) (.seq (.block 1 (.seq (.reg false [⟨some 32,.ixa 3 1 false (.t 29) (.t 30),none⟩,qm 6 32] [])
 (.reg false [qm 33 0,qm 34 6,qk 35 34 33 34,qm 0 35] []))) (.reg false [qs 36 30,qm 30 36] []))))
def c40 : CF := ⟨.seq (.reg false [⟨some 3,.box (.t 1),none⟩,qj 4] []) (.seq (.seq (.reg false [⟨some 7,.ld 8 true (.t 3),none⟩,qc 8 96 7,qb 9 8] []) (.cond (.t 9) (.seq (.reg false [qm 10 0,⟨some 11,.app 1 (.c (.im [] true)) (.t 10),none⟩,qm 4 11]
 []) .ret) .skip)) (.seq (.reg false [qm 12 0,qa 13 0 3,ql 14 13,qk 15 34 12 14,qm 0 15] []) (.seq (.reg false [qm 16 0,qa 17 1 3,qa 18 0 17,ql 19 18,qk 20 38 16 19,qm 0 20] []) (.seq (.seq (.reg true [qa 21 1 3,qa 22 1 21,ql 23 22,qa 24 1 3,qa 25 2
 24,ql 26 25,⟨some 27,.ld 8 true (.t 3),none⟩,qc 28 97 27,⟨some 29,.build [.val (.int .i64 0),.val (.int .i64 0),.val (.int .i64 0)] [(0, 1, (.t 23)),(1, 1, (.t 26)),(2, 1, (.t 28))],none⟩,qi 30 0] [(2, 7),(5, 7)]) (.block 0 (.loop L40_0))) (.seq
 (.seq (.reg false [qa 37 4 3,ql 38 37] []) (.cond (.t 38) (.seq (.reg false [qm 39 0,qm 4 39] []) .ret) .skip)) (.seq (.reg false [qm 40 0,qa 41 5 3,ql 42 41,⟨some 43,.fun_ .real #[91] 165 [.t 42],none⟩,⟨some 44,.cv 165 3 (.t 43),none⟩,⟨some
 45,.bin .add 3 false true (.t 44) (.c (.val (.int .i64 1000))),none⟩,qk 46 34 40 45,qm 0 46] []) (.seq (.reg false [qm 47 0,qa 48 5 3,ql 49 48,⟨some 50,.fun_ .imag #[91] 165 [.t 49],none⟩,⟨some 51,.cv 165 3 (.t 50),none⟩,⟨some 52,.bin .add 3 false
 true (.t 51) (.c (.val (.int .i64 1000))),none⟩,qk 53 34 47 52,qm 0 53] []) (.seq (.seq (.reg false [qa 54 7 3,ql 55 54] []) (.cond (.t 55) (.reg false [qm 56 0,qa 57 6 3,ql 58 57,qk 59 38 56 58,qm 0 59] []) .skip)) (.seq (.reg false [qm 60 0,qm 4
 60] []) .ret))))))))),[.tmp 4]⟩
def c41 : CF := ⟨.seq (.reg false [⟨some 2,.mv (.c (.val (.pointer none))),none⟩] []) (.seq (.reg false [qm 3 0,qc 4 92 3,⟨some 5,.build [.im [] true,.val (.int .i64 0),.val (.int .i64 0)] [(0, 1, (.t 4))],none⟩,⟨some 6,.box (.t 5),none⟩,qm 2 6] [])
 .ret),[.tmp 2]⟩
def c42 : CF := ⟨.seq (.reg false [qi 4 0] []) (.seq (.seq (.reg false [qm 8 0,qc 9 43 8,⟨some 10,.bin .neq 47 false true (.t 9) (.c (.val (.int .i64 0))),none⟩] []) (.cond (.t 10) (.seq (.reg false [qi 4 0] []) .ret) .skip)) (.seq (.reg false [qm
 12 0,qc 13 98 12,qm 11 13,⟨some 14,.ext (.t 11) 0,none⟩,⟨some 15,.ext (.t 11) 1,none⟩,⟨some 16,.ext (.t 11) 2,none⟩,qm 5 14,qm 6 15,qm 7 16] []) (.seq (.seq (.reg false [qm 17 7,⟨some 18,.bin .eql 47 false true (.t 17) (.c (.val (.int .i64
 0))),none⟩,qm 19 18,qmT 20 5 19,qmT 21 1 19,⟨some 22,.bin .gtr 3 false false (.t 20) (.t 21),some (19, true)⟩,qp 23 19 22] []) (.cond (.t 23) (.reg false [qi 7 3] []) .skip)) (.seq (.seq (.reg false [qm 24 7,⟨some 25,.bin .neq 47 false true (.t 24)
 (.c (.val (.int .i64 0))),none⟩] []) (.cond (.t 25) (.seq (.reg false [qm 26 0,qm 27 7,qn 28 26,qa 29 2 28,qw 1 29 27] []) (.seq (.reg false [qi 4 0] []) .ret)) .skip)) (.seq (.reg false [qm 30 0,qn 31 30,qa 32 1 31,ql 33 32,qm 34 6,⟨some 35,.bin
 .add 3 false false (.t 33) (.t 34),none⟩,qn 36 30,qa 37 1 36,qw 1 37 35] []) (.seq (.reg false [qm 38 5,qm 4 38] []) .ret)))))),[.tmp 4]⟩
def c43 : CF := ⟨.seq (.reg false [qi 2 0] []) (.seq (.seq (.reg false [qm 3 0,⟨some 4,.bin .eql 96 false true (.t 3) (.c (.val (.pointer none))),none⟩] []) (.cond (.t 4) (.seq (.reg false [qi 2 1] []) .ret) .skip)) (.seq (.reg false [qm 5 0,qn 6
 5,qa 7 2 6,ql 8 7,qm 2 8] []) .ret)),[.tmp 2]⟩
def c44 : CF := ⟨.seq (.reg false [⟨some 2,.mv (.c (.val (.string ⟨#[]⟩))),none⟩] []) (.seq (.reg false [qm 3 0,qn 4 3,qa 5 0 4,ql 6 5,qd 7 99 6 6,qm 2 7] []) .ret),[.tmp 2]⟩
def c45 : CF := ⟨.seq (.reg false [⟨some 1,.box (.t 0),none⟩,qj 2] []) (.seq (.reg false [⟨some 3,.alloc [.im [] true],none⟩] []) (.seq (.reg false [ql 4 1,⟨some 5,.mkf 101 [.t 1,.t 3],none⟩,⟨some 6,.call (.c (.fn 100 [])) [.t 4,.c (.val (.int .i64
 64)),.t 5],none⟩] []) (.seq (.reg false [ql 7 3,qm 2 7] []) .ret))),[.tmp 2]⟩
def c46 : CF := ⟨.seq (.reg false [⟨some 2,.box (.t 0),none⟩,⟨some 3,.box (.t 1),none⟩] []) (.seq (.reg false [ql 6 2,⟨some 7,.mkf 103 [.t 2,.t 3],none⟩,⟨some 8,.call (.c (.fn 100 [])) [.t 6,.c (.val (.int .i64 64)),.t 7],none⟩] []) (.seq (.reg true
 [ql 9 3,ql 10 2,qc 11 102 10,qn 12 9,qa 13 4 12,qw 1 13 11] [(0, 2)]) (.seq (.reg false [ql 14 2,⟨some 15,.mkf 105 [.t 3,.t 2],none⟩,⟨some 16,.call (.c (.fn 100 [])) [.t 14,.c (.val (.int .i64 64)),.t 15],none⟩] []) (.seq (.reg true [ql 17 3,ql 18
 2,qc 19 45 18,qn 20 17,qa 21 6 20,qw 1 21 19] [(0, 2)]) (.seq (.reg false [ql 22 2,⟨some 23,.mkf 106 [.t 2,.t 3],none⟩,⟨some 24,.call (.c (.fn 100 [])) [.t 22,.c (.val (.int .i64 64)),.t 23],none⟩] []) (.seq (.seq (.reg false [ql 25 3,qn 26 25,qa
 27 0 26,ql 28 27,qq 29 28 1] []) (.cond (.t 29) (.seq (.reg false [ql 31 2,qn 32 31,qa 33 0 32,ql 34 33,qd 35 99 34 2000,qc 36 107 35,qm 30 36,⟨some 37,.ext (.t 30) 0,none⟩,⟨some 38,.ext (.t 30) 1,none⟩,qm 4 37,qm 5 38] []) (.seq (.reg false [ql 39
 3,qm 40 4,qn 41 39,qa 42 8 41,qw 1 42 40] []) (.reg true [ql 43 2,ql 44 2,qn 45 44,qa 46 1 45,ql 47 46,qm 48 47,qmF 49 5 48,qbF 50 49 48,qmF 51 50 48,qlT 52 2 51,qnT 53 52 51,qaT 54 0 53 51,qlT 55 54 51,qcT 56 43 55 51,⟨some 57,.bin .eql 47 false
 true (.t 56) (.c (.val (.int .i64 0))),some (51, true)⟩,qpF 58 51 57 48,qo 59 48 58,qn 60 43,qa 61 1 60,qw 1 61 59] [(0, 13)]))) .skip)) (.seq (.seq (.reg false [ql 62 2,qc 63 108 62] []) (.cond (.t 63) .ret .skip)) (.seq (.reg false [ql 64 2,⟨some
 65,.mkf 109 [.t 2,.t 3],none⟩,⟨some 66,.call (.c (.fn 100 [])) [.t 64,.c (.val (.int .i64 32)),.t 65],none⟩] []) (.seq (.reg false [ql 67 3,qn 68 67,qa 69 0 68,ql 70 69,qq 71 70 2,qm 72 71,qlT 73 2 72,qcT 74 108 73 72,qbT 75 74 72,qp 76 72 75] [])
 (.cond (.t 76) (.reg true [ql 77 3,ql 78 2,qn 79 78,qa 80 0 79,ql 81 80,qd 82 42 81 1,qq 83 82 1,qn 84 77,qa 85 10 84,qw 1 85 83] [(0, 5)]) .skip)))))))))),[]⟩
def c47 : CF := ⟨.seq (.reg false [qi 2 0] []) (.seq (.seq (.reg true [qm 3 0,qc 4 43 3,⟨some 5,.bin .eql 47 false true (.t 4) (.c (.val (.int .i64 0))),none⟩,qm 6 5,qmT 7 0 6,qnT 8 7 6,qaT 9 1 8 6,qlT 10 9 6,qmT 11 0 6,qnT 12 11 6,qaT 13 0 12 6,qlT
 14 13 6,qeT 15 14 6,⟨some 16,.bin .lss 3 false false (.t 10) (.t 15),some (6, true)⟩,qp 17 6 16] []) (.cond (.t 17) (.seq (.reg false [qi 2 3] []) .ret) .skip)) (.seq (.reg false [qm 18 0,qc 19 43 18,qm 2 19] []) .ret)),[.tmp 2]⟩
def c48 : CF := ⟨.seq (.reg false [⟨some 1,.box (.t 0),none⟩,qf 2] []) (.seq (.seq (.reg false [qa 3 1 1,ql 4 3,qc 5 111 4,qb 6 5,qm 7 6,qaF 8 2 1 7,qlF 9 8 7,qcF 10 111 9 7,qbF 11 10 7,qo 12 7 11] []) (.cond (.t 12) (.seq (.reg false [qf 2] [])
 .ret) .skip)) (.seq (.seq (.reg false [qa 13 0 1,ql 14 13] []) (.block 0 (.seq (.reg false [qq 16 14 1,qm 15 16] []) (.cond (.t 15) (.seq (.reg false [⟨some 17,.ld 12 true (.t 1),none⟩,qc 18 112 17,qm 19 18,qaT 20 8 1 19,qlT 21 20 19,qcT 22 113 21
 19,qp 23 19 22,qm 24 23,qaT 25 10 1 24,qlT 26 25 24,qbT 27 26 24,qp 28 24 27,qm 2 28] []) .ret) (.seq (.reg false [qq 30 14 2,qm 29 30] []) (.cond (.t 29) (.seq (.reg false [⟨some 31,.ld 12 true (.t 1),none⟩,qc 32 112 31,qm 33 32,qaT 34 8 1 33,qlT
 35 34 33,qeT 36 35 33,qqT 37 36 0 33,qp 38 33 37,qm 2 38] []) .ret) (.seq (.reg false [qq 40 14 3,qm 39 40] []) (.cond (.t 39) (.seq (.reg false [qa 41 3 1,ql 42 41,qe 43 42,qq 44 43 0,qm 45 44,qaT 46 4 1 45,qlT 47 46 45,qqT 48 47 0 45,qp 49 45
 48,qm 50 49,qaT 51 5 1 50,qlT 52 51 50,qeT 53 52 50,qqT 54 53 0 50,qp 55 50 54,qm 56 55,qaT 57 6 1 56,qlT 58 57 56,qeT 59 58 56,qqT 60 59 0 56,qp 61 56 60,qm 62 61,qaT 63 7 1 62,qlT 64 63 62,qeT 65 64 62,qqT 66 65 0 62,qp 67 62 66,qm 68 67,qaT 69 8
 1 68,qlT 70 69 68,qeT 71 70 68,qqT 72 71 0 68,qp 73 68 72,qm 74 73,qaT 75 9 1 74,qlT 76 75 74,qeT 77 76 74,qqT 78 77 0 74,qp 79 74 78,qm 80 79,qaT 81 10 1 80,qlT 82 81 80,qbT 83 82 80,qp 84 80 83,qm 85 84,qaT 86 11 1 85,qlT 87 86 85,qcT 88 114 87
 85,qp 89 85 88,qm 2 89] []) .ret) .skip)))))))) (.seq (.reg false [qf 2] []) .ret))),[.tmp 2]⟩
def c54 : CF := ⟨.seq (.reg false [qf 4] []) (.seq (.reg false [qm 5 0,qm 6 1,⟨some 7,.call (.c (.fn 117 [])) [.t 5,.t 6,.c (.fn 118 [])],none⟩,qm 4 7] []) .ret),[.tmp 4]⟩
def L55_0 : CC := (.seq (.reg false [qz 14 13 12] []) (.seq (.cond (.t 14) .skip (.exit 0)) (.seq (.block 1 (.seq (.reg false [qm 15 13,qm 5 15] []) (.seq (.reg true [qm 16 0,qm 17 5,qx 18 16 17,ql 19 18,qm 20 1,qm 21 5,qx 22 20 21,ql 23 22,⟨some
 24,.bin .neq 31 false false (.t 19) (.t 23),none⟩] []) (.cond (.t 24) (.seq (.reg false [qf 4] []) .ret) .skip)))) (.reg false [qs 25 13,qm 13 25] []))))
def c55 : CF := ⟨.seq (.reg false [qf 4] []) (.seq (.seq (.reg false [qm 6 0,qe 7 6,qm 8 1,qe 9 8,⟨some 10,.bin .neq 3 false false (.t 7) (.t 9),none⟩] []) (.cond (.t 10) (.seq (.reg false [qf 4] []) .ret) .skip)) (.seq (.seq (.reg false [qm 11 0,qe
 12 11,qi 13 0] []) (.block 0 (.loop L55_0))) (.seq (.reg false [qt 4] []) .ret))),[.tmp 4]⟩
def c56 : CF := ⟨.seq (.reg false [qf 4] []) (.seq (.reg false [qm 5 0,qm 6 1,qk 7 120 5 6,qm 4 7] []) .ret),[.tmp 4]⟩
def c57 : CF := ⟨.seq (.reg false [qf 4] []) (.seq (.reg false [qm 5 0,qm 6 1,⟨some 7,.call (.c (.fn 121 [])) [.t 5,.t 6,.c (.fn 122 [])],none⟩,qm 4 7] []) .ret),[.tmp 4]⟩
def c58 : CF := ⟨.seq (.reg false [qf 4] []) (.seq (.reg false [qm 5 0,qm 6 1,qk 7 123 5 6,qm 4 7] []) .ret),[.tmp 4]⟩
def L59_0 : CC := (.seq (.reg false [qz 14 13 12] []) (.seq (.cond (.t 14) .skip (.exit 0)) (.seq (.block 1 (.seq (.reg false [qm 15 13,qm 5 15] []) (.seq (.reg true [qm 16 0,qm 17 5,⟨some 18,.ias 8 (.t 16) (.t 17),none⟩,⟨some 19,.ld 8 true (.t
 18),none⟩,qm 20 1,qm 21 5,⟨some 22,.ias 8 (.t 20) (.t 21),none⟩,⟨some 23,.ld 8 true (.t 22),none⟩,⟨some 24,.bin .neq 93 false false (.t 19) (.t 23),none⟩] []) (.cond (.t 24) (.seq (.reg false [qf 4] []) .ret) .skip)))) (.reg false [qs 25 13,qm 13 25] []))))
def c59 : CF := ⟨.seq (.reg false [qf 4] []) (.seq (.seq (.reg false [qm 6 0,qe 7 6,qm 8 1,qe 9 8,⟨some 10,.bin .neq 3 false false (.t 7) (.t 9),none⟩] []) (.cond (.t 10) (.seq (.reg false [qf 4] []) .ret) .skip)) (.seq (.seq (.reg false [qm 11 0,qe
 12 11,qi 13 0] []) (.block 0 (.loop L59_0))) (.seq (.reg false [qt 4] []) .ret))),[.tmp 4]⟩
def L60_0 : CC := (.seq (.seq (.reg false [qm 11 5,qm 12 0,qe 13 12,qz 14 11 13] []) (.cond (.t 14) .skip (.exit 0))) (.seq (.block 1 (.seq (.reg true [qm 17 0,qm 18 5,⟨some 19,.ias 3 (.t 17) (.t 18),none⟩,qa 20 0 19,ql 21 20,qm 22 1,qm 23 5,⟨some
 24,.ias 3 (.t 22) (.t 23),none⟩,qa 25 0 24,ql 26 25,⟨some 27,.bin .neq 9 false false (.t 21) (.t 26),none⟩,qm 28 27,qmF 29 0 28,qmF 30 5 28,⟨some 31,.ias 3 (.t 29) (.t 30),some (28, false)⟩,qaF 32 1 31 28,⟨some 33,.ld 2 true (.t 32),some (28,
 false)⟩,qmF 34 1 28,qmF 35 5 28,⟨some 36,.ias 3 (.t 34) (.t 35),some (28, false)⟩,qaF 37 1 36 28,⟨some 38,.ld 2 true (.t 37),some (28, false)⟩,⟨some 39,.call (.c (.fn 124 [])) [.t 33,.t 38],some (28, false)⟩,qbF 40 39 28,qo 41 28 40] []) (.cond (.t
 41) (.seq (.reg false [qf 4] []) .ret) .skip))) (.reg false [qm 15 5,qs 16 15,qm 5 16] [])))
def c60 : CF := ⟨.seq (.reg false [qf 4] []) (.seq (.seq (.reg false [qm 6 0,qe 7 6,qm 8 1,qe 9 8,⟨some 10,.bin .neq 3 false false (.t 7) (.t 9),none⟩] []) (.cond (.t 10) (.seq (.reg false [qf 4] []) .ret) .skip)) (.seq (.seq (.reg false [qi 5 0]
 []) (.block 0 (.loop L60_0))) (.seq (.reg false [qt 4] []) .ret))),[.tmp 4]⟩
def L61_0 : CC := (.seq (.seq (.reg false [qm 11 5,qm 12 0,qe 13 12,qz 14 11 13] []) (.cond (.t 14) .skip (.exit 0))) (.seq (.block 1 (.seq (.reg true [qm 17 0,qm 18 5,qx 19 17 18,ql 20 19,qm 21 1,qm 22 5,qx 23 21 22,ql 24 23,⟨some 25,.bin .neq 9
 false false (.t 20) (.t 24),none⟩] []) (.cond (.t 25) (.seq (.reg false [qf 4] []) .ret) .skip))) (.reg false [qm 15 5,qs 16 15,qm 5 16] [])))
def c61 : CF := ⟨.seq (.reg false [qf 4] []) (.seq (.seq (.reg false [qm 6 0,qe 7 6,qm 8 1,qe 9 8,⟨some 10,.bin .neq 3 false false (.t 7) (.t 9),none⟩] []) (.cond (.t 10) (.seq (.reg false [qf 4] []) .ret) .skip)) (.seq (.seq (.reg false [qi 5 0]
 []) (.block 0 (.loop L61_0))) (.seq (.reg false [qt 4] []) .ret))),[.tmp 4]⟩
def L62_0 : CC := (.seq (.seq (.reg false [qm 11 5,qm 12 0,qe 13 12,qz 14 11 13] []) (.cond (.t 14) .skip (.exit 0))) (.seq (.block 1 (.seq (.reg true [qm 17 0,qm 18 5,⟨some 19,.ias 2 (.t 17) (.t 18),none⟩,⟨some 20,.ld 2 true (.t 19),none⟩,qm 21
 1,qm 22 5,⟨some 23,.ias 2 (.t 21) (.t 22),none⟩,⟨some 24,.ld 2 true (.t 23),none⟩,⟨some 25,.bin .neq 147 false false (.t 20) (.t 24),none⟩] []) (.cond (.t 25) (.seq (.reg false [qf 4] []) .ret) .skip))) (.reg false [qm 15 5,qs 16 15,qm 5 16] [])))
def c62 : CF := ⟨.seq (.reg false [qf 4] []) (.seq (.seq (.reg false [qm 6 0,qe 7 6,qm 8 1,qe 9 8,⟨some 10,.bin .neq 3 false false (.t 7) (.t 9),none⟩] []) (.cond (.t 10) (.seq (.reg false [qf 4] []) .ret) .skip)) (.seq (.seq (.reg false [qi 5 0]
 []) (.block 0 (.loop L62_0))) (.seq (.reg false [qt 4] []) .ret))),[.tmp 4]⟩
def L63_0 : CC := (.seq (.seq (.reg false [qm 11 5,qm 12 0,qe 13 12,qz 14 11 13] []) (.cond (.t 14) .skip (.exit 0))) (.seq (.block 1 (.seq (.reg true [qm 17 0,qm 18 5,⟨some 19,.ias 2 (.t 17) (.t 18),none⟩,qa 20 0 19,ql 21 20,qm 22 1,qm 23 5,⟨some
 24,.ias 2 (.t 22) (.t 23),none⟩,qa 25 0 24,ql 26 25,⟨some 27,.bin .neq 9 false false (.t 21) (.t 26),none⟩,qm 28 27,qmF 29 0 28,qmF 30 5 28,⟨some 31,.ias 2 (.t 29) (.t 30),some (28, false)⟩,qaF 32 1 31 28,qlF 33 32 28,qmF 34 1 28,qmF 35 5 28,⟨some
 36,.ias 2 (.t 34) (.t 35),some (28, false)⟩,qaF 37 1 36 28,qlF 38 37 28,⟨some 39,.call (.c (.fn 62 [])) [.t 33,.t 38],some (28, false)⟩,qbF 40 39 28,qo 41 28 40] []) (.cond (.t 41) (.seq (.reg false [qf 4] []) .ret) .skip))) (.reg false [qm 15 5,qs
 16 15,qm 5 16] [])))
def c63 : CF := ⟨.seq (.reg false [qf 4] []) (.seq (.seq (.reg false [qm 6 0,qe 7 6,qm 8 1,qe 9 8,⟨some 10,.bin .neq 3 false false (.t 7) (.t 9),none⟩] []) (.cond (.t 10) (.seq (.reg false [qf 4] []) .ret) .skip)) (.seq (.seq (.reg false [qi 5 0]
 []) (.block 0 (.loop L63_0))) (.seq (.reg false [qt 4] []) .ret))),[.tmp 4]⟩
def L64_0 : CC := (.seq (.seq (.reg false [qm 11 5,qm 12 0,qe 13 12,qz 14 11 13] []) (.cond (.t 14) .skip (.exit 0))) (.seq (.block 1 (.seq (.reg true [qm 17 0,qm 18 5,⟨some 19,.ias 4 (.t 17) (.t 18),none⟩,⟨some 20,.ld 4 true (.t 19),none⟩,qm 21
 1,qm 22 5,⟨some 23,.ias 4 (.t 21) (.t 22),none⟩,⟨some 24,.ld 4 true (.t 23),none⟩,⟨some 25,.bin .neq 155 false false (.t 20) (.t 24),none⟩] []) (.cond (.t 25) (.seq (.reg false [qf 4] []) .ret) .skip))) (.reg false [qm 15 5,qs 16 15,qm 5 16] [])))
def c64 : CF := ⟨.seq (.reg false [qf 4] []) (.seq (.seq (.reg false [qm 6 0,qe 7 6,qm 8 1,qe 9 8,⟨some 10,.bin .neq 3 false false (.t 7) (.t 9),none⟩] []) (.cond (.t 10) (.seq (.reg false [qf 4] []) .ret) .skip)) (.seq (.seq (.reg false [qi 5 0]
 []) (.block 0 (.loop L64_0))) (.seq (.reg false [qt 4] []) .ret))),[.tmp 4]⟩
def L65_0 : CC := (.seq (.seq (.reg false [qm 11 5,qm 12 0,qe 13 12,qz 14 11 13] []) (.cond (.t 14) .skip (.exit 0))) (.seq (.block 1 (.seq (.reg true [qm 17 0,qm 18 5,⟨some 19,.ias 9 (.t 17) (.t 18),none⟩,⟨some 20,.ld 9 true (.t 19),none⟩,qm 21
 1,qm 22 5,⟨some 23,.ias 9 (.t 21) (.t 22),none⟩,⟨some 24,.ld 9 true (.t 23),none⟩,⟨some 25,.bin .neq 73 false false (.t 20) (.t 24),none⟩] []) (.cond (.t 25) (.seq (.reg false [qf 4] []) .ret) .skip))) (.reg false [qm 15 5,qs 16 15,qm 5 16] [])))
def c65 : CF := ⟨.seq (.reg false [qf 4] []) (.seq (.seq (.reg false [qm 6 0,qe 7 6,qm 8 1,qe 9 8,⟨some 10,.bin .neq 3 false false (.t 7) (.t 9),none⟩] []) (.cond (.t 10) (.seq (.reg false [qf 4] []) .ret) .skip)) (.seq (.seq (.reg false [qi 5 0]
 []) (.block 0 (.loop L65_0))) (.seq (.reg false [qt 4] []) .ret))),[.tmp 4]⟩
def L66_0 : CC := (.seq (.seq (.reg false [qm 5 4,qm 6 0,qe 7 6,qz 8 5 7] []) (.cond (.t 8) .skip (.exit 0))) (.seq (.block 1 (.reg true [qm 11 3,qm 12 0,qm 13 4,⟨some 14,.ias 3 (.t 12) (.t 13),none⟩,qa 15 0 14,ql 16 15,qm 17 0,qm 18 4,⟨some 19,.ias
 3 (.t 17) (.t 18),none⟩,qa 20 1 19,⟨some 21,.ld 2 true (.t 20),none⟩,qc 22 125 21,⟨some 23,.build [.val (.string ⟨#[]⟩),.val (.int .i64 0),.im [] true] [(0, 1, (.t 16)),(1, 2, (.t 22))],none⟩,⟨some 24,.bsl 3 1 [.val (.string ⟨#[]⟩),.val (.int .i64
 0),.im [] true] [(0, 3, (.t 23))],none⟩,⟨some 25,.app 3 (.t 11) (.t 24),none⟩,qm 3 25] [(5, 11)])) (.reg false [qm 9 4,qs 10 9,qm 4 10] [])))
def c66 : CF := ⟨.seq (.reg false [qj 2] []) (.seq (.reg false [qj 3] []) (.seq (.seq (.reg false [qi 4 0] []) (.block 0 (.loop L66_0))) (.seq (.reg false [qm 26 3,qm 2 26] []) .ret))),[.tmp 2]⟩
def L67_0 : CC := (.seq (.seq (.reg false [qm 5 4,qm 6 0,qe 7 6,qz 8 5 7] []) (.cond (.t 8) .skip (.exit 0))) (.seq (.block 1 (.reg false [qm 11 3,qm 12 0,qm 13 4,qx 14 12 13,ql 15 14,⟨some 16,.bsl 1 1 [.val (.string ⟨#[]⟩)] [(0, 1, (.t
 15))],none⟩,⟨some 17,.app 1 (.t 11) (.t 16),none⟩,qm 3 17] [])) (.reg false [qm 9 4,qs 10 9,qm 4 10] [])))
def c67 : CF := ⟨.seq (.reg false [qj 2] []) (.seq (.reg false [qj 3] []) (.seq (.seq (.reg false [qi 4 0] []) (.block 0 (.loop L67_0))) (.seq (.reg false [qm 18 3,qm 2 18] []) .ret))),[.tmp 2]⟩
def L68_0 : CC := (.seq (.seq (.reg false [qm 5 4,qm 6 0,qe 7 6,qz 8 5 7] []) (.cond (.t 8) .skip (.exit 0))) (.seq (.block 1 (.reg true [qm 11 3,qm 12 0,qm 13 4,⟨some 14,.ias 2 (.t 12) (.t 13),none⟩,qa 15 0 14,ql 16 15,qm 17 0,qm 18 4,⟨some 19,.ias
 2 (.t 17) (.t 18),none⟩,qa 20 1 19,ql 21 20,⟨some 22,.build [.val (.string ⟨#[]⟩),.val (.int .i64 0)] [(0, 1, (.t 16)),(1, 1, (.t 21))],none⟩,⟨some 23,.bsl 2 1 [.val (.string ⟨#[]⟩),.val (.int .i64 0)] [(0, 2, (.t 22))],none⟩,⟨some 24,.app 2 (.t
 11) (.t 23),none⟩,qm 3 24] [])) (.reg false [qm 9 4,qs 10 9,qm 4 10] [])))
def c68 : CF := ⟨.seq (.reg false [qj 2] []) (.seq (.reg false [qj 3] []) (.seq (.seq (.reg false [qi 4 0] []) (.block 0 (.loop L68_0))) (.seq (.reg false [qm 25 3,qm 2 25] []) .ret))),[.tmp 2]⟩
def L69_0 : CC := (.seq (.seq (.reg false [qm 5 4,qm 6 0,qe 7 6,qz 8 5 7] []) (.cond (.t 8) .skip (.exit 0))) (.seq (.block 1 (.reg true [qm 11 3,qm 12 0,qm 13 4,⟨some 14,.ias 2 (.t 12) (.t 13),none⟩,qa 15 0 14,ql 16 15,qm 17 0,qm 18 4,⟨some 19,.ias
 2 (.t 17) (.t 18),none⟩,qa 20 1 19,ql 21 20,qc 22 68 21,⟨some 23,.build [.val (.string ⟨#[]⟩),.im [] true] [(0, 1, (.t 16)),(1, 1, (.t 22))],none⟩,⟨some 24,.bsl 2 1 [.val (.string ⟨#[]⟩),.im [] true] [(0, 2, (.t 23))],none⟩,⟨some 25,.app 2 (.t 11)
 (.t 24),none⟩,qm 3 25] [(5, 11)])) (.reg false [qm 9 4,qs 10 9,qm 4 10] [])))
def c69 : CF := ⟨.seq (.reg false [qj 2] []) (.seq (.reg false [qj 3] []) (.seq (.seq (.reg false [qi 4 0] []) (.block 0 (.loop L69_0))) (.seq (.reg false [qm 26 3,qm 2 26] []) .ret))),[.tmp 2]⟩
def L70_0 : CC := (.seq (.seq (.reg false [qm 6 4,qm 7 0,qe 8 7,qz 9 6 8] []) (.cond (.t 9) .skip (.exit 0))) (.seq (.block 1 (.seq (.reg false [qm 12 0,qm 13 4,⟨some 14,.ias 3 (.t 12) (.t 13),none⟩,qa 15 1 14,ql 16 15,qc 17 126 16,⟨some 5,.alloc
 [.val (.int .i64 0),.val (.int .i64 0)],none⟩,qw 2 5 17] []) (.reg true [qm 18 3,qm 19 0,qm 20 4,⟨some 21,.ias 3 (.t 19) (.t 20),none⟩,qa 22 0 21,ql 23 22,qa 24 0 5,ql 25 24,qa 26 1 5,ql 27 26,qm 28 0,qm 29 4,⟨some 30,.ias 3 (.t 28) (.t
 29),none⟩,qa 31 2 30,ql 32 31,⟨some 33,.cv 165 3 (.t 32),none⟩,⟨some 34,.build [.val (.int .i64 0),.val (.int .i64 0),.val (.int .i64 0),.val (.int .i64 0)] [(0, 1, (.t 23)),(1, 1, (.t 25)),(2, 1, (.t 27)),(3, 1, (.t 33))],none⟩,⟨some 35,.bsl 4 1
 [.val (.int .i64 0),.val (.int .i64 0),.val (.int .i64 0),.val (.int .i64 0)] [(0, 4, (.t 34))],none⟩,⟨some 36,.app 4 (.t 18) (.t 35),none⟩,qm 3 36] []))) (.reg false [qm 10 4,qs 11 10,qm 4 11] [])))
def c70 : CF := ⟨.seq (.reg false [qj 2] []) (.seq (.reg false [qj 3] []) (.seq (.seq (.reg false [qi 4 0] []) (.block 0 (.loop L70_0))) (.seq (.reg false [qm 37 3,qm 2 37] []) .ret))),[.tmp 2]⟩
def L71_0 : CC := (.seq (.seq (.reg false [qm 5 4,qm 6 0,qe 7 6,qz 8 5 7] []) (.cond (.t 8) .skip (.exit 0))) (.seq (.block 1 (.reg false [qm 11 3,qm 12 0,qm 13 4,⟨some 14,.ias 8 (.t 12) (.t 13),none⟩,⟨some 15,.ld 8 true (.t 14),none⟩,qc 16 127
 15,⟨some 17,.bsl 9 1 [.val (.int .i64 0),.val (.string ⟨#[]⟩),.val (.int .i64 0),.val (.int .i64 0),.val (.bool false),.val (.int .i64 0),.val (.int .i64 0),.val (.string ⟨#[]⟩),.val (.bool false)] [(0, 9, (.t 16))],none⟩,⟨some 18,.app 9 (.t 11)
 (.t 17),none⟩,qm 3 18] [])) (.reg false [qm 9 4,qs 10 9,qm 4 10] [])))
def c71 : CF := ⟨.seq (.reg false [qj 2] []) (.seq (.reg false [qj 3] []) (.seq (.seq (.reg false [qi 4 0] []) (.block 0 (.loop L71_0))) (.seq (.reg false [qm 19 3,qm 2 19] []) .ret))),[.tmp 2]⟩
def L72_0 : CC := (.seq (.reg false [qz 18 17 16] []) (.seq (.cond (.t 18) .skip (.exit 0)) (.seq (.block 1 (.seq (.reg false [qx 19 15 17,ql 20 19,qm 4 20] []) (.seq (.reg false [qm 21 4,⟨some 22,.bin .leq 5 false true (.t 21) (.c (.val (.int .u8
 48))),none⟩,qm 23 22,qmF 24 4 23,⟨some 25,.bin .gtr 5 false true (.t 24) (.c (.val (.int .u8 57))),some (23, false)⟩,qo 26 23 25] []) (.cond (.t 26) (.seq (.reg false [qf 2] []) .ret) .skip)))) (.reg false [qs 27 17,qm 17 27] []))))
def c72 : CF := ⟨.seq (.reg false [qf 2] []) (.seq (.seq (.reg false [qm 5 0,⟨some 6,.call (.c (.fn 128 [])) [.t 5,.c (.val (.string ⟨#[48]⟩))],none⟩,qb 7 6,qm 8 7,qmF 9 0 8,⟨some 10,.len true (.t 9),some (8, false)⟩,⟨some 11,.bin .gtr 3 false true
 (.t 10) (.c (.val (.int .i64 6))),some (8, false)⟩,qo 12 8 11] []) (.cond (.t 12) (.seq (.reg false [qf 2] []) .ret) .skip)) (.seq (.seq (.reg false [qm 13 0,⟨some 14,.slc 0 (.t 13) (some (.c (.val (.int .i64 1)))) none none,none⟩,⟨some 15,.s2b (.t
 14),none⟩,qe 16 15,qi 17 0] []) (.block 0 (.loop L72_0))) (.seq (.reg false [qt 2] []) .ret))),[.tmp 2]⟩
def c73 : CF := ⟨.seq (.reg false [⟨some 1,.box (.t 0),none⟩,qf 2] []) (.seq (.reg false [qa 3 3 1,ql 4 3,qe 5 4,⟨some 6,.bin .leq 3 false true (.t 5) (.c (.val (.int .i64 64))),none⟩,qm 7 6,qaT 8 3 1 7,qlT 9 8 7,qcT 10 129 9 7,qp 11 7 10,qm 12
 11,qaT 13 4 1 12,qlT 14 13 12,⟨some 15,.bin .geq 3 false true (.t 14) (.c (.val (.int .i64 0))),some (12, true)⟩,qp 16 12 15,qm 17 16,qaT 18 4 1 17,qlT 19 18 17,⟨some 20,.bin .leq 3 false true (.t 19) (.c (.val (.int .i64 1048576))),some (17,
 true)⟩,qp 21 17 20,qm 22 21,qaT 23 5 1 22,qlT 24 23 22,qcT 25 130 24 22,qp 26 22 25,qm 27 26,qaT 28 6 1 27,qlT 29 28 27,qcT 30 76 29 27,qp 31 27 30,qm 32 31,qaT 33 7 1 32,qlT 34 33 32,qcT 35 131 34 32,qp 36 32 35,qm 37 36,qaT 38 9 1 37,qlT 39 38
 37,qaT 40 0 1 37,qlT 41 40 37,qkT 42 132 39 41 37,qp 43 37 42,qm 44 43,qaT 45 11 1 44,qlT 46 45 44,qeT 47 46 44,qqT 48 47 0 44,qp 49 44 48,qm 2 49] []) .ret),[.tmp 2]⟩
def L74_0 : CC := (.seq (.reg false [qz 12 11 10] []) (.seq (.cond (.t 12) .skip (.exit 0)) (.seq (.block 1 (.seq (.reg false [⟨some 13,.ias 3 (.t 9) (.t 11),none⟩,⟨some 14,.ld 3 true (.t 13),none⟩,⟨some 5,.alloc [.val (.int .i64 0),.val (.complex
 .f64 0 0),.val (.float .f64 0)],none⟩,qw 3 5 14] []) (.seq (.seq (.reg false [⟨some 15,.ld 3 true (.t 5),none⟩,qc 16 133 15,qb 17 16,qm 18 17,qmF 19 3 18,⟨some 20,.ld 3 true (.t 5),some (18, false)⟩,qcF 21 134 20 18,⟨some 22,.bin .lss 3 false false
 (.t 19) (.t 21),some (18, false)⟩,qo 23 18 22] []) (.cond (.t 23) (.seq (.reg false [qf 2] []) .ret) .skip)) (.reg false [qm 24 3,⟨some 25,.ld 3 true (.t 5),none⟩,qc 26 134 25,⟨some 27,.bin .sub 3 true false (.c (.val (.int .i64 1))) (.t
 26),none⟩,⟨some 28,.bin .add 3 false false (.t 24) (.t 27),none⟩,qm 3 28] [])))) (.reg false [qs 29 11,qm 11 29] []))))
def c74 : CF := ⟨.seq (.reg false [qf 2] []) (.seq (.seq (.reg false [qm 6 0,qe 7 6,⟨some 8,.bin .gtr 3 false true (.t 7) (.c (.val (.int .i64 32))),none⟩] []) (.cond (.t 8) (.seq (.reg false [qf 2] []) .ret) .skip)) (.seq (.reg false [qi 3 0] [])
 (.seq (.seq (.reg false [qm 9 0,qe 10 9,qi 11 0] []) (.block 0 (.loop L74_0))) (.seq (.reg false [qm 30 3,qq 31 30 1,qm 2 31] []) .ret)))),[.tmp 2]⟩
def c75 : CF := ⟨.seq (.reg false [⟨some 1,.box (.t 0),none⟩,qf 2] []) (.seq (.reg false [qa 3 3 1,ql 4 3,qe 5 4,qa 6 4 1,ql 7 6,⟨some 8,.bin .add 3 false false (.t 5) (.t 7),none⟩,qa 9 5 1,ql 10 9,qe 11 10,⟨some 12,.bin .add 3 false false (.t 8)
 (.t 11),none⟩,qa 13 6 1,ql 14 13,qe 15 14,⟨some 16,.bin .add 3 false false (.t 12) (.t 15),none⟩,qa 17 7 1,ql 18 17,qe 19 18,⟨some 20,.bin .add 3 false false (.t 16) (.t 19),none⟩,qa 21 9 1,ql 22 21,qe 23 22,⟨some 24,.bin .add 3 false false (.t 20)
 (.t 23),none⟩,qa 25 8 1,ql 26 25,qe 27 26,⟨some 28,.bin .add 3 false false (.t 24) (.t 27),none⟩,qq 29 28 0,qm 30 29,qaT 31 4 1 30,qlT 32 31 30,qqT 33 32 0 30,qp 34 30 33,qm 35 34,qaT 36 10 1 35,qlT 37 36 35,qbT 38 37 35,qp 39 35 38,qm 2 39] [])
 .ret),[.tmp 2]⟩
def c76 : CF := ⟨.seq (.reg false [qf 2] []) (.seq (.reg false [qm 3 0,qe 4 3,⟨some 5,.bin .leq 3 false true (.t 4) (.c (.val (.int .i64 64))),none⟩,qm 6 5,qmT 7 0 6,qcT 8 135 7 6,qp 9 6 8,qm 2 9] []) .ret),[.tmp 2]⟩
def L77_0 : CC := (.seq (.seq (.reg false [qm 14 7,⟨some 15,.bin .lss 3 false true (.t 14) (.c (.val (.int .i64 10))),none⟩] []) (.cond (.t 15) .skip (.exit 0))) (.seq (.block 1 (.seq (.seq (.reg false [qm 18 7,qq 19 18 9] []) (.cond (.t 19) (.seq
 (.reg false [qm 20 0,qn 21 20,qa 22 2 21,⟨none,.st 1 (.t 22) (.c (.val (.int .i64 3))),none⟩] []) (.seq (.reg false [qi 4 0] []) .ret)) .skip)) (.seq (.seq (.reg true [qm 23 0,qn 24 23,qa 25 1 24,ql 26 25,qm 27 7,⟨some 28,.bin .add 3 false false
 (.t 26) (.t 27),none⟩,qm 29 0,qn 30 29,qa 31 0 30,ql 32 31,qe 33 32,⟨some 34,.bin .geq 3 false false (.t 28) (.t 33),none⟩] []) (.cond (.t 34) (.seq (.reg false [qm 35 0,qn 36 35,qa 37 2 36,⟨none,.st 1 (.t 37) (.c (.val (.int .i64 2))),none⟩] [])
 (.seq (.reg false [qi 4 0] []) .ret)) .skip)) (.seq (.reg true [qm 38 0,qn 39 38,qa 40 0 39,ql 41 40,qm 42 0,qn 43 42,qa 44 1 43,ql 45 44,qm 46 7,⟨some 47,.bin .add 3 false false (.t 45) (.t 46),none⟩,qx 48 41 47,ql 49 48,⟨some 50,.cv 5 3 (.t
 49),none⟩,qm 8 50] []) (.seq (.reg false [qm 51 5,qm 52 8,⟨some 53,.bin .rem 3 false true (.t 52) (.c (.val (.int .i64 128))),none⟩,qm 54 6,⟨some 55,.bin .mul 3 false false (.t 53) (.t 54),none⟩,⟨some 56,.bin .add 3 false false (.t 51) (.t
 55),none⟩,qm 5 56] []) (.seq (.reg false [qm 57 6,⟨some 58,.bin .mul 3 false true (.t 57) (.c (.val (.int .i64 128))),none⟩,qm 6 58] []) (.seq (.seq (.reg false [qm 59 8,⟨some 60,.bin .geq 3 false true (.t 59) (.c (.val (.int .i64 128))),none⟩] [])
 (.cond (.t 60) (.exit 1) .skip)) (.seq (.seq (.reg false [qm 61 8,qq 62 61 0,qm 63 62,qmT 64 7 63,⟨some 65,.bin .gtr 3 false true (.t 64) (.c (.val (.int .i64 0))),some (63, true)⟩,qp 66 63 65,qm 67 66,qmF 68 5 67,qmF 69 1 67,⟨some 70,.bin .gtr 3
 false false (.t 68) (.t 69),some (67, false)⟩,qo 71 67 70] []) (.cond (.t 71) (.seq (.reg false [qm 72 0,qn 73 72,qa 74 2 73,⟨none,.st 1 (.t 74) (.c (.val (.int .i64 3))),none⟩] []) (.seq (.reg false [qi 4 0] []) .ret)) .skip)) (.seq (.reg false
 [qm 75 0,qm 76 0,qn 77 76,qa 78 1 77,ql 79 78,qm 80 7,⟨some 81,.bin .add 3 false false (.t 79) (.t 80),none⟩,qs 82 81,qn 83 75,qa 84 1 83,qw 1 84 82] []) (.seq (.reg false [qm 85 5,qm 4 85] []) .ret)))))))))) (.reg false [qm 16 7,qs 17 16,qm 7 17] [])))
def c77 : CF := ⟨.seq (.reg false [qi 4 0] []) (.seq (.seq (.reg false [qm 9 0,qn 10 9,qa 11 2 10,ql 12 11,⟨some 13,.bin .neq 3 false true (.t 12) (.c (.val (.int .i64 0))),none⟩] []) (.cond (.t 13) (.seq (.reg false [qi 4 0] []) .ret) .skip)) (.seq
 (.reg false [qi 5 0,qi 6 1] []) (.seq (.seq (.reg false [qi 7 0] []) (.block 0 (.loop L77_0))) (.seq (.reg false [qi 4 0] []) .ret)))),[.tmp 4]⟩
def c78 : CF := ⟨.seq (.reg false [⟨some 4,.mv (.c (.val (.string ⟨#[]⟩))),none⟩] []) (.seq (.reg false [qm 7 0,qm 8 1,qk 9 77 7 8,qm 5 9] []) (.seq (.seq (.reg false [qm 10 0,qn 11 10,qa 12 2 11,ql 13 12,⟨some 14,.bin .neq 3 false true (.t 13) (.c
 (.val (.int .i64 0))),none⟩] []) (.cond (.t 14) (.seq (.reg false [⟨some 4,.mv (.c (.val (.string ⟨#[]⟩))),none⟩] []) .ret) .skip)) (.seq (.seq (.reg true [qm 15 5,qm 16 0,qn 17 16,qa 18 0 17,ql 19 18,qe 20 19,qm 21 0,qn 22 21,qa 23 1 22,ql 24
 23,⟨some 25,.bin .sub 3 false false (.t 20) (.t 24),none⟩,⟨some 26,.bin .gtr 3 false false (.t 15) (.t 25),none⟩] []) (.cond (.t 26) (.seq (.reg false [qm 27 0,qn 28 27,qa 29 2 28,⟨none,.st 1 (.t 29) (.c (.val (.int .i64 2))),none⟩] []) (.seq (.reg
 false [⟨some 4,.mv (.c (.val (.string ⟨#[]⟩))),none⟩] []) .ret)) .skip)) (.seq (.reg true [qm 30 0,qn 31 30,qa 32 0 31,ql 33 32,qm 34 0,qn 35 34,qa 36 1 35,ql 37 36,qm 38 0,qn 39 38,qa 40 1 39,ql 41 40,qm 42 5,⟨some 43,.bin .add 3 false false (.t
 41) (.t 42),none⟩,⟨some 44,.slc 1 (.t 33) (some (.t 37)) (some (.t 43)) none,none⟩,⟨some 45,.b2s (.t 44),none⟩,qm 6 45] []) (.seq (.reg false [qm 46 0,qm 47 0,qn 48 47,qa 49 1 48,ql 50 49,qm 51 5,⟨some 52,.bin .add 3 false false (.t 50) (.t
 51),none⟩,qn 53 46,qa 54 1 53,qw 1 54 52] []) (.seq (.reg false [qm 55 6,qm 4 55] []) .ret)))))),[.tmp 4]⟩
def L79_0 : CC := (.seq (.seq (.reg false [qm 9 5,qm 10 4,qz 11 9 10,qm 12 11,qmT 13 0 12,qnT 14 13 12,qaT 15 2 14 12,qlT 16 15 12,qqT 17 16 0 12,qp 18 12 17] []) (.cond (.t 18) .skip (.exit 0))) (.seq (.block 1 (.seq (.reg false [qm 21 0,qd 22 78
 21 6,qm 6 22] []) (.reg false [qm 23 3,qm 24 6,qm 25 0,qd 26 77 25 1048576,⟨some 27,.build [.val (.string ⟨#[]⟩),.val (.int .i64 0)] [(0, 1, (.t 24)),(1, 1, (.t 26))],none⟩,⟨some 28,.bsl 2 1 [.val (.string ⟨#[]⟩),.val (.int .i64 0)] [(0, 2, (.t
 27))],none⟩,⟨some 29,.app 2 (.t 23) (.t 28),none⟩,qm 3 29] []))) (.reg false [qm 19 5,qs 20 19,qm 5 20] [])))
def c79 : CF := ⟨.seq (.reg false [qj 2] []) (.seq (.reg false [qj 3] []) (.seq (.reg false [qm 7 0,qd 8 77 7 64,qm 4 8] []) (.seq (.seq (.reg false [qi 5 0] []) (.block 0 (.loop L79_0))) (.seq (.reg false [qm 30 3,qm 2 30] []) .ret)))),[.tmp 2]⟩
def L80_0 : CC := (.seq (.seq (.reg false [qm 27 6,qm 28 5,qz 29 27 28,qm 30 29,qmT 31 0 30,qnT 32 31 30,qaT 33 2 32 30,qlT 34 33 30,qqT 35 34 0 30,qp 36 30 35] []) (.cond (.t 36) .skip (.exit 0))) (.seq (.block 1 (.reg true [qm 39 1,qm 40 1,qn 41
 40,qa 42 5 41,ql 43 42,qm 44 0,qd 45 78 44 6,⟨some 46,.bsl 1 1 [.val (.string ⟨#[]⟩)] [(0, 1, (.t 45))],none⟩,⟨some 47,.app 1 (.t 43) (.t 46),none⟩,qn 48 39,qa 49 5 48,qw 1 49 47] [(4, 6),(4, 7)])) (.reg false [qm 37 6,qs 38 37,qm 6 38] [])))
def L80_1 : CC := (.seq (.seq (.reg false [qm 57 7,qm 58 5,qz 59 57 58,qm 60 59,qmT 61 0 60,qnT 62 61 60,qaT 63 2 62 60,qlT 64 63 60,qqT 65 64 0 60,qp 66 60 65] []) (.cond (.t 66) .skip (.exit 2))) (.seq (.block 3 (.seq (.reg false [qm 69 0,qd 70 78
 69 6,qm 8 70] []) (.reg true [qm 71 1,qm 72 1,qn 73 72,qa 74 7 73,ql 75 74,qm 76 8,qm 77 0,qc 78 79 77,⟨some 79,.build [.val (.string ⟨#[]⟩),.im [] true] [(0, 1, (.t 76)),(1, 1, (.t 78))],none⟩,⟨some 80,.bsl 2 1 [.val (.string ⟨#[]⟩),.im [] true]
 [(0, 2, (.t 79))],none⟩,⟨some 81,.app 2 (.t 75) (.t 80),none⟩,qn 82 71,qa 83 7 82,qw 1 83 81] [(4, 7),(4, 9)]))) (.reg false [qm 67 7,qs 68 67,qm 7 68] [])))
def L80_2 : CC := (.seq (.seq (.reg false [qm 111 12,qm 112 5,qz 113 111 112,qm 114 113,qmT 115 0 114,qnT 116 115 114,qaT 117 2 116 114,qlT 118 117 114,qqT 119 118 0 114,qp 120 114 119] []) (.cond (.t 120) .skip (.exit 4))) (.seq (.block 5 (.seq
 (.reg false [qm 124 0,qc 125 138 124,qm 123 125,⟨some 126,.ext (.t 123) 0,none⟩,⟨some 127,.ext (.t 123) 1,none⟩,⟨some 13,.alloc [.val (.int .i64 0),.val (.string ⟨#[]⟩),.val (.int .i64 0),.val (.int .i64 0),.val (.bool false),.val (.int .i64
 0),.val (.int .i64 0),.val (.string ⟨#[]⟩),.val (.bool false)],none⟩,qw 9 13 126,qm 14 127] []) (.seq (.seq (.reg false [qm 128 14,qb 129 128,qm 130 129,qmT 131 0 130,qnT 132 131 130,qaT 133 2 132 130,qlT 134 133 130,qqT 135 134 0 130,qp 136 130
 135] []) (.cond (.t 136) (.seq (.reg false [qf 4] []) .ret) .skip)) (.reg true [qm 137 1,qm 138 1,qn 139 138,qa 140 9 139,ql 141 140,⟨some 142,.ld 9 true (.t 13),none⟩,⟨some 143,.bsl 9 1 [.val (.int .i64 0),.val (.string ⟨#[]⟩),.val (.int .i64
 0),.val (.int .i64 0),.val (.bool false),.val (.int .i64 0),.val (.int .i64 0),.val (.string ⟨#[]⟩),.val (.bool false)] [(0, 9, (.t 142))],none⟩,⟨some 144,.app 9 (.t 141) (.t 143),none⟩,qn 145 137,qa 146 9 145,qw 1 146 144] [(4, 6)])))) (.reg false
 [qm 121 12,qs 122 121,qm 12 122] [])))
def c80 : CF := ⟨.seq (.reg false [qf 4] []) (.seq (.reg false [qm 15 1,qm 16 0,qc 17 136 16,qn 18 15,qa 19 3 18,qw 1 19 17] []) (.seq (.reg false [qm 20 1,qm 21 0,qd 22 77 21 1048576,qn 23 20,qa 24 4 23,qw 1 24 22] []) (.seq (.reg false [qm 25 0,qd
 26 77 25 64,qm 5 26] []) (.seq (.seq (.reg false [qi 6 0] []) (.block 0 (.loop L80_0))) (.seq (.reg false [qm 50 1,qm 51 0,qc 52 79 51,qn 53 50,qa 54 6 53,qw 1 54 52] []) (.seq (.reg false [qm 55 0,qd 56 77 55 64,qm 5 56] []) (.seq (.seq (.reg
 false [qi 7 0] []) (.block 2 (.loop L80_1))) (.seq (.seq (.reg false [qm 84 1,qn 85 84,qa 86 0 85,ql 87 86,qq 88 87 1] []) (.cond (.t 88) (.seq (.reg false [qm 89 0,qd 90 78 89 2000,qm 9 90] []) (.seq (.reg false [qm 92 9,qc 93 137 92,qm 91
 93,⟨some 94,.ext (.t 91) 0,none⟩,⟨some 95,.ext (.t 91) 1,none⟩,qm 10 94,qm 11 95] []) (.seq (.seq (.reg false [qm 96 11,qb 97 96,qm 98 97,qmT 99 0 98,qnT 100 99 98,qaT 101 2 100 98,qlT 102 101 98,qqT 103 102 0 98,qp 104 98 103] []) (.cond (.t 104)
 (.seq (.reg false [qf 4] []) .ret) .skip)) (.reg false [qm 105 1,qm 106 10,qn 107 105,qa 108 8 107,qw 1 108 106] [])))) .skip)) (.seq (.reg false [qm 109 0,qd 110 77 109 32,qm 5 110] []) (.seq (.seq (.reg false [qi 12 0] []) (.block 4 (.loop
 L80_2))) (.seq (.seq (.reg false [qm 147 1,qn 148 147,qa 149 0 148,ql 150 149,qq 151 150 2] []) (.cond (.t 151) (.reg false [qm 152 1,qm 153 0,qd 154 77 153 1,qq 155 154 1,qn 156 152,qa 157 10 156,qw 1 157 155] []) .skip)) (.seq (.reg false [qt 4]
 []) .ret)))))))))))),[.tmp 4]⟩
def c81 : CF := ⟨.seq (.reg false [qi 2 0] []) (.seq (.seq (.reg true [qm 3 0,qn 4 3,qa 5 2 4,ql 6 5,qq 7 6 0,qm 8 7,qmT 9 0 8,qnT 10 9 8,qaT 11 1 10 8,qlT 12 11 8,qmT 13 0 8,qnT 14 13 8,qaT 15 0 14 8,qlT 16 15 8,qeT 17 16 8,⟨some 18,.bin .lss 3
 false false (.t 12) (.t 17),some (8, true)⟩,qp 19 8 18] []) (.cond (.t 19) (.seq (.reg false [qi 2 3] []) .ret) .skip)) (.seq (.reg false [qm 20 0,qn 21 20,qa 22 2 21,ql 23 22,qm 2 23] []) .ret)),[.tmp 2]⟩
def L87_0 : CC := (.seq (.seq (.reg false [qm 6 5,qm 7 0,⟨some 8,.len true (.t 7),none⟩,qz 9 6 8,qm 10 9,qmT 11 5 10,qmT 12 1 10,⟨some 13,.len true (.t 12),some (10, true)⟩,⟨some 14,.bin .lss 3 false false (.t 11) (.t 13),some (10, true)⟩,qp 15 10
 14] []) (.cond (.t 15) .skip (.exit 0))) (.seq (.block 1 (.seq (.seq (.reg true [qm 18 0,qm 19 5,⟨some 20,.ixs (.t 18) (.t 19),none⟩,qm 21 1,qm 22 5,⟨some 23,.ixs (.t 21) (.t 22),none⟩,⟨some 24,.bin .lss 5 false false (.t 20) (.t 23),none⟩] [])
 (.cond (.t 24) (.seq (.reg false [⟨some 4,.mv (.c (.val (.int .i64 (-1)))),none⟩] []) .ret) .skip)) (.seq (.reg true [qm 25 0,qm 26 5,⟨some 27,.ixs (.t 25) (.t 26),none⟩,qm 28 1,qm 29 5,⟨some 30,.ixs (.t 28) (.t 29),none⟩,⟨some 31,.bin .gtr 5 false
 false (.t 27) (.t 30),none⟩] []) (.cond (.t 31) (.seq (.reg false [qi 4 1] []) .ret) .skip)))) (.reg false [qm 16 5,qs 17 16,qm 5 17] [])))
def c87 : CF := ⟨.seq (.reg false [qi 4 0] []) (.seq (.seq (.reg false [qi 5 0] []) (.block 0 (.loop L87_0))) (.seq (.seq (.reg false [qm 32 0,⟨some 33,.len true (.t 32),none⟩,qm 34 1,⟨some 35,.len true (.t 34),none⟩,qz 36 33 35] []) (.cond (.t 36)
 (.seq (.reg false [⟨some 4,.mv (.c (.val (.int .i64 (-1)))),none⟩] []) .ret) .skip)) (.seq (.seq (.reg false [qm 37 0,⟨some 38,.len true (.t 37),none⟩,qm 39 1,⟨some 40,.len true (.t 39),none⟩,⟨some 41,.bin .gtr 3 false false (.t 38) (.t 40),none⟩]
 []) (.cond (.t 41) (.seq (.reg false [qi 4 1] []) .ret) .skip)) (.seq (.reg false [qi 4 0] []) .ret)))),[.tmp 4]⟩
def c93 : CF := ⟨.seq (.reg false [qj 0] []) (.seq (.reg false [⟨some 1,.bsl 1 7 [.val (.string ⟨#[]⟩),.val (.string ⟨#[]⟩),.val (.string ⟨#[]⟩),.val (.string ⟨#[]⟩),.val (.string ⟨#[]⟩),.val (.string ⟨#[]⟩),.val (.string ⟨#[]⟩)] [(0, 1, (.c (.val
 (.string ⟨#[]⟩)))),(1, 1, (.c (.val (.string ⟨#[97,108,108]⟩)))),(2, 1, (.c (.val (.string ⟨#[100,105,115,99]⟩)))),(3, 1, (.c (.val (.string ⟨#[104,97,108,102]⟩)))),(4, 1, (.c (.val (.string ⟨#[110,111,116]⟩)))),(5, 1, (.c (.val (.string
 ⟨#[97,110,100]⟩)))),(6, 1, (.c (.val (.string ⟨#[111,114]⟩))))],none⟩,qm 0 1] []) .ret),[.tmp 0]⟩
def c95 : CF := ⟨.seq (.reg false [⟨some 2,.mv (.c (.val (.string ⟨#[]⟩))),none⟩] []) (.seq (.reg false [qm 3 0,⟨some 4,.cv 165 3 (.t 3),none⟩,qc 5 150 4,qm 2 5] []) .ret),[.tmp 2]⟩
def c96 : CF := ⟨.seq (.reg false [⟨some 1,.box (.t 0),none⟩,qf 2] []) (.seq (.block 0 (.seq (.seq (.reg false [qa 4 0 1,ql 5 4,⟨some 6,.bin .lss 3 false true (.t 5) (.c (.val (.int .i64 0))),none⟩,qm 3 6] []) (.cond (.t 3) .skip (.seq (.reg false
 [qa 7 0 1,ql 8 7,⟨some 9,.bin .geq 3 false true (.t 8) (.c (.val (.int .i64 32))),none⟩,qm 3 9] []) (.cond (.t 3) .skip (.seq (.reg false [qa 10 1 1,⟨some 11,.ld 3 true (.t 10),none⟩,qc 12 151 11,qb 13 12,qm 3 13] []) (.cond (.t 3) .skip (.seq
 (.reg false [qa 14 5 1,ql 15 14,qc 16 152 15,qb 17 16,qm 3 17] []) (.cond (.t 3) .skip (.reg false [qa 18 6 1,ql 19 18,⟨some 20,.len true (.t 19),none⟩,⟨some 21,.bin .gtr 3 false true (.t 20) (.c (.val (.int .i64 16))),none⟩,qm 3 21] [])))))))))
 (.cond (.t 3) (.seq (.reg false [qf 2] []) .ret) (.seq (.reg false [qa 23 4 1,ql 24 23,qm 25 24,qaT 26 7 1 25,qlT 27 26 25,qmT 28 27 25,qaF 29 5 1 28,qlF 30 29 28,⟨some 31,.bin .neq 91 false true (.t 30) (.c (.val (.complex .f64 0 0))),some (28,
 false)⟩,⟨some 32,.pick (.t 28) (.c (.val (.bool true))) (.t 31),some (25, true)⟩,qp 33 25 32,qm 22 33] []) (.cond (.t 22) (.seq (.reg false [qf 2] []) .ret) .skip))))) (.seq (.reg false [qa 34 7 1,ql 35 34,qm 36 35,qaF 37 6 1 36,qlF 38 37 36,⟨some
 39,.bin .eql 9 false true (.t 38) (.c (.val (.string ⟨#[]⟩))),some (36, false)⟩,qo 40 36 39,qm 2 40] []) .ret)),[.tmp 2]⟩
def c97 : CF := ⟨.seq (.reg false [⟨some 1,.box (.t 0),none⟩,qi 2 0] []) (.seq (.block 0 (.seq (.reg false [qa 4 4 1,ql 5 4,qm 3 5] []) (.cond (.t 3) (.seq (.reg false [qi 2 0] []) .ret) (.seq (.reg false [qa 7 7 1,ql 8 7,qm 6 8] []) (.cond (.t 6)
 (.seq (.reg false [qi 2 2] []) .ret) .skip))))) (.seq (.reg false [qi 2 1] []) .ret)),[.tmp 2]⟩
def L98_0 : CC := (.block 1048576 (.seq (.seq .skip (.seq (.block 0 (.seq (.reg false [qm 7 3,qq 8 7 9,qm 6 8] []) (.cond (.t 6) (.seq (.reg false [qi 2 0,qi 3 0,qi 4 3] []) .ret) (.seq (.reg true [qm 10 0,qn 11 10,qa 12 1 11,ql 13 12,qm 14 3,⟨some
 15,.bin .add 3 false false (.t 13) (.t 14),none⟩,qm 16 0,qn 17 16,qa 18 0 17,ql 19 18,qe 20 19,⟨some 21,.bin .eql 3 false false (.t 15) (.t 20),none⟩,qm 9 21] []) (.cond (.t 9) (.seq (.reg false [qi 2 0,qi 3 0,qi 4 2] []) .ret) .skip))))) (.seq
 (.reg true [qm 22 0,qn 23 22,qa 24 0 23,ql 25 24,qm 26 0,qn 27 26,qa 28 1 27,ql 29 28,qm 30 3,⟨some 31,.bin .add 3 false false (.t 29) (.t 30),none⟩,qx 32 25 31,ql 33 32,qm 5 33] []) (.seq (.reg false [qm 34 2,qm 35 5,⟨some 36,.bin .andNot 5 false
 true (.t 35) (.c (.val (.int .u8 128))),none⟩,⟨some 37,.cv 5 3 (.t 36),none⟩,qm 38 3,⟨some 39,.bin .mul 3 true false (.c (.val (.int .i64 7))) (.t 38),none⟩,⟨some 40,.bin .shl 3 false false (.t 37) (.t 39),none⟩,⟨some 41,.bin .or 3 false false (.t
 34) (.t 40),none⟩,qm 2 41] []) (.seq (.reg false [qm 42 3,qs 43 42,qm 3 43] []) (.seq (.seq (.reg false [qm 44 5,⟨some 45,.bin .geq 5 false true (.t 44) (.c (.val (.int .u8 128))),none⟩] []) (.cond (.t 45) (.exit 1048576) .skip)) (.seq (.seq (.reg
 false [qm 46 5,⟨some 47,.bin .eql 5 false true (.t 46) (.c (.val (.int .u8 0))),none⟩,qm 48 47,qmT 49 3 48,⟨some 50,.bin .gtr 3 false true (.t 49) (.c (.val (.int .i64 1))),some (48, true)⟩,qp 51 48 50] []) (.cond (.t 51) (.seq (.reg false [qi 2
 0,qi 3 0,qi 4 3] []) .ret) .skip)) (.seq (.reg false [qm 52 2,qm 53 3,qm 2 52,qm 3 53,qi 4 0] []) .ret)))))))) (.exit 2097152)))
def c98 : CF := ⟨.seq (.reg false [qi 2 0,qi 3 0,qi 4 0] []) (.block 2097152 (.seq (.block 1048576 (.seq (.seq (.reg false [⟨some 5,.mv (.c (.val (.int .u8 0))),none⟩] []) (.seq (.block 4194304 .skip) (.seq (.block 0 (.seq (.reg false [qm 7 3,qq 8 7
 9,qm 6 8] []) (.cond (.t 6) (.seq (.reg false [qi 2 0,qi 3 0,qi 4 3] []) .ret) (.seq (.reg true [qm 10 0,qn 11 10,qa 12 1 11,ql 13 12,qm 14 3,⟨some 15,.bin .add 3 false false (.t 13) (.t 14),none⟩,qm 16 0,qn 17 16,qa 18 0 17,ql 19 18,qe 20 19,⟨some
 21,.bin .eql 3 false false (.t 15) (.t 20),none⟩,qm 9 21] []) (.cond (.t 9) (.seq (.reg false [qi 2 0,qi 3 0,qi 4 2] []) .ret) .skip))))) (.seq (.reg true [qm 22 0,qn 23 22,qa 24 0 23,ql 25 24,qm 26 0,qn 27 26,qa 28 1 27,ql 29 28,qm 30 3,⟨some
 31,.bin .add 3 false false (.t 29) (.t 30),none⟩,qx 32 25 31,ql 33 32,qm 5 33] []) (.seq (.reg false [qm 34 2,qm 35 5,⟨some 36,.bin .andNot 5 false true (.t 35) (.c (.val (.int .u8 128))),none⟩,⟨some 37,.cv 5 3 (.t 36),none⟩,qm 38 3,⟨some 39,.bin
 .mul 3 true false (.c (.val (.int .i64 7))) (.t 38),none⟩,⟨some 40,.bin .shl 3 false false (.t 37) (.t 39),none⟩,⟨some 41,.bin .or 3 false false (.t 34) (.t 40),none⟩,qm 2 41] []) (.seq (.reg false [qm 42 3,qs 43 42,qm 3 43] []) (.seq (.seq (.reg
 false [qm 44 5,⟨some 45,.bin .geq 5 false true (.t 44) (.c (.val (.int .u8 128))),none⟩] []) (.cond (.t 45) (.exit 1048576) .skip)) (.seq (.seq (.reg false [qm 46 5,⟨some 47,.bin .eql 5 false true (.t 46) (.c (.val (.int .u8 0))),none⟩,qm 48 47,qmT
 49 3 48,⟨some 50,.bin .gtr 3 false true (.t 49) (.c (.val (.int .i64 1))),some (48, true)⟩,qp 51 48 50] []) (.cond (.t 51) (.seq (.reg false [qi 2 0,qi 3 0,qi 4 3] []) .ret) .skip)) (.seq (.reg false [qm 52 2,qm 53 3,qm 2 52,qm 3 53,qi 4 0] [])
 .ret))))))))) (.exit 2097152))) (.loop L98_0))),[.tmp 2,.tmp 3,.tmp 4]⟩
def c99 : CF := ⟨.seq (.reg false [⟨some 4,.mv (.c (.val (.string ⟨#[]⟩))),none⟩] []) (.seq (.reg false [qm 6 0,qm 7 1,qk 8 42 6 7,qm 5 8] []) (.seq (.block 0 (.seq (.reg false [qm 10 0,qc 11 43 10,⟨some 12,.bin .neq 47 false true (.t 11) (.c (.val
 (.int .i64 0))),none⟩,qm 9 12] []) (.cond (.t 9) (.seq (.reg false [⟨some 4,.mv (.c (.val (.string ⟨#[]⟩))),none⟩] []) .ret) (.seq (.reg true [qm 14 5,qm 15 0,qn 16 15,qa 17 0 16,ql 18 17,qe 19 18,qm 20 0,qn 21 20,qa 22 1 21,ql 23 22,⟨some 24,.bin
 .sub 3 false false (.t 19) (.t 23),none⟩,⟨some 25,.bin .gtr 3 false false (.t 14) (.t 24),none⟩,qm 13 25] []) (.cond (.t 13) (.seq (.reg false [qm 26 0,qn 27 26,qa 28 2 27,⟨none,.st 1 (.t 28) (.c (.val (.int .i64 2))),none⟩] []) (.seq (.reg false
 [⟨some 4,.mv (.c (.val (.string ⟨#[]⟩))),none⟩] []) .ret)) .skip))))) (.seq (.reg false [qm 29 0,qn 30 29,qa 31 1 30,ql 32 31,qm 33 5,⟨some 34,.bin .add 3 false false (.t 32) (.t 33),none⟩,qn 35 29,qa 36 1 35,qw 1 36 34] []) (.seq (.reg true [qm 37
 0,qn 38 37,qa 39 0 38,ql 40 39,qm 41 0,qn 42 41,qa 43 1 42,ql 44 43,qm 45 5,⟨some 46,.bin .sub 3 false false (.t 44) (.t 45),none⟩,qm 47 0,qn 48 47,qa 49 1 48,ql 50 49,⟨some 51,.slc 1 (.t 40) (some (.t 46)) (some (.t 50)) none,none⟩,⟨some 52,.b2s
 (.t 51),none⟩,qm 4 52] []) .ret)))),[.tmp 4]⟩
def L100_0 : CC := (.seq (.seq (.reg false [qm 14 7,qm 15 6,qz 16 14 15,qm 17 16,qmT 18 0 17,qcT 19 108 18 17,qbT 20 19 17,qp 21 17 20] []) (.cond (.t 21) .skip (.exit 0))) (.seq (.block 1 (.reg false [qm 24 2,⟨some 25,.call (.t 24) [],none⟩] []))
 (.reg false [qm 22 7,qs 23 22,qm 7 23] [])))
def c100 : CF := ⟨.seq (.reg false [qm 8 0,qn 9 8,qa 10 0 9,ql 11 10,qm 12 1,qk 13 42 11 12,qm 6 13] []) (.seq (.reg false [qi 7 0] []) (.block 0 (.loop L100_0))),[]⟩
def c101 : CF := ⟨.seq (.reg false [ql 3 0,qc 4 44 3,qm 2 4] []) (.reg true [ql 5 1,qm 6 2,ql 7 0,qc 8 102 7,⟨some 9,.build [.val (.string ⟨#[]⟩),.val (.int .i64 0)] [(0, 1, (.t 6)),(1, 1, (.t 8))],none⟩,⟨some 10,.bsl 2 1 [.val (.string ⟨#[]⟩),.val
 (.int .i64 0)] [(0, 2, (.t 9))],none⟩,⟨some 11,.app 2 (.t 5) (.t 10),none⟩,qw 1 1 11] [(0, 3),(0, 5)]),[]⟩
def c102 : CF := ⟨.seq (.reg false [qi 2 0] []) (.seq (.reg false [qm 3 0,qn 4 3,qa 5 0 4,ql 6 5,qd 7 42 6 1048576,qm 2 7] []) .ret),[.tmp 2]⟩
def c103 : CF := ⟨.seq (.reg false [ql 3 0,qc 4 44 3,qm 2 4] []) (.reg true [ql 5 1,ql 6 1,qn 7 6,qa 8 3 7,ql 9 8,qm 10 2,ql 11 0,qc 12 104 11,⟨some 13,.build [.val (.string ⟨#[]⟩),.val (.int .i64 0),.im [] true] [(0, 1, (.t 10)),(1, 2, (.t
 12))],none⟩,⟨some 14,.bsl 3 1 [.val (.string ⟨#[]⟩),.val (.int .i64 0),.im [] true] [(0, 3, (.t 13))],none⟩,⟨some 15,.app 3 (.t 9) (.t 14),none⟩,qn 16 5,qa 17 3 16,qw 1 17 15] [(0, 7),(1, 7),(4, 7),(0, 9),(1, 9),(4, 9),(0, 10)]),[]⟩
def c104 : CF := ⟨.seq (.reg false [⟨some 1,.box (.t 0),none⟩,⟨some 2,.alloc [.val (.int .i64 0),.im [] true],none⟩] []) (.seq (.reg false [ql 4 1,qc 5 102 4,⟨some 6,.build [.val (.int .i64 0),.im [] true] [(0, 1, (.t 5))],none⟩,⟨some 3,.alloc [.val
 (.int .i64 0),.im [] true],none⟩,qw 2 3 6] []) (.seq (.reg false [ql 7 1,⟨some 8,.mkf 153 [.t 3,.t 1],none⟩,⟨some 9,.call (.c (.fn 100 [])) [.t 7,.c (.val (.int .i64 4096)),.t 8],none⟩] []) (.seq (.reg false [⟨some 10,.ld 2 true (.t 3),none⟩,qw 2 2
 10] []) .ret))),[.cell 2 2 true]⟩
def c105 : CF := ⟨.reg true [ql 2 0,ql 3 0,qn 4 3,qa 5 5 4,ql 6 5,ql 7 1,qc 8 44 7,⟨some 9,.bsl 1 1 [.val (.string ⟨#[]⟩)] [(0, 1, (.t 8))],none⟩,⟨some 10,.app 1 (.t 6) (.t 9),none⟩,qn 11 2,qa 12 5 11,qw 1 12 10] [(0, 6),(1, 6),(4, 6),(0, 7),(1,
 7),(4, 7),(0, 8)],[]⟩
def c106 : CF := ⟨.seq (.reg false [ql 3 0,qc 4 44 3,qm 2 4] []) (.reg true [ql 5 1,ql 6 1,qn 7 6,qa 8 7 7,ql 9 8,qm 10 2,ql 11 0,qc 12 45 11,⟨some 13,.build [.val (.string ⟨#[]⟩),.im [] true] [(0, 1, (.t 10)),(1, 1, (.t 12))],none⟩,⟨some 14,.bsl 2
 1 [.val (.string ⟨#[]⟩),.im [] true] [(0, 2, (.t 13))],none⟩,⟨some 15,.app 2 (.t 9) (.t 14),none⟩,qn 16 5,qa 17 7 16,qw 1 17 15] [(0, 7),(1, 7),(4, 7),(0, 9),(1, 9),(4, 9),(0, 10)]),[]⟩
def L107_0 : CC := (.seq (.reg false [qz 11 10 9] []) (.seq (.cond (.t 11) .skip (.exit 0)) (.seq (.block 1 (.seq (.reg false [qx 12 8 10,ql 13 12,qm 6 13] []) (.reg false [qm 14 4,qm 15 6,qc 16 155 15,⟨some 17,.bsl 3 1 [.val (.int .i64 0),.val
 (.complex .f64 0 0),.val (.float .f64 0)] [(0, 3, (.t 16))],none⟩,⟨some 18,.app 3 (.t 14) (.t 17),none⟩,qm 4 18] []))) (.reg false [qs 19 10,qm 10 19] []))))
def c107 : CF := ⟨.seq (.reg false [qj 2,qf 3] []) (.seq (.reg false [qj 4] []) (.seq (.seq (.reg false [qm 7 0,⟨some 8,.call (.c (.fn 154 [])) [.t 7,.c (.val (.string ⟨#[44]⟩))],none⟩,qe 9 8,qi 10 0] []) (.block 0 (.loop L107_0))) (.seq (.seq (.reg
 false [qm 20 4,qc 21 39 20,qm 22 0,⟨some 23,.bin .neq 9 false false (.t 21) (.t 22),none⟩,qm 24 23,qmF 25 0 24,⟨some 26,.bin .eql 9 false true (.t 25) (.c (.val (.string ⟨#[]⟩))),some (24, false)⟩,qo 27 24 26] []) (.cond (.t 27) (.seq (.reg false
 [qj 2,qf 3] []) .ret) .skip)) (.seq (.reg false [qm 28 4,qm 2 28,qt 3] []) .ret)))),[.tmp 2,.tmp 3]⟩
def c108 : CF := ⟨.seq (.reg false [qf 2] []) (.seq (.reg false [qm 3 0,qn 4 3,qa 5 1 4,ql 6 5,qm 7 6,qmF 8 0 7,⟨some 9,.nck (.t 8),some (7, false)⟩,qaF 10 0 9 7,qlF 11 10 7,qcF 12 43 11 7,⟨some 13,.bin .neq 47 false true (.t 12) (.c (.val (.int
 .i64 0))),some (7, false)⟩,qo 14 7 13,qm 2 14] []) .ret),[.tmp 2]⟩
def c109 : CF := ⟨.seq (.reg false [ql 5 0,qn 6 5,qa 7 0 6,ql 8 7,qc 9 110 8,qm 4 9,⟨some 10,.ext (.t 4) 0,none⟩,⟨some 11,.ext (.t 4) 1,none⟩,⟨some 2,.alloc [.val (.int .i64 0),.val (.string ⟨#[]⟩),.val (.int .i64 0),.val (.int .i64 0),.val (.bool
 false),.val (.complex .f64 0 0),.val (.string ⟨#[]⟩),.val (.bool false)],none⟩,qw 8 2 10,qm 3 11] []) (.seq (.reg true [ql 12 1,ql 13 1,qn 14 13,qa 15 9 14,ql 16 15,⟨some 17,.ld 8 true (.t 2),none⟩,⟨some 18,.bsl 8 1 [.val (.int .i64 0),.val
 (.string ⟨#[]⟩),.val (.int .i64 0),.val (.int .i64 0),.val (.bool false),.val (.complex .f64 0 0),.val (.string ⟨#[]⟩),.val (.bool false)] [(0, 8, (.t 17))],none⟩,⟨some 19,.app 8 (.t 16) (.t 18),none⟩,qn 20 12,qa 21 9 20,qw 1 21 19] [(0, 6),(1,
 6),(4, 6),(0, 7)]) (.reg true [ql 22 0,ql 23 0,qn 24 23,qa 25 1 24,ql 26 25,qm 27 26,qmF 28 3 27,qbF 29 28 27,qmF 30 29 27,qlT 31 0 30,qnT 32 31 30,qaT 33 0 32 30,qlT 34 33 30,qcT 35 43 34 30,⟨some 36,.bin .eql 47 false true (.t 35) (.c (.val (.int
 .i64 0))),some (30, true)⟩,qpF 37 30 36 27,qo 38 27 37,qn 39 22,qa 40 1 39,qw 1 40 38] [(0, 13)])),[]⟩
def c110 : CF :=  ⟨.seq (.reg false [⟨some 2,.alloc [.val (.int .i64 0),.val (.string ⟨#[]⟩),.val (.int .i64 0),.val (.int .i64 0),.val (.bool false),.val (.complex .f64 0 0),.val (.string ⟨#[]⟩),.val (.bool false)],none⟩,qf 3] []) (.seq (.reg false
 [qm 7 0,qd 8 42 7 31,⟨some 9,.build [.val (.int .i64 0),.val (.string ⟨#[]⟩),.val (.int .i64 0),.val (.int .i64 0),.val (.bool false),.val (.complex .f64 0 0),.val (.string ⟨#[]⟩),.val (.bool false)] [(0, 1, (.t 8))],none⟩,⟨some 4,.alloc [.val
 (.int .i64 0),.val (.string ⟨#[]⟩),.val (.int .i64 0),.val (.int .i64 0),.val (.bool false),.val (.complex .f64 0 0),.val (.string ⟨#[]⟩),.val (.bool false)],none⟩,qw 8 4 9] []) (.seq (.reg false [qm 10 0,qd 11 99 10 6,qa 12 1 4,qa 13 0 12,qw 1 13
 11] []) (.seq (.reg false [qm 14 0,qd 15 42 14 1048576,qm 16 0,qd 17 42 16 1048576,qa 18 1 4,qa 19 1 18,qw 1 19 15,qa 20 1 4,qa 21 2 20,qw 1 21 17] []) (.seq (.reg false [qm 22 0,qd 23 42 22 2,qm 5 23] []) (.seq (.reg false [qm 24 5,qq 25 24 0,qm
 26 5,qq 27 26 2,qa 28 4 4,qw 1 28 25,qa 29 7 4,qw 1 29 27] []) (.seq (.seq (.reg false [qm 30 5,⟨some 31,.bin .neq 3 false true (.t 30) (.c (.val (.int .i64 0))),none⟩] []) (.cond (.t 31) (.seq (.reg false [qm 32 0,qc 33 156 32,qm 6 33] []) (.reg
 false [qm 34 6,qm 35 0,qc 36 156 35,⟨some 37,.fun_ .complex #[165,165] 91 [.t 34,.t 36],none⟩,qa 38 5 4,qw 1 38 37] [])) .skip)) (.seq (.seq (.reg false [qm 39 5,qq 40 39 2] []) (.cond (.t 40) (.reg false [qm 41 0,qd 42 99 41 16,qa 43 6 4,qw 1 43
 42] []) .skip)) (.seq (.seq (.reg false [qm 44 0,qc 45 43 44,⟨some 46,.bin .neq 47 false true (.t 45) (.c (.val (.int .i64 0))),none⟩,qm 47 46,⟨some 48,.ld 8 true (.t 4),some (47, false)⟩,qcF 49 96 48 47,qbF 50 49 47,qo 51 47 50] []) (.cond (.t 51)
 (.seq (.reg false [⟨some 52,.build [.val (.int .i64 0),.val (.string ⟨#[]⟩),.val (.int .i64 0),.val (.int .i64 0),.val (.bool false),.val (.complex .f64 0 0),.val (.string ⟨#[]⟩),.val (.bool false)] [],none⟩,qw 8 2 52,qf 3] []) .ret) .skip)) (.seq
 (.reg false [⟨some 53,.ld 8 true (.t 4),none⟩,qw 8 2 53,qt 3] []) .ret))))))))),[.cell 2 8 true,.tmp 3]⟩
def L111_0 : CC := (.seq (.seq (.reg false [qm 17 3,qm 18 0,⟨some 19,.len true (.t 18),none⟩,qz 20 17 19] []) (.cond (.t 20) .skip (.exit 0))) (.seq (.block 1 (.seq (.reg false [qm 23 0,qm 24 3,⟨some 25,.ixs (.t 23) (.t 24),none⟩,⟨some 26,.bin .lss
 5 false true (.t 25) (.c (.val (.int .u8 49))),none⟩,qm 27 26,qmF 28 0 27,qmF 29 3 27,⟨some 30,.ixs (.t 28) (.t 29),some (27, false)⟩,⟨some 31,.bin .gtr 5 false true (.t 30) (.c (.val (.int .u8 57))),some (27, false)⟩,qo 32 27 31] []) (.cond (.t
 32) (.seq (.reg false [qf 2] []) .ret) .skip))) (.reg false [qm 21 3,qs 22 21,qm 3 22] [])))
def c111 : CF := ⟨.seq (.reg false [qf 2] []) (.seq (.seq (.reg false [qm 4 0,⟨some 5,.len true (.t 4),none⟩,⟨some 6,.bin .lss 3 false true (.t 5) (.c (.val (.int .i64 1))),none⟩,qm 7 6,qmF 8 0 7,⟨some 9,.len true (.t 8),some (7, false)⟩,⟨some
 10,.bin .gtr 3 false true (.t 9) (.c (.val (.int .i64 6))),some (7, false)⟩,qo 11 7 10,qm 12 11,qmF 13 0 12,⟨some 14,.ixs (.t 13) (.c (.val (.int .i64 0))),some (12, false)⟩,⟨some 15,.bin .neq 5 false true (.t 14) (.c (.val (.int .u8 48))),some
 (12, false)⟩,qo 16 12 15] []) (.cond (.t 16) (.seq (.reg false [qf 2] []) .ret) .skip)) (.seq (.seq (.reg false [qi 3 1] []) (.block 0 (.loop L111_0))) (.seq (.reg false [qt 2] []) .ret))),[.tmp 2]⟩
def L112_0 : CC := (.seq (.seq (.reg false [qm 62 3,qa 63 5 1,ql 64 63,qe 65 64,qz 66 62 65] []) (.cond (.t 66) .skip (.exit 0))) (.seq (.block 1 (.seq (.reg true [qa 69 5 1,ql 70 69,qm 71 3,qx 72 70 71,ql 73 72,qc 74 111 73,qb 75 74,qm 76 75,qmF 77
 3 76,⟨some 78,.bin .gtr 3 false true (.t 77) (.c (.val (.int .i64 0))),some (76, false)⟩,qmF 79 78 76,qaT 80 5 1 79,qlT 81 80 79,qmT 82 3 79,⟨some 83,.bin .sub 3 false true (.t 82) (.c (.val (.int .i64 1))),some (79, true)⟩,⟨some 84,.ias 1 (.t 81)
 (.t 83),some (79, true)⟩,qlT 85 84 79,qaT 86 5 1 79,qlT 87 86 79,qmT 88 3 79,⟨some 89,.ias 1 (.t 87) (.t 88),some (79, true)⟩,qlT 90 89 79,qkT 91 87 85 90 79,⟨some 92,.bin .geq 3 false true (.t 91) (.c (.val (.int .i64 0))),some (79, true)⟩,qpF 93
 79 92 76,qo 94 76 93] []) (.cond (.t 94) (.seq (.reg false [qf 2] []) .ret) .skip))) (.reg false [qm 67 3,qs 68 67,qm 3 68] [])))
def L112_1 : CC := (.seq (.seq (.reg false [qm 95 4,qa 96 7 1,ql 97 96,qe 98 97,qz 99 95 98] []) (.cond (.t 99) .skip (.exit 2))) (.seq (.block 3 (.seq (.reg false [qa 102 7 1,ql 103 102,qm 104 4,⟨some 105,.ias 2 (.t 103) (.t 104),none⟩,qa 106 1
 105,ql 107 106,qe 108 107,⟨some 109,.bin .gtr 3 false true (.t 108) (.c (.val (.int .i64 64))),none⟩] []) (.cond (.t 109) (.seq (.reg false [qf 2] []) .ret) .skip))) (.reg false [qm 100 4,qs 101 100,qm 4 101] [])))
def L112_2 : CC := (.seq (.seq (.reg false [qm 110 5,qa 111 9 1,ql 112 111,qe 113 112,qz 114 110 113] []) (.cond (.t 114) .skip (.exit 4))) (.seq (.block 5 (.seq (.reg false [qa 117 9 1,ql 118 117,qm 119 5,⟨some 120,.ias 9 (.t 118) (.t
 119),none⟩,⟨some 121,.ld 9 true (.t 120),none⟩,qc 122 116 121,qb 123 122,qm 124 123,qaF 125 0 1 124,qlF 126 125 124,qqF 127 126 1 124,qmF 128 127 124,qaT 129 9 1 128,qlT 130 129 128,qmT 131 5 128,⟨some 132,.ias 9 (.t 130) (.t 131),some (128,
 true)⟩,qaT 133 4 132 128,qlT 134 133 128,qmT 135 134 128,qaF 136 9 1 135,qlF 137 136 135,qmF 138 5 135,⟨some 139,.ias 9 (.t 137) (.t 138),some (135, false)⟩,qaF 140 8 139 135,qlF 141 140 135,⟨some 142,.pick (.t 135) (.c (.val (.bool true))) (.t
 141),some (128, true)⟩,qpF 143 128 142 124,qo 144 124 143] []) (.cond (.t 144) (.seq (.reg false [qf 2] []) .ret) .skip))) (.reg false [qm 115 5,qs 116 115,qm 5 116] [])))
def c112 : CF := ⟨.seq (.reg false [⟨some 1,.box (.t 0),none⟩,qf 2] []) (.seq (.seq (.reg false [qa 6 3 1,ql 7 6,qe 8 7,⟨some 9,.bin .gtr 3 false true (.t 8) (.c (.val (.int .i64 64))),none⟩,qm 10 9,qaF 11 3 1 10,qlF 12 11 10,qcF 13 157 12 10,qbF 14
 13 10,qo 15 10 14,qm 16 15,qaF 17 4 1 16,qlF 18 17 16,⟨some 19,.bin .lss 3 false true (.t 18) (.c (.val (.int .i64 0))),some (16, false)⟩,qo 20 16 19,qm 21 20,qaF 22 4 1 21,qlF 23 22 21,⟨some 24,.bin .gtr 3 false true (.t 23) (.c (.val (.int .i64
 1048576))),some (21, false)⟩,qo 25 21 24,qm 26 25,qaF 27 5 1 26,qlF 28 27 26,qeF 29 28 26,⟨some 30,.bin .gtr 3 false true (.t 29) (.c (.val (.int .i64 64))),some (26, false)⟩,qo 31 26 30,qm 32 31,qaF 33 6 1 32,qlF 34 33 32,qcF 35 114 34 32,qbF 36
 35 32,qo 37 32 36,qm 38 37,qaF 39 7 1 38,qlF 40 39 38,qeF 41 40 38,⟨some 42,.bin .gtr 3 false true (.t 41) (.c (.val (.int .i64 64))),some (38, false)⟩,qo 43 38 42,qm 44 43,qaF 45 7 1 44,qlF 46 45 44,qcF 47 158 46 44,qbF 48 47 44,qo 49 44 48,qm 50
 49,qaF 51 9 1 50,qlF 52 51 50,qeF 53 52 50,⟨some 54,.bin .gtr 3 false true (.t 53) (.c (.val (.int .i64 32))),some (50, false)⟩,qo 55 50 54,qm 56 55,qaF 57 11 1 56,qlF 58 57 56,qeF 59 58 56,⟨some 60,.bin .gtr 3 false true (.t 59) (.c (.val (.int
 .i64 0))),some (56, false)⟩,qo 61 56 60] []) (.cond (.t 61) (.seq (.reg false [qf 2] []) .ret) .skip)) (.seq (.seq (.reg false [qi 3 0] []) (.block 0 (.loop L112_0))) (.seq (.seq (.reg false [qi 4 0] []) (.block 2 (.loop L112_1))) (.seq (.seq (.reg
 false [qi 5 0] []) (.block 4 (.loop L112_2))) (.seq (.reg false [qt 2] []) .ret))))),[.tmp 2]⟩
def L113_0 : CC := (.seq (.seq (.reg false [qm 14 4,qm 15 0,qe 16 15,qz 17 14 16] []) (.cond (.t 17) .skip (.exit 0))) (.seq (.block 1 (.seq (.reg false [qm 20 0,qm 21 4,⟨some 22,.ias 4 (.t 20) (.t 21),none⟩,⟨some 23,.ld 4 true (.t 22),none⟩,⟨some
 5,.alloc [.val (.int .i64 0),.val (.int .i64 0),.val (.int .i64 0),.val (.int .i64 0)],none⟩,qw 4 5 23] []) (.seq (.reg false [qa 24 0 5,ql 25 24] []) (.block 2 (.seq (.reg false [qq 27 25 2,qm 26 27] []) (.cond (.t 26) (.seq (.seq (.reg false [qa
 28 1 5,ql 29 28,qa 30 2 5,ql 31 30,⟨some 32,.build [.val (.int .i64 0),.val (.int .i64 0)] [(0, 1, (.t 29)),(1, 1, (.t 31))],none⟩,qc 33 159 32,qb 34 33,qm 35 34,qaF 36 3 5 35,qlF 37 36 35,⟨some 38,.bin .lss 3 false true (.t 37) (.c (.val (.int
 .i64 0))),some (35, false)⟩,qo 39 35 38,qm 40 39,qaF 41 3 5 40,qlF 42 41 40,⟨some 43,.bin .gtr 3 false true (.t 42) (.c (.val (.int .i64 2000))),some (40, false)⟩,qo 44 40 43] []) (.cond (.t 44) (.seq (.reg false [qf 2] []) .ret) .skip)) (.reg
 false [qm 45 3,qs 46 45,qm 3 46] [])) (.seq (.reg false [qq 48 25 3,qm 47 48] []) (.cond (.t 47) (.seq (.seq (.reg false [qa 49 1 5,ql 50 49,qa 51 2 5,ql 52 51,⟨some 53,.build [.val (.int .i64 0),.val (.int .i64 0)] [(0, 1, (.t 50)),(1, 1, (.t
 52))],none⟩,qc 54 159 53,qb 55 54,qm 56 55,qaF 57 3 5 56,qlF 58 57 56,⟨some 59,.call (.c (.fn 160 [])) [.t 58,.c (.val (.int .i64 2000000))],some (56, false)⟩,qbF 60 59 56,qo 61 56 60] []) (.cond (.t 61) (.seq (.reg false [qf 2] []) .ret) .skip))
 (.reg false [qm 62 3,qs 63 62,qm 3 63] [])) (.seq (.seq (.reg false [qq 65 25 1,qm 64 65] []) (.cond (.t 64) .skip (.seq (.reg false [qq 66 25 4,qm 64 66] []) (.cond (.t 64) .skip (.seq (.reg false [qq 67 25 5,qm 64 67] []) (.cond (.t 64) .skip
 (.reg false [qq 68 25 6,qm 64 68] []))))))) (.cond (.t 64) (.seq (.seq (.reg false [qa 69 1 5,ql 70 69,⟨some 71,.bin .neq 3 false true (.t 70) (.c (.val (.int .i64 0))),none⟩,qm 72 71,qaF 73 2 5 72,qlF 74 73 72,⟨some 75,.bin .neq 3 false true (.t
 74) (.c (.val (.int .i64 0))),some (72, false)⟩,qo 76 72 75,qm 77 76,qaF 78 3 5 77,qlF 79 78 77,⟨some 80,.bin .neq 3 false true (.t 79) (.c (.val (.int .i64 0))),some (77, false)⟩,qo 81 77 80] []) (.cond (.t 81) (.seq (.reg false [qf 2] []) .ret)
 .skip)) (.seq (.seq (.reg false [qa 82 0 5,ql 83 82,qq 84 83 1] []) (.cond (.t 84) (.reg false [qm 85 3,qs 86 85,qm 3 86] []) .skip)) (.seq (.seq (.reg false [qa 87 0 5,ql 88 87,qq 89 88 4,qm 90 89,qmT 91 3 90,⟨some 92,.bin .lss 3 false true (.t
 91) (.c (.val (.int .i64 1))),some (90, true)⟩,qp 93 90 92,qm 94 93,qaF 95 0 5 94,qlF 96 95 94,⟨some 97,.bin .gtr 3 false true (.t 96) (.c (.val (.int .i64 4))),some (94, false)⟩,qmF 98 97 94,qmT 99 3 98,⟨some 100,.bin .lss 3 false true (.t 99) (.c
 (.val (.int .i64 2))),some (98, true)⟩,qpF 101 98 100 94,qo 102 94 101] []) (.cond (.t 102) (.seq (.reg false [qf 2] []) .ret) .skip)) (.seq (.reg false [qa 103 0 5,ql 104 103,⟨some 105,.bin .gtr 3 false true (.t 104) (.c (.val (.int .i64
 4))),none⟩] []) (.cond (.t 105) (.reg false [qm 106 3,⟨some 107,.bin .sub 3 false true (.t 106) (.c (.val (.int .i64 1))),none⟩,qm 3 107] []) .skip))))) (.seq (.reg false [qf 2] []) .ret))))))))))) (.reg false [qm 18 4,qs 19 18,qm 4 19] [])))
def c113 : CF := ⟨.seq (.reg false [qf 2] []) (.seq (.seq (.reg false [qm 6 0,qe 7 6,⟨some 8,.bin .lss 3 false true (.t 7) (.c (.val (.int .i64 1))),none⟩,qm 9 8,qmF 10 0 9,qeF 11 10 9,⟨some 12,.bin .gtr 3 false true (.t 11) (.c (.val (.int .i64
 32))),some (9, false)⟩,qo 13 9 12] []) (.cond (.t 13) (.seq (.reg false [qf 2] []) .ret) .skip)) (.seq (.reg false [qi 3 0] []) (.seq (.seq (.reg false [qi 4 0] []) (.block 0 (.loop L113_0))) (.seq (.reg false [qm 108 3,qq 109 108 1,qm 2 109] [])
 .ret)))),[.tmp 2]⟩
def c114 : CF := ⟨.seq (.reg false [qf 2] []) (.seq (.reg false [qm 3 0,qe 4 3,⟨some 5,.bin .leq 3 false true (.t 4) (.c (.val (.int .i64 64))),none⟩,qm 6 5,qmT 7 0 6,qcT 8 161 7 6,qp 9 6 8,qm 2 9] []) .ret),[.tmp 2]⟩
def c115 : CF := ⟨.seq (.reg false [⟨some 2,.mv (.c (.val (.string ⟨#[]⟩))),none⟩] []) (.seq (.seq (.reg false [qm 3 0,⟨some 4,.bin .lss 3 false true (.t 3) (.c (.val (.int .i64 0))),none⟩,qm 5 4,qmT 6 0 5,⟨some 7,.bin .gtr 3 false true (.t 6) (.c
 (.val (.int .i64 (-1000000000)))),some (5, true)⟩,qp 8 5 7] []) (.cond (.t 8) (.seq (.reg false [qm 9 0,⟨some 10,.un .neg (.t 9),none⟩,qc 11 115 10,⟨some 12,.bin .add 9 true false (.c (.val (.string ⟨#[45]⟩))) (.t 11),none⟩,qm 2 12] []) .ret)
 .skip)) (.seq (.seq (.reg false [qm 13 0,⟨some 14,.bin .lss 3 false true (.t 13) (.c (.val (.int .i64 10))),none⟩] []) (.cond (.t 14) (.seq (.reg false [qm 15 0,⟨some 16,.fun_ .max #[3,3] 3 [.t 15,.c (.val (.int .i64 0))],none⟩,qm 17 0,⟨some
 18,.fun_ .max #[3,3] 3 [.t 17,.c (.val (.int .i64 0))],none⟩,qs 19 18,⟨some 20,.slc 0 (.c (.val (.string ⟨#[48,49,50,51,52,53,54,55,56,57]⟩))) (some (.t 16)) (some (.t 19)) none,none⟩,qm 2 20] []) .ret) .skip)) (.seq (.reg true [qm 21 0,⟨some
 22,.bin .quo 3 false true (.t 21) (.c (.val (.int .i64 10))),none⟩,qc 23 115 22,qm 24 0,⟨some 25,.bin .rem 3 false true (.t 24) (.c (.val (.int .i64 10))),none⟩,qm 26 0,⟨some 27,.bin .rem 3 false true (.t 26) (.c (.val (.int .i64 10))),none⟩,qs 28
 27,⟨some 29,.slc 0 (.c (.val (.string ⟨#[48,49,50,51,52,53,54,55,56,57]⟩))) (some (.t 25)) (some (.t 28)) none,none⟩,⟨some 30,.bin .add 9 false false (.t 23) (.t 29),none⟩,qm 2 30] [(2, 8)]) .ret))),[.tmp 2]⟩
def c116 : CF := ⟨.seq (.reg false [⟨some 1,.box (.t 0),none⟩,qf 2] []) (.seq (.seq (.reg false [qa 3 0 1,ql 4 3,⟨some 5,.bin .lss 3 false true (.t 4) (.c (.val (.int .i64 0))),none⟩,qm 6 5,qaF 7 0 1 6,qlF 8 7 6,⟨some 9,.bin .gtr 3 false true (.t 8)
 (.c (.val (.int .i64 31))),some (6, false)⟩,qo 10 6 9,qm 11 10,qaF 12 1 1 11,qaF 13 0 12 11,qlF 14 13 11,qcF 15 111 14 11,qbF 16 15 11,qo 17 11 16,qm 18 17,qaF 19 1 1 18,qaF 20 1 19 18,qlF 21 20 18,⟨some 22,.bin .lss 3 false true (.t 21) (.c (.val
 (.int .i64 1))),some (18, false)⟩,qo 23 18 22,qm 24 23,qaF 25 1 1 24,qaF 26 1 25 24,qlF 27 26 24,⟨some 28,.bin .gtr 3 false true (.t 27) (.c (.val (.int .i64 1048576))),some (24, false)⟩,qo 29 24 28,qm 30 29,qaF 31 1 1 30,qaF 32 2 31 30,qlF 33 32
 30,⟨some 34,.bin .lss 3 false true (.t 33) (.c (.val (.int .i64 1))),some (30, false)⟩,qo 35 30 34,qm 36 35,qaF 37 1 1 36,qaF 38 2 37 36,qlF 39 38 36,⟨some 40,.bin .gtr 3 false true (.t 39) (.c (.val (.int .i64 1048576))),some (36, false)⟩,qo 41 36
 40] []) (.cond (.t 41) (.seq (.reg false [qf 2] []) .ret) .skip)) (.seq (.seq (.reg false [qa 42 5 1,⟨some 43,.ld 2 true (.t 42),none⟩,qc 44 159 43,qb 45 44,qm 46 45,qaF 47 7 1 46,qlF 48 47 46,⟨some 49,.len true (.t 48),some (46, false)⟩,⟨some
 50,.bin .gtr 3 false true (.t 49) (.c (.val (.int .i64 16))),some (46, false)⟩,qo 51 46 50,qm 52 51,qaF 53 4 1 52,qlF 54 53 52,qmF 55 54 52,qaT 56 5 1 55,⟨some 57,.ld 2 true (.t 56),some (55, true)⟩,⟨some 58,.build [.val (.int .i64 0),.val (.int
 .i64 0)] [],some (55, true)⟩,⟨some 59,.bin .neq 71 false false (.t 57) (.t 58),some (55, true)⟩,qmT 60 59 55,qaF 61 8 1 60,qlF 62 61 60,⟨some 63,.pick (.t 60) (.c (.val (.bool true))) (.t 62),some (55, true)⟩,qpF 64 55 63 52,qo 65 52 64] []) (.cond
 (.t 65) (.seq (.reg false [qf 2] []) .ret) .skip)) (.seq (.reg false [qa 66 8 1,ql 67 66,qm 68 67,qaF 69 7 1 68,qlF 70 69 68,⟨some 71,.len true (.t 70),some (68, false)⟩,qqF 72 71 0 68,qo 73 68 72,qm 2 73] []) .ret))),[.tmp 2]⟩
def L117_0 : CC := (.seq (.reg false [qz 18 17 16] []) (.seq (.cond (.t 18) .skip (.exit 0)) (.seq (.block 1 (.seq (.reg false [qm 19 17,⟨some 20,.ias 3 (.t 15) (.t 17),none⟩,⟨some 21,.ld 3 true (.t 20),none⟩,⟨some 8,.alloc [.val (.string
 ⟨#[]⟩),.val (.int .i64 0),.im [] true],none⟩,qm 7 19,qw 3 8 21] []) (.seq (.reg false [qm 22 1,qm 23 7,⟨some 24,.ias 3 (.t 22) (.t 23),none⟩,⟨some 25,.ld 3 true (.t 24),none⟩,⟨some 9,.alloc [.val (.string ⟨#[]⟩),.val (.int .i64 0),.im []
 true],none⟩,qw 3 9 25] []) (.seq (.reg false [qm 26 2,⟨some 27,.ld 3 true (.t 8),none⟩,⟨some 28,.ld 3 true (.t 9),none⟩,⟨some 29,.call (.t 26) [.t 27,.t 28],none⟩,qb 30 29] []) (.cond (.t 30) (.seq (.reg false [qf 6] []) .ret) .skip))))) (.reg
 false [qs 31 17,qm 17 31] []))))
def c117 : CF := ⟨.seq (.reg false [qf 6] []) (.seq (.seq (.reg false [qm 10 0,qe 11 10,qm 12 1,qe 13 12,⟨some 14,.bin .neq 3 false false (.t 11) (.t 13),none⟩] []) (.cond (.t 14) (.seq (.reg false [qf 6] []) .ret) .skip)) (.seq (.seq (.reg false
 [qm 15 0,qe 16 15,qi 17 0] []) (.block 0 (.loop L117_0))) (.seq (.reg false [qt 6] []) .ret))),[.tmp 6]⟩
def c118 : CF := ⟨.seq (.reg false [⟨some 2,.box (.t 0),none⟩,⟨some 3,.box (.t 1),none⟩,qf 4] []) (.seq (.reg false [qa 5 0 2,ql 6 5,qa 7 0 3,ql 8 7,⟨some 9,.bin .eql 31 false false (.t 6) (.t 8),none⟩,qm 10 9,qaT 11 1 2 10,⟨some 12,.ld 2 true (.t
 11),some (10, true)⟩,qaT 13 1 3 10,⟨some 14,.ld 2 true (.t 13),some (10, true)⟩,qkT 15 119 12 14 10,qp 16 10 15,qm 4 16] []) .ret),[.tmp 4]⟩
def c119 : CF := ⟨.seq (.reg false [⟨some 2,.box (.t 0),none⟩,⟨some 3,.box (.t 1),none⟩,qf 4] []) (.seq (.reg false [qa 5 0 2,ql 6 5,qa 7 0 3,ql 8 7,⟨some 9,.bin .eql 3 false false (.t 6) (.t 8),none⟩,qm 10 9,qaT 11 1 2 10,qlT 12 11 10,qaT 13 1 3
 10,qlT 14 13 10,qkT 15 162 12 14 10,qp 16 10 15,qm 4 16] []) .ret),[.tmp 4]⟩
def L120_0 : CC := (.seq (.reg false [qz 14 13 12] []) (.seq (.cond (.t 14) .skip (.exit 0)) (.seq (.block 1 (.seq (.reg false [qm 15 13,qm 5 15] []) (.seq (.reg true [qm 16 0,qm 17 5,⟨some 18,.ias 2 (.t 16) (.t 17),none⟩,⟨some 19,.ld 2 true (.t
 18),none⟩,qm 20 1,qm 21 5,⟨some 22,.ias 2 (.t 20) (.t 21),none⟩,⟨some 23,.ld 2 true (.t 22),none⟩,⟨some 24,.bin .neq 161 false false (.t 19) (.t 23),none⟩] []) (.cond (.t 24) (.seq (.reg false [qf 4] []) .ret) .skip)))) (.reg false [qs 25 13,qm 13 25] []))))
def c120 : CF := ⟨.seq (.reg false [qf 4] []) (.seq (.seq (.reg false [qm 6 0,qe 7 6,qm 8 1,qe 9 8,⟨some 10,.bin .neq 3 false false (.t 7) (.t 9),none⟩] []) (.cond (.t 10) (.seq (.reg false [qf 4] []) .ret) .skip)) (.seq (.seq (.reg false [qm 11
 0,qe 12 11,qi 13 0] []) (.block 0 (.loop L120_0))) (.seq (.reg false [qt 4] []) .ret))),[.tmp 4]⟩
def L121_0 : CC := (.seq (.reg false [qz 18 17 16] []) (.seq (.cond (.t 18) .skip (.exit 0)) (.seq (.block 1 (.seq (.reg false [qm 19 17,⟨some 20,.ias 2 (.t 15) (.t 17),none⟩,⟨some 21,.ld 2 true (.t 20),none⟩,⟨some 8,.alloc [.val (.string ⟨#[]⟩),.im
 [] true],none⟩,qm 7 19,qw 2 8 21] []) (.seq (.reg false [qm 22 1,qm 23 7,⟨some 24,.ias 2 (.t 22) (.t 23),none⟩,⟨some 25,.ld 2 true (.t 24),none⟩,⟨some 9,.alloc [.val (.string ⟨#[]⟩),.im [] true],none⟩,qw 2 9 25] []) (.seq (.reg false [qm 26 2,⟨some
 27,.ld 2 true (.t 8),none⟩,⟨some 28,.ld 2 true (.t 9),none⟩,⟨some 29,.call (.t 26) [.t 27,.t 28],none⟩,qb 30 29] []) (.cond (.t 30) (.seq (.reg false [qf 6] []) .ret) .skip))))) (.reg false [qs 31 17,qm 17 31] []))))
def c121 : CF := ⟨.seq (.reg false [qf 6] []) (.seq (.seq (.reg false [qm 10 0,qe 11 10,qm 12 1,qe 13 12,⟨some 14,.bin .neq 3 false false (.t 11) (.t 13),none⟩] []) (.cond (.t 14) (.seq (.reg false [qf 6] []) .ret) .skip)) (.seq (.seq (.reg false
 [qm 15 0,qe 16 15,qi 17 0] []) (.block 0 (.loop L121_0))) (.seq (.reg false [qt 6] []) .ret))),[.tmp 6]⟩
def c122 : CF := ⟨.seq (.reg false [⟨some 2,.box (.t 0),none⟩,⟨some 3,.box (.t 1),none⟩,qf 4] []) (.seq (.reg false [qa 5 0 2,ql 6 5,qa 7 0 3,ql 8 7,⟨some 9,.bin .eql 31 false false (.t 6) (.t 8),none⟩,qm 10 9,qaT 11 1 2 10,qlT 12 11 10,qaT 13 1 3
 10,qlT 14 13 10,qkT 15 56 12 14 10,qp 16 10 15,qm 4 16] []) .ret),[.tmp 4]⟩
def L123_0 : CC := (.seq (.reg false [qz 14 13 12] []) (.seq (.cond (.t 14) .skip (.exit 0)) (.seq (.block 1 (.seq (.reg false [qm 15 13,qm 5 15] []) (.seq (.reg true [qm 16 0,qm 17 5,⟨some 18,.ias 3 (.t 16) (.t 17),none⟩,⟨some 19,.ld 3 true (.t
 18),none⟩,qm 20 1,qm 21 5,⟨some 22,.ias 3 (.t 20) (.t 21),none⟩,⟨some 23,.ld 3 true (.t 22),none⟩,⟨some 24,.bin .neq 167 false false (.t 19) (.t 23),none⟩] []) (.cond (.t 24) (.seq (.reg false [qf 4] []) .ret) .skip)))) (.reg false [qs 25 13,qm 13 25] []))))
def c123 : CF := ⟨.seq (.reg false [qf 4] []) (.seq (.seq (.reg false [qm 6 0,qe 7 6,qm 8 1,qe 9 8,⟨some 10,.bin .neq 3 false false (.t 7) (.t 9),none⟩] []) (.cond (.t 10) (.seq (.reg false [qf 4] []) .ret) .skip)) (.seq (.seq (.reg false [qm 11
 0,qe 12 11,qi 13 0] []) (.block 0 (.loop L123_0))) (.seq (.reg false [qt 4] []) .ret))),[.tmp 4]⟩
def L124_0 : CC := (.seq (.seq (.reg false [qm 20 5,qa 21 1 2,ql 22 21,qe 23 22,qz 24 20 23] []) (.cond (.t 24) .skip (.exit 0))) (.seq (.block 1 (.seq (.reg true [qa 27 1 2,ql 28 27,qm 29 5,qx 30 28 29,ql 31 30,qa 32 1 3,ql 33 32,qm 34 5,qx 35 33
 34,ql 36 35,⟨some 37,.bin .neq 3 false false (.t 31) (.t 36),none⟩] []) (.cond (.t 37) (.seq (.reg false [qf 4] []) .ret) .skip))) (.reg false [qm 25 5,qs 26 25,qm 5 26] [])))
def c124 : CF := ⟨.seq (.reg false [⟨some 2,.box (.t 0),none⟩,⟨some 3,.box (.t 1),none⟩,qf 4] []) (.seq (.seq (.reg false [qa 6 0 2,ql 7 6,qa 8 0 3,ql 9 8,⟨some 10,.bin .neq 3 false false (.t 7) (.t 9),none⟩,qm 11 10,qaF 12 1 2 11,qlF 13 12 11,qeF
 14 13 11,qaF 15 1 3 11,qlF 16 15 11,qeF 17 16 11,⟨some 18,.bin .neq 3 false false (.t 14) (.t 17),some (11, false)⟩,qo 19 11 18] []) (.cond (.t 19) (.seq (.reg false [qf 4] []) .ret) .skip)) (.seq (.seq (.reg false [qi 5 0] []) (.block 0 (.loop
 L124_0))) (.seq (.reg false [qt 4] []) .ret))),[.tmp 4]⟩
def c125 : CF := ⟨.seq (.reg false [⟨some 1,.box (.t 0),none⟩,⟨some 2,.alloc [.val (.int .i64 0),.im [] true],none⟩] []) (.seq (.reg true [qa 3 0 1,ql 4 3,⟨some 5,.bsl 1 0 [] [],none⟩,qa 6 1 1,ql 7 6,⟨some 8,.app 1 (.t 5) (.t 7),none⟩,⟨some 9,.build
 [.val (.int .i64 0),.im [] true] [(0, 1, (.t 4)),(1, 1, (.t 8))],none⟩,qw 2 2 9] [(1, 2),(2, 4),(1, 5)]) .ret),[.cell 2 2 true]⟩
def c126 : CF := ⟨.seq (.reg false [⟨some 2,.alloc [.val (.int .i64 0),.val (.int .i64 0)],none⟩] []) (.seq (.reg false [qm 3 0,⟨some 4,.fun_ .real #[91] 165 [.t 3],none⟩,⟨some 5,.cv 165 3 (.t 4),none⟩,qm 6 0,⟨some 7,.fun_ .imag #[91] 165 [.t
 6],none⟩,⟨some 8,.cv 165 3 (.t 7),none⟩,⟨some 9,.build [.val (.int .i64 0),.val (.int .i64 0)] [(0, 1, (.t 5)),(1, 1, (.t 8))],none⟩,qw 2 2 9] []) .ret),[.cell 2 2 true]⟩
def c127 : CF :=  ⟨.seq (.reg false [⟨some 1,.box (.t 0),none⟩,⟨some 2,.alloc [.val (.int .i64 0),.val (.string ⟨#[]⟩),.val (.int .i64 0),.val (.int .i64 0),.val (.bool false),.val (.int .i64 0),.val (.int .i64 0),.val (.string ⟨#[]⟩),.val (.bool
 false)],none⟩] []) (.seq (.reg true [qa 3 0 1,ql 4 3,qa 5 1 1,qa 6 0 5,ql 7 6,qa 8 1 1,qa 9 1 8,ql 10 9,qa 11 1 1,qa 12 2 11,ql 13 12,⟨some 14,.build [.val (.string ⟨#[]⟩),.val (.int .i64 0),.val (.int .i64 0)] [(0, 1, (.t 7)),(1, 1, (.t 10)),(2,
 1, (.t 13))],none⟩,qa 15 4 1,ql 16 15,qa 17 5 1,ql 18 17,qc 19 126 18,qa 20 6 1,ql 21 20,qa 22 7 1,ql 23 22,⟨some 24,.build [.val (.int .i64 0),.val (.string ⟨#[]⟩),.val (.int .i64 0),.val (.int .i64 0),.val (.bool false),.val (.int .i64 0),.val
 (.int .i64 0),.val (.string ⟨#[]⟩),.val (.bool false)] [(0, 1, (.t 4)),(1, 3, (.t 14)),(4, 1, (.t 16)),(5, 2, (.t 19)),(7, 1, (.t 21)),(8, 1, (.t 23))],none⟩,qw 9 2 24] [(1, 16),(4, 16),(7, 16),(10, 16),(13, 16),(16, 18),(16, 20)]) .ret),[.cell 2 9 true]⟩
def c128 : CF := ⟨.seq (.reg false [qf 4] []) (.seq (.reg false [qm 5 0,qm 6 1,qk 7 163 5 6,qm 4 7] []) .ret),[.tmp 4]⟩
def L129_0 : CC := (.seq (.reg false [qz 8 7 6] []) (.seq (.cond (.t 8) .skip (.exit 0)) (.seq (.block 1 (.seq (.reg false [qm 9 7,⟨some 10,.ias 3 (.t 5) (.t 7),none⟩,⟨some 11,.ld 3 true (.t 10),none⟩,⟨some 4,.alloc [.val (.string ⟨#[]⟩),.val (.int
 .i64 0),.im [] true],none⟩,qm 3 9,qw 3 4 11] []) (.seq (.reg true [qa 12 0 4,ql 13 12,qc 14 72 13,qb 15 14,qm 16 15,qaF 17 1 4 16,⟨some 18,.ld 2 true (.t 17),some (16, false)⟩,qcF 19 164 18 16,qbF 20 19 16,qo 21 16 20,qm 22 21,qaF 23 1 4 22,⟨some
 24,.ld 2 true (.t 23),some (22, false)⟩,qcF 25 165 24 22,qqF 26 25 0 22,qo 27 22 26,qm 28 27,qmF 29 3 28,⟨some 30,.bin .gtr 3 false true (.t 29) (.c (.val (.int .i64 0))),some (28, false)⟩,qmF 31 30 28,qmT 32 0 31,qmT 33 3 31,⟨some 34,.bin .sub 3
 false true (.t 33) (.c (.val (.int .i64 1))),some (31, true)⟩,⟨some 35,.ias 3 (.t 32) (.t 34),some (31, true)⟩,⟨some 36,.ld 3 true (.t 35),some (31, true)⟩,⟨some 37,.ld 3 true (.t 4),some (31, true)⟩,qkT 38 166 36 37 31,⟨some 39,.bin .geq 3 false
 true (.t 38) (.c (.val (.int .i64 0))),some (31, true)⟩,qpF 40 31 39 28,qo 41 28 40] []) (.cond (.t 41) (.seq (.reg false [qf 2] []) .ret) .skip)))) (.reg false [qs 42 7,qm 7 42] []))))
def c129 : CF := ⟨.seq (.reg false [qf 2] []) (.seq (.seq (.reg false [qm 5 0,qe 6 5,qi 7 0] []) (.block 0 (.loop L129_0))) (.seq (.reg false [qt 2] []) .ret)),[.tmp 2]⟩
def L130_0 : CC := (.seq (.reg false [qz 8 7 6] []) (.seq (.cond (.t 8) .skip (.exit 0)) (.seq (.block 1 (.seq (.reg false [qm 9 7,qx 10 5 7,ql 11 10,qm 3 9,qm 4 11] []) (.seq (.reg false [qm 12 4,qc 13 72 12,qb 14 13,qm 15 14,qmF 16 3 15,⟨some
 17,.bin .gtr 3 false true (.t 16) (.c (.val (.int .i64 0))),some (15, false)⟩,qmF 18 17 15,qmT 19 0 18,qmT 20 3 18,⟨some 21,.bin .sub 3 false true (.t 20) (.c (.val (.int .i64 1))),some (18, true)⟩,⟨some 22,.ias 1 (.t 19) (.t 21),some (18,
 true)⟩,qlT 23 22 18,qmT 24 4 18,qkT 25 167 23 24 18,⟨some 26,.bin .geq 3 false true (.t 25) (.c (.val (.int .i64 0))),some (18, true)⟩,qpF 27 18 26 15,qo 28 15 27] []) (.cond (.t 28) (.seq (.reg false [qf 2] []) .ret) .skip)))) (.reg false [qs 29
 7,qm 7 29] []))))
def c130 : CF := ⟨.seq (.reg false [qf 2] []) (.seq (.seq (.reg false [qm 5 0,qe 6 5,qi 7 0] []) (.block 0 (.loop L130_0))) (.seq (.reg false [qm 30 0,qe 31 30,⟨some 32,.bin .leq 3 false true (.t 31) (.c (.val (.int .i64 64))),none⟩,qm 2 32] [])
 .ret)),[.tmp 2]⟩
def c131 : CF := ⟨.seq (.reg false [qf 2] []) (.seq (.reg false [qm 3 0,qe 4 3,⟨some 5,.bin .leq 3 false true (.t 4) (.c (.val (.int .i64 64))),none⟩,qm 6 5,qmT 7 0 6,qcT 8 168 7 6,qp 9 6 8,qm 10 9,qmT 11 0 10,⟨some 12,.call (.c (.fn 169 [])) [.t
 11,.c (.fn 170 [])],some (10, true)⟩,qbT 13 12 10,qp 14 10 13,qm 2 14] []) .ret),[.tmp 2]⟩
def c132 : CF := ⟨.seq (.reg false [⟨some 3,.box (.t 1),none⟩,qf 4] []) (.seq (.reg false [qm 5 0,qe 6 5,⟨some 7,.bin .leq 3 false true (.t 6) (.c (.val (.int .i64 32))),none⟩,qm 8 7,qmT 9 0 8,⟨some 10,.mkf 172 [.t 3],some (8, true)⟩,qkT 11 171 9 10
 8,qbT 12 11 8,qp 13 8 12,qm 4 13] []) .ret),[.tmp 4]⟩
def c133 : CF := ⟨.seq (.reg false [⟨some 1,.box (.t 0),none⟩,qf 2] []) (.seq (.seq (.reg false [qa 3 0 1,ql 4 3] []) (.block 0 (.seq (.reg false [qq 6 4 2,qm 5 6] []) (.cond (.t 5) (.seq (.reg false [qa 7 1 1,ql 8 7,qc 9 152 8,qm 10 9,qaT 11 2 1
 10,qlT 12 11 10,⟨some 13,.call (.c (.fn 173 [])) [.t 12,.c (.val (.float .f64 0)),.c (.val (.float .f64 4656510908468559872))],some (10, true)⟩,qp 14 10 13,qm 2 14] []) .ret) (.seq (.reg false [qq 16 4 3,qm 15 16] []) (.cond (.t 15) (.seq (.reg
 false [qa 17 1 1,ql 18 17,qc 19 152 18,qm 20 19,qaT 21 2 1 20,qlT 22 21 20,⟨some 23,.call (.c (.fn 173 [])) [.t 22,.c (.val (.float .f64 13924712783166832640)),.c (.val (.float .f64 4701340746312056832))],some (20, true)⟩,qp 24 20 23,qm 2 24] [])
 .ret) (.seq (.seq (.reg false [qq 26 4 1,qm 25 26] []) (.cond (.t 25) .skip (.seq (.reg false [qq 27 4 4,qm 25 27] []) (.cond (.t 25) .skip (.seq (.reg false [qq 28 4 5,qm 25 28] []) (.cond (.t 25) .skip (.reg false [qq 29 4 6,qm 25 29] [])))))))
 (.cond (.t 25) (.seq (.reg false [qa 30 1 1,ql 31 30,⟨some 32,.bin .eql 91 false true (.t 31) (.c (.val (.complex .f64 0 0))),none⟩,qm 33 32,qaT 34 2 1 33,qlT 35 34 33,⟨some 36,.bin .eql 165 false true (.t 35) (.c (.val (.float .f64 0))),some (33,
 true)⟩,qp 37 33 36,qm 2 37] []) .ret) .skip)))))))) (.seq (.reg false [qf 2] []) .ret)),[.tmp 2]⟩
def c134 : CF := ⟨.seq (.reg false [⟨some 1,.box (.t 0),none⟩,qi 2 0] []) (.seq (.seq (.reg false [qa 3 0 1,ql 4 3] []) (.block 0 (.seq (.reg false [qq 6 4 4,qm 5 6] []) (.cond (.t 5) (.seq (.reg false [qi 2 1] []) .ret) (.seq (.seq (.reg false [qq
 8 4 5,qm 7 8] []) (.cond (.t 7) .skip (.reg false [qq 9 4 6,qm 7 9] []))) (.cond (.t 7) (.seq (.reg false [qi 2 2] []) .ret) .skip)))))) (.seq (.reg false [qi 2 0] []) .ret)),[.tmp 2]⟩
def L135_0 : CC := (.seq (.reg false [qz 8 7 6] []) (.seq (.cond (.t 8) .skip (.exit 0)) (.seq (.block 1 (.seq (.reg false [qm 9 7,⟨some 10,.ias 2 (.t 5) (.t 7),none⟩,⟨some 11,.ld 2 true (.t 10),none⟩,⟨some 4,.alloc [.val (.string ⟨#[]⟩),.val (.int
 .i64 0)],none⟩,qm 3 9,qw 2 4 11] []) (.seq (.reg true [qa 12 0 4,ql 13 12,qc 14 72 13,qb 15 14,qm 16 15,qaF 17 1 4 16,qlF 18 17 16,⟨some 19,.bin .lss 3 false true (.t 18) (.c (.val (.int .i64 1))),some (16, false)⟩,qo 20 16 19,qm 21 20,qaF 22 1 4
 21,qlF 23 22 21,⟨some 24,.bin .gtr 3 false true (.t 23) (.c (.val (.int .i64 1048576))),some (21, false)⟩,qo 25 21 24,qm 26 25,qmF 27 3 26,⟨some 28,.bin .gtr 3 false true (.t 27) (.c (.val (.int .i64 0))),some (26, false)⟩,qmF 29 28 26,qmT 30 0
 29,qmT 31 3 29,⟨some 32,.bin .sub 3 false true (.t 31) (.c (.val (.int .i64 1))),some (29, true)⟩,⟨some 33,.ias 2 (.t 30) (.t 32),some (29, true)⟩,⟨some 34,.ld 2 true (.t 33),some (29, true)⟩,⟨some 35,.ld 2 true (.t 4),some (29, true)⟩,qkT 36 174
 34 35 29,⟨some 37,.bin .geq 3 false true (.t 36) (.c (.val (.int .i64 0))),some (29, true)⟩,qpF 38 29 37 26,qo 39 26 38] []) (.cond (.t 39) (.seq (.reg false [qf 2] []) .ret) .skip)))) (.reg false [qs 40 7,qm 7 40] []))))
def c135 : CF := ⟨.seq (.reg false [qf 2] []) (.seq (.seq (.reg false [qm 5 0,qe 6 5,qi 7 0] []) (.block 0 (.loop L135_0))) (.seq (.reg false [qt 2] []) .ret)),[.tmp 2]⟩
def L136_0 : CC := (.seq (.seq (.reg false [qm 32 8,qm 33 7,qz 34 32 33,qm 35 34,qmT 36 0 35,qnT 37 36 35,qaT 38 2 37 35,qlT 39 38 35,qqT 40 39 0 35,qp 41 35 40] []) (.cond (.t 41) .skip (.exit 2))) (.seq (.block 3 (.reg true [qa 44 1 6,qa 45 1
 44,ql 46 45,qm 47 0,qd 48 77 47 1048576,⟨some 49,.bsl 1 1 [.val (.int .i64 0)] [(0, 1, (.t 48))],none⟩,⟨some 50,.app 1 (.t 46) (.t 49),none⟩,qa 51 1 6,qa 52 1 51,qw 1 52 50] [(2, 4),(2, 5)])) (.reg false [qm 42 8,qs 43 42,qm 8 43] [])))
def L136_1 : CC := (.seq (.seq (.reg false [qm 11 5,qm 12 4,qz 13 11 12,qm 14 13,qmT 15 0 14,qnT 16 15 14,qaT 17 2 16 14,qlT 18 17 14,qqT 19 18 0 14,qp 20 14 19] []) (.cond (.t 20) .skip (.exit 0))) (.seq (.block 1 (.seq (.reg false [qm 23 0,qd 24
 78 23 6,⟨some 25,.build [.val (.string ⟨#[]⟩),.val (.int .i64 0),.im [] true] [(0, 1, (.t 24))],none⟩,⟨some 6,.alloc [.val (.string ⟨#[]⟩),.val (.int .i64 0),.im [] true],none⟩,qw 3 6 25] []) (.seq (.reg false [qm 26 0,qd 27 77 26 1048576,⟨some
 28,.build [.val (.int .i64 0),.im [] true] [(0, 1, (.t 27))],none⟩,qa 29 1 6,qw 2 29 28] []) (.seq (.reg false [qm 30 0,qd 31 77 30 4096,qm 7 31] []) (.seq (.seq (.reg false [qi 8 0] []) (.block 2 (.loop L136_0))) (.reg false [qm 53 3,⟨some 54,.ld
 3 true (.t 6),none⟩,⟨some 55,.bsl 3 1 [.val (.string ⟨#[]⟩),.val (.int .i64 0),.im [] true] [(0, 3, (.t 54))],none⟩,⟨some 56,.app 3 (.t 53) (.t 55),none⟩,qm 3 56] [])))))) (.reg false [qm 21 5,qs 22 21,qm 5 22] [])))
def c136 : CF := ⟨.seq (.reg false [qj 2] []) (.seq (.reg false [qj 3] []) (.seq (.reg false [qm 9 0,qd 10 77 9 64,qm 4 10] []) (.seq (.seq (.reg false [qi 5 0] []) (.block 0 (.loop L136_1))) (.seq (.reg false [qm 57 3,qm 2 57] []) .ret)))),[.tmp 2]⟩
def L137_0 : CC := (.seq (.seq (.reg false [qm 32 10,qm 33 4,qe 34 33,qz 35 32 34] []) (.cond (.t 35) .skip (.exit 2))) (.seq (.block 3 (.seq (.reg true [qm 38 4,qm 39 10,qx 40 38 39,ql 41 40,qm 42 8,⟨some 43,.ias 1 (.t 42) (.c (.val (.int .i64
 0))),none⟩,ql 44 43,⟨some 45,.bin .eql 9 false false (.t 41) (.t 44),none⟩] []) (.cond (.t 45) (.reg false [qm 46 10,qa 47 0 9,qw 1 47 46] []) .skip))) (.reg false [qm 36 10,qs 37 36,qm 10 37] [])))
def L137_1 : CC := (.seq (.seq (.reg false [qm 20 7,qm 21 6,qe 22 21,qz 23 20 22] []) (.cond (.t 23) .skip (.exit 0))) (.seq (.block 1 (.seq (.reg false [qm 26 6,qm 27 7,qx 28 26 27,ql 29 28,⟨some 30,.call (.c (.fn 175 [])) [.t 29,.c (.val (.int .u8
 32))],none⟩,qm 8 30] []) (.seq (.reg false [⟨some 31,.build [.val (.int .i64 0),.val (.int .i64 0),.val (.int .i64 0),.val (.int .i64 0)] [],none⟩,⟨some 9,.alloc [.val (.int .i64 0),.val (.int .i64 0),.val (.int .i64 0),.val (.int .i64 0)],none⟩,qw
 4 9 31] []) (.seq (.seq (.reg false [qi 10 1] []) (.block 2 (.loop L137_0))) (.seq (.seq (.reg false [qa 48 0 9,ql 49 48,qq 50 49 2,qm 51 50,qaF 52 0 9 51,qlF 53 52 51,qqF 54 53 3 51,qo 55 51 54] []) (.cond (.t 55) (.seq (.seq (.reg false [qm 56
 8,qe 57 56,⟨some 58,.bin .neq 3 false true (.t 57) (.c (.val (.int .i64 4))),none⟩] []) (.cond (.t 58) (.seq (.reg false [qj 2,qf 3] []) .ret) .skip)) (.seq (.reg false [qm 60 8,⟨some 61,.ias 1 (.t 60) (.c (.val (.int .i64 1))),none⟩,ql 62 61,qc 63
 176 62,qm 59 63,⟨some 64,.ext (.t 59) 0,none⟩,⟨some 65,.ext (.t 59) 1,none⟩,qm 11 64,qm 12 65] []) (.seq (.reg false [qm 67 8,⟨some 68,.ias 1 (.t 67) (.c (.val (.int .i64 2))),none⟩,ql 69 68,qc 70 176 69,qm 66 70,⟨some 71,.ext (.t 66) 0,none⟩,⟨some
 72,.ext (.t 66) 1,none⟩,qm 13 71,qm 14 72] []) (.seq (.reg false [qm 74 8,⟨some 75,.ias 1 (.t 74) (.c (.val (.int .i64 3))),none⟩,ql 76 75,qc 77 176 76,qm 73 77,⟨some 78,.ext (.t 73) 0,none⟩,⟨some 79,.ext (.t 73) 1,none⟩,qm 15 78,qm 16 79] [])
 (.seq (.seq (.reg false [qm 80 12,qb 81 80,qm 82 81,qmF 83 14 82,qbF 84 83 82,qo 85 82 84,qm 86 85,qmF 87 16 86,qbF 88 87 86,qo 89 86 88] []) (.cond (.t 89) (.seq (.reg false [qj 2,qf 3] []) .ret) .skip)) (.reg false [qm 90 11,qm 91 13,qm 92 15,qa
 93 1 9,qw 1 93 90,qa 94 2 9,qw 1 94 91,qa 95 3 9,qw 1 95 92] [])))))) (.seq (.reg false [qm 96 8,qe 97 96,⟨some 98,.bin .neq 3 false true (.t 97) (.c (.val (.int .i64 1))),none⟩] []) (.cond (.t 98) (.seq (.reg false [qj 2,qf 3] []) .ret) .skip))))
 (.reg false [qm 99 5,⟨some 100,.ld 4 true (.t 9),none⟩,⟨some 101,.bsl 4 1 [.val (.int .i64 0),.val (.int .i64 0),.val (.int .i64 0),.val (.int .i64 0)] [(0, 4, (.t 100))],none⟩,⟨some 102,.app 4 (.t 99) (.t 101),none⟩,qm 5 102] [])))))) (.reg false
 [qm 24 7,qs 25 24,qm 7 25] [])))
def c137 : CF := ⟨.seq (.reg false [qj 2,qf 3] []) (.seq (.reg false [⟨some 17,.bsl 1 7 [.val (.string ⟨#[]⟩),.val (.string ⟨#[]⟩),.val (.string ⟨#[]⟩),.val (.string ⟨#[]⟩),.val (.string ⟨#[]⟩),.val (.string ⟨#[]⟩),.val (.string ⟨#[]⟩)] [(0, 1, (.c
 (.val (.string ⟨#[]⟩)))),(1, 1, (.c (.val (.string ⟨#[97,108,108]⟩)))),(2, 1, (.c (.val (.string ⟨#[100,105,115,99]⟩)))),(3, 1, (.c (.val (.string ⟨#[104,97,108,102]⟩)))),(4, 1, (.c (.val (.string ⟨#[110,111,116]⟩)))),(5, 1, (.c (.val (.string
 ⟨#[97,110,100]⟩)))),(6, 1, (.c (.val (.string ⟨#[111,114]⟩))))],none⟩,qm 4 17] []) (.seq (.reg false [qj 5] []) (.seq (.reg false [qm 18 0,⟨some 19,.call (.c (.fn 175 [])) [.t 18,.c (.val (.int .u8 44))],none⟩,qm 6 19] []) (.seq (.seq (.reg false
 [qi 7 0] []) (.block 0 (.loop L137_1))) (.seq (.seq (.reg false [qm 103 5,qc 104 113 103,qb 105 104] []) (.cond (.t 105) (.seq (.reg false [qj 2,qf 3] []) .ret) .skip)) (.seq (.reg false [qm 106 5,qm 2 106,qt 3] []) .ret)))))),[.tmp 2,.tmp 3]⟩
def c138 : CF :=  ⟨.seq (.reg false [⟨some 2,.alloc [.val (.int .i64 0),.val (.string ⟨#[]⟩),.val (.int .i64 0),.val (.int .i64 0),.val (.bool false),.val (.int .i64 0),.val (.int .i64 0),.val (.string ⟨#[]⟩),.val (.bool false)],none⟩,qf 3] [])
 (.seq (.reg false [⟨some 4,.alloc [.val (.int .i64 0),.val (.string ⟨#[]⟩),.val (.int .i64 0),.val (.int .i64 0),.val (.bool false),.val (.int .i64 0),.val (.int .i64 0),.val (.string ⟨#[]⟩),.val (.bool false)],none⟩] []) (.seq (.reg false [qm 6
 0,qd 7 77 6 31,qa 8 0 4,qw 1 8 7] []) (.seq (.reg false [qm 9 0,qd 10 78 9 6,qa 11 1 4,qa 12 0 11,qw 1 12 10] []) (.seq (.reg false [qm 13 0,qd 14 77 13 1048576,qa 15 1 4,qa 16 1 15,qw 1 16 14] []) (.seq (.reg false [qm 17 0,qd 18 77 17 1048576,qa
 19 1 4,qa 20 2 19,qw 1 20 18] []) (.seq (.reg false [qm 21 0,qd 22 77 21 2,qm 5 22] []) (.seq (.reg false [qm 23 5,qq 24 23 0,qa 25 4 4,qw 1 25 24] []) (.seq (.reg false [qm 26 5,qq 27 26 2,qa 28 8 4,qw 1 28 27] []) (.seq (.seq (.reg false [qm 29
 5,⟨some 30,.bin .gtr 3 false true (.t 29) (.c (.val (.int .i64 0))),none⟩] []) (.cond (.t 30) (.seq (.reg false [qm 31 0,qd 32 77 31 2000,⟨some 33,.bin .sub 3 false true (.t 32) (.c (.val (.int .i64 1000))),none⟩,qa 34 5 4,qa 35 0 34,qw 1 35 33]
 []) (.reg false [qm 36 0,qd 37 77 36 2000,⟨some 38,.bin .sub 3 false true (.t 37) (.c (.val (.int .i64 1000))),none⟩,qa 39 5 4,qa 40 1 39,qw 1 40 38] [])) .skip)) (.seq (.seq (.reg false [qm 41 5,qq 42 41 2] []) (.cond (.t 42) (.reg false [qm 43
 0,qd 44 78 43 16,qa 45 7 4,qw 1 45 44] []) .skip)) (.seq (.seq (.reg false [qm 46 0,qn 47 46,qa 48 2 47,ql 49 48,⟨some 50,.bin .neq 3 false true (.t 49) (.c (.val (.int .i64 0))),none⟩,qm 51 50,⟨some 52,.ld 9 true (.t 4),some (51, false)⟩,qcF 53
 116 52 51,qbF 54 53 51,qo 55 51 54] []) (.cond (.t 55) (.seq (.reg false [⟨some 56,.build [.val (.int .i64 0),.val (.string ⟨#[]⟩),.val (.int .i64 0),.val (.int .i64 0),.val (.bool false),.val (.int .i64 0),.val (.int .i64 0),.val (.string
 ⟨#[]⟩),.val (.bool false)] [],none⟩,qw 9 2 56,qf 3] []) .ret) .skip)) (.seq (.reg false [⟨some 57,.ld 9 true (.t 4),none⟩,qw 9 2 57,qt 3] []) .ret)))))))))))),[.cell 2 9 true,.tmp 3]⟩
def c141 : CF := ⟨.seq (.reg false [⟨some 1,.box (.t 0),none⟩,qi 2 0] []) (.seq (.reg false [qa 3 0 1,ql 4 3,qa 5 1 1,ql 6 5,qe 7 6,⟨some 8,.bin .add 3 false false (.t 4) (.t 7),none⟩,qm 2 8] []) .ret),[.tmp 2]⟩
def c151 : CF := ⟨.seq (.reg false [⟨some 1,.box (.t 0),none⟩,qf 2] []) (.seq (.reg false [qa 3 0 1,ql 4 3,qc 5 72 4,qm 6 5,qaT 7 1 1 6,qlT 8 7 6,⟨some 9,.bin .geq 3 false true (.t 8) (.c (.val (.int .i64 1))),some (6, true)⟩,qp 10 6 9,qm 11 10,qaT
 12 1 1 11,qlT 13 12 11,⟨some 14,.bin .leq 3 false true (.t 13) (.c (.val (.int .i64 1048576))),some (11, true)⟩,qp 15 11 14,qm 16 15,qaT 17 2 1 16,qlT 18 17 16,⟨some 19,.bin .geq 3 false true (.t 18) (.c (.val (.int .i64 1))),some (16, true)⟩,qp 20
 16 19,qm 21 20,qaT 22 2 1 21,qlT 23 22 21,⟨some 24,.bin .leq 3 false true (.t 23) (.c (.val (.int .i64 1048576))),some (21, true)⟩,qp 25 21 24,qm 2 25] []) .ret),[.tmp 2]⟩
def c152 : CF := ⟨.seq (.reg false [qf 2] []) (.seq (.reg false [qm 3 0,⟨some 4,.fun_ .real #[91] 165 [.t 3],none⟩,⟨some 5,.call (.c (.fn 173 [])) [.t 4,.c (.val (.float .f64 13875379345695965184)),.c (.val (.float .f64
 4652007308841189376))],none⟩,qm 6 5,qmT 7 0 6,⟨some 8,.fun_ .imag #[91] 165 [.t 7],some (6, true)⟩,⟨some 9,.call (.c (.fn 173 [])) [.t 8,.c (.val (.float .f64 13875379345695965184)),.c (.val (.float .f64 4652007308841189376))],some (6, true)⟩,qp 10
 6 9,qm 2 10] []) .ret),[.tmp 2]⟩
def c153 : CF := ⟨.reg true [qa 2 1 0,ql 3 2,ql 4 1,qc 5 102 4,⟨some 6,.bsl 1 1 [.val (.int .i64 0)] [(0, 1, (.t 5))],none⟩,⟨some 7,.app 1 (.t 3) (.t 6),none⟩,qa 8 1 0,qw 1 8 7] [(1, 3),(1, 4)],[]⟩
def L155_0 : CC := (.seq (.reg false [⟨some 22,.bin .lss 3 false true (.t 21) (.c (.val (.int .i64 3))),none⟩] []) (.seq (.cond (.t 22) .skip (.exit 0)) (.seq (.block 1 (.seq (.reg false [qm 23 21,qm 6 23] []) (.seq (.reg false [qm 25 3,qm 26
 6,⟨some 27,.bin .add 3 true false (.c (.val (.int .i64 1))) (.t 26),none⟩,qx 28 25 27,ql 29 28,qc 30 184 29,qm 24 30,⟨some 31,.ext (.t 24) 0,none⟩,⟨some 32,.ext (.t 24) 1,none⟩,qm 7 31,qm 8 32] []) (.seq (.seq (.reg false [qm 33 8,⟨some 34,.nilq
 true true (.t 33) (.c (.val .nilIface)),none⟩] []) (.cond (.t 34) (.seq (.reg false [⟨some 35,.build [.val (.int .i64 0),.val (.complex .f64 0 0),.val (.float .f64 0)] [],none⟩,qw 3 2 35] []) .ret) .skip)) (.reg false [qm 36 6,qm 37 7,⟨some 38,.cv
 3 165 (.t 37),none⟩,⟨some 39,.iaa 3 1 (.t 5) (.t 36),none⟩,qw 1 39 38] []))))) (.reg false [qs 40 21,qm 21 40] []))))
def c155 : CF := ⟨.seq (.reg false [⟨some 2,.alloc [.val (.int .i64 0),.val (.complex .f64 0 0),.val (.float .f64 0)],none⟩] []) (.seq (.reg false [qm 9 0,⟨some 10,.call (.c (.fn 154 [])) [.t 9,.c (.val (.string ⟨#[32]⟩))],none⟩,qm 3 10] []) (.seq
 (.reg true [⟨some 11,.call (.c (.fn 93 [])) [],none⟩,qm 12 3,⟨some 13,.ias 1 (.t 12) (.c (.val (.int .i64 0))),none⟩,ql 14 13,qk 15 183 11 14,⟨some 16,.build [.val (.int .i64 0),.val (.complex .f64 0 0),.val (.float .f64 0)] [(0, 1, (.t
 15))],none⟩,⟨some 4,.alloc [.val (.int .i64 0),.val (.complex .f64 0 0),.val (.float .f64 0)],none⟩,qw 3 4 16] [(0, 3),(0, 6),(3, 6),(4, 6)]) (.seq (.seq (.reg false [qm 17 3,qe 18 17,⟨some 19,.bin .neq 3 false true (.t 18) (.c (.val (.int .i64
 4))),none⟩] []) (.cond (.t 19) (.seq (.reg false [⟨some 20,.ld 3 true (.t 4),none⟩,qw 3 2 20] []) .ret) .skip)) (.seq (.reg false [⟨some 5,.alloc [.val (.float .f64 0),.val (.float .f64 0),.val (.float .f64 0)],none⟩] []) (.seq (.seq (.reg false
 [qi 21 0] []) (.block 0 (.loop L155_0))) (.seq (.reg true [⟨some 41,.iaa 3 1 (.t 5) (.c (.val (.int .i64 0))),none⟩,ql 42 41,⟨some 43,.iaa 3 1 (.t 5) (.c (.val (.int .i64 1))),none⟩,ql 44 43,⟨some 45,.fun_ .complex #[165,165] 91 [.t 42,.t
 44],none⟩,⟨some 46,.iaa 3 1 (.t 5) (.c (.val (.int .i64 2))),none⟩,ql 47 46,qa 48 1 4,qw 1 48 45,qa 49 2 4,qw 1 49 47] [(6, 8)]) (.seq (.reg false [⟨some 50,.ld 3 true (.t 4),none⟩,qw 3 2 50] []) .ret))))))),[.cell 2 3 true]⟩
def c156 : CF := ⟨.seq (.reg false [⟨some 2,.mv (.c (.val (.float .f64 0))),none⟩] []) (.seq (.reg false [qm 3 0,qd 4 42 3 2000,⟨some 5,.bin .sub 3 false true (.t 4) (.c (.val (.int .i64 1000))),none⟩,⟨some 6,.cv 3 165 (.t 5),none⟩,qm 2 6] []) .ret),[.tmp 2]⟩
def L157_0 : CC := (.seq (.seq (.reg false [qm 4 3,qm 5 0,qe 6 5,qz 7 4 6] []) (.cond (.t 7) .skip (.exit 0))) (.seq (.block 1 (.seq (.reg true [qm 10 0,qm 11 3,⟨some 12,.ias 3 (.t 10) (.t 11),none⟩,qa 13 0 12,ql 14 13,qc 15 111 14,qb 16 15,qm 17
 16,qmF 18 0 17,qmF 19 3 17,⟨some 20,.ias 3 (.t 18) (.t 19),some (17, false)⟩,qaF 21 1 20 17,⟨some 22,.ld 2 true (.t 21),some (17, false)⟩,qcF 23 185 22 17,qbF 24 23 17,qo 25 17 24,qm 26 25,qmF 27 0 26,qmF 28 3 26,⟨some 29,.ias 3 (.t 27) (.t
 28),some (26, false)⟩,qaF 30 1 29 26,⟨some 31,.ld 2 true (.t 30),some (26, false)⟩,qcF 32 141 31 26,⟨some 33,.bin .lss 3 false true (.t 32) (.c (.val (.int .i64 1))),some (26, false)⟩,qo 34 26 33,qm 35 34,qmF 36 3 35,⟨some 37,.bin .gtr 3 false true
 (.t 36) (.c (.val (.int .i64 0))),some (35, false)⟩,qmF 38 37 35,qmT 39 0 38,qmT 40 3 38,⟨some 41,.bin .sub 3 false true (.t 40) (.c (.val (.int .i64 1))),some (38, true)⟩,⟨some 42,.ias 3 (.t 39) (.t 41),some (38, true)⟩,qaT 43 0 42 38,qlT 44 43
 38,qmT 45 0 38,qmT 46 3 38,⟨some 47,.ias 3 (.t 45) (.t 46),some (38, true)⟩,qaT 48 0 47 38,qlT 49 48 38,qkT 50 87 44 49 38,⟨some 51,.bin .geq 3 false true (.t 50) (.c (.val (.int .i64 0))),some (38, true)⟩,qpF 52 38 51 35,qo 53 35 52] []) (.cond
 (.t 53) (.seq (.reg false [qf 2] []) .ret) .skip))) (.reg false [qm 8 3,qs 9 8,qm 3 9] [])))
def c157 : CF := ⟨.seq (.reg false [qf 2] []) (.seq (.seq (.reg false [qi 3 0] []) (.block 0 (.loop L157_0))) (.seq (.reg false [qt 2] []) .ret)),[.tmp 2]⟩
def L158_0 : CC := (.seq (.seq (.reg false [qm 4 3,qm 5 0,qe 6 5,qz 7 4 6] []) (.cond (.t 7) .skip (.exit 0))) (.seq (.block 1 (.seq (.reg true [qm 10 0,qm 11 3,⟨some 12,.ias 2 (.t 10) (.t 11),none⟩,qa 13 0 12,ql 14 13,qc 15 111 14,qb 16 15,qm 17
 16,qmF 18 0 17,qmF 19 3 17,⟨some 20,.ias 2 (.t 18) (.t 19),some (17, false)⟩,qaF 21 1 20 17,qlF 22 21 17,qcF 23 161 22 17,qbF 24 23 17,qo 25 17 24,qm 26 25,qmF 27 0 26,qmF 28 3 26,⟨some 29,.ias 2 (.t 27) (.t 28),some (26, false)⟩,qaF 30 1 29 26,qlF
 31 30 26,qeF 32 31 26,⟨some 33,.bin .lss 3 false true (.t 32) (.c (.val (.int .i64 1))),some (26, false)⟩,qo 34 26 33,qm 35 34,qmF 36 3 35,⟨some 37,.bin .gtr 3 false true (.t 36) (.c (.val (.int .i64 0))),some (35, false)⟩,qmF 38 37 35,qmT 39 0
 38,qmT 40 3 38,⟨some 41,.bin .sub 3 false true (.t 40) (.c (.val (.int .i64 1))),some (38, true)⟩,⟨some 42,.ias 2 (.t 39) (.t 41),some (38, true)⟩,qaT 43 0 42 38,qlT 44 43 38,qmT 45 0 38,qmT 46 3 38,⟨some 47,.ias 2 (.t 45) (.t 46),some (38,
 true)⟩,qaT 48 0 47 38,qlT 49 48 38,qkT 50 87 44 49 38,⟨some 51,.bin .geq 3 false true (.t 50) (.c (.val (.int .i64 0))),some (38, true)⟩,qpF 52 38 51 35,qo 53 35 52] []) (.cond (.t 53) (.seq (.reg false [qf 2] []) .ret) .skip))) (.reg false [qm 8
 3,qs 9 8,qm 3 9] [])))
def c158 : CF := ⟨.seq (.reg false [qf 2] []) (.seq (.seq (.reg false [qi 3 0] []) (.block 0 (.loop L158_0))) (.seq (.reg false [qt 2] []) .ret)),[.tmp 2]⟩
def c159 : CF := ⟨.seq (.reg false [⟨some 1,.box (.t 0),none⟩,qf 2] []) (.seq (.reg false [qa 3 0 1,ql 4 3,qd 5 160 4 1000,qm 6 5,qaT 7 1 1 6,qlT 8 7 6,⟨some 9,.call (.c (.fn 160 [])) [.t 8,.c (.val (.int .i64 1000))],some (6, true)⟩,qp 10 6 9,qm 2
 10] []) .ret),[.tmp 2]⟩
def c160 : CF := ⟨.seq (.reg false [qf 4] []) (.seq (.reg false [qm 5 0,qm 6 1,⟨some 7,.un .neg (.t 6),none⟩,⟨some 8,.bin .geq 3 false false (.t 5) (.t 7),none⟩,qm 9 8,qmT 10 0 9,qmT 11 1 9,⟨some 12,.bin .leq 3 false false (.t 10) (.t 11),some (9,
 true)⟩,qp 13 9 12,qm 4 13] []) .ret),[.tmp 4]⟩
def L161_0 : CC := (.seq (.seq (.reg false [qm 4 3,qm 5 0,qe 6 5,qz 7 4 6] []) (.cond (.t 7) .skip (.exit 0))) (.seq (.block 1 (.seq (.reg true [qm 10 0,qm 11 3,⟨some 12,.ias 2 (.t 10) (.t 11),none⟩,qa 13 0 12,ql 14 13,qc 15 111 14,qb 16 15,qm 17
 16,qmF 18 0 17,qmF 19 3 17,⟨some 20,.ias 2 (.t 18) (.t 19),some (17, false)⟩,qaF 21 1 20 17,qlF 22 21 17,⟨some 23,.bin .lss 3 false true (.t 22) (.c (.val (.int .i64 1))),some (17, false)⟩,qo 24 17 23,qm 25 24,qmF 26 0 25,qmF 27 3 25,⟨some 28,.ias
 2 (.t 26) (.t 27),some (25, false)⟩,qaF 29 1 28 25,qlF 30 29 25,⟨some 31,.bin .gtr 3 false true (.t 30) (.c (.val (.int .i64 1048576))),some (25, false)⟩,qo 32 25 31,qm 33 32,qmF 34 3 33,⟨some 35,.bin .gtr 3 false true (.t 34) (.c (.val (.int .i64
 0))),some (33, false)⟩,qmF 36 35 33,qmT 37 0 36,qmT 38 3 36,⟨some 39,.bin .sub 3 false true (.t 38) (.c (.val (.int .i64 1))),some (36, true)⟩,⟨some 40,.ias 2 (.t 37) (.t 39),some (36, true)⟩,qaT 41 0 40 36,qlT 42 41 36,qmT 43 0 36,qmT 44 3
 36,⟨some 45,.ias 2 (.t 43) (.t 44),some (36, true)⟩,qaT 46 0 45 36,qlT 47 46 36,qkT 48 87 42 47 36,⟨some 49,.bin .geq 3 false true (.t 48) (.c (.val (.int .i64 0))),some (36, true)⟩,qpF 50 36 49 33,qo 51 33 50] []) (.cond (.t 51) (.seq (.reg false
 [qf 2] []) .ret) .skip))) (.reg false [qm 8 3,qs 9 8,qm 3 9] [])))
def c161 : CF := ⟨.seq (.reg false [qf 2] []) (.seq (.seq (.reg false [qi 3 0] []) (.block 0 (.loop L161_0))) (.seq (.reg false [qt 2] []) .ret)),[.tmp 2]⟩
def L162_0 : CC := (.seq (.reg false [qz 14 13 12] []) (.seq (.cond (.t 14) .skip (.exit 0)) (.seq (.block 1 (.seq (.reg false [qm 15 13,qm 5 15] []) (.seq (.reg true [qm 16 0,qm 17 5,qx 18 16 17,ql 19 18,qm 20 1,qm 21 5,qx 22 20 21,ql 23 22,⟨some
 24,.bin .neq 3 false false (.t 19) (.t 23),none⟩] []) (.cond (.t 24) (.seq (.reg false [qf 4] []) .ret) .skip)))) (.reg false [qs 25 13,qm 13 25] []))))
def c162 : CF := ⟨.seq (.reg false [qf 4] []) (.seq (.seq (.reg false [qm 6 0,qe 7 6,qm 8 1,qe 9 8,⟨some 10,.bin .neq 3 false false (.t 7) (.t 9),none⟩] []) (.cond (.t 10) (.seq (.reg false [qf 4] []) .ret) .skip)) (.seq (.seq (.reg false [qm 11
 0,qe 12 11,qi 13 0] []) (.block 0 (.loop L162_0))) (.seq (.reg false [qt 4] []) .ret))),[.tmp 4]⟩
def c163 : CF := ⟨.seq (.reg false [qf 4] []) (.seq (.reg false [qm 5 0,⟨some 6,.len true (.t 5),none⟩,qm 7 1,⟨some 8,.len true (.t 7),none⟩,⟨some 9,.bin .geq 3 false false (.t 6) (.t 8),none⟩,qm 10 9,qmT 11 0 10,qmT 12 1 10,⟨some 13,.len true (.t
 12),some (10, true)⟩,⟨some 14,.slc 0 (.t 11) none (some (.t 13)) none,some (10, true)⟩,qmT 15 1 10,⟨some 16,.bin .eql 9 false false (.t 14) (.t 15),some (10, true)⟩,qp 17 10 16,qm 4 17] []) .ret),[.tmp 4]⟩
def L164_0 : CC := (.seq (.reg false [qz 27 26 25] []) (.seq (.cond (.t 27) .skip (.exit 0)) (.seq (.block 1 (.seq (.reg false [qx 28 24 26,ql 29 28,qm 5 29] []) (.seq (.seq (.reg false [qm 30 5,qm 31 3,⟨some 32,.bin .leq 3 false false (.t 30) (.t
 31),none⟩,qm 33 32,qmF 34 5 33,⟨some 35,.bin .gtr 3 false true (.t 34) (.c (.val (.int .i64 1048576))),some (33, false)⟩,qo 36 33 35] []) (.cond (.t 36) (.seq (.reg false [qf 2] []) .ret) .skip)) (.reg false [qm 37 5,qm 3 37] [])))) (.reg false [qs
 38 26,qm 26 38] []))))
def c164 : CF := ⟨.seq (.reg false [⟨some 1,.box (.t 0),none⟩,qf 2] []) (.seq (.seq (.reg false [qa 6 0 1,ql 7 6,⟨some 8,.bin .lss 3 false true (.t 7) (.c (.val (.int .i64 0))),none⟩,qm 9 8,qaF 10 0 1 9,qlF 11 10 9,⟨some 12,.bin .gtr 3 false true
 (.t 11) (.c (.val (.int .i64 1048576))),some (9, false)⟩,qo 13 9 12,qm 14 13,qaF 15 1 1 14,qlF 16 15 14,qeF 17 16 14,⟨some 18,.bin .gtr 3 false true (.t 17) (.c (.val (.int .i64 4096))),some (14, false)⟩,qo 19 14 18] []) (.cond (.t 19) (.seq (.reg
 false [qf 2] []) .ret) .skip)) (.seq (.reg false [qa 20 0 1,ql 21 20,qs 22 21,qm 3 22] []) (.seq (.seq (.reg false [qa 23 1 1,ql 24 23,qe 25 24,qi 26 0] []) (.block 0 (.loop L164_0))) (.seq (.reg false [qt 2] []) .ret)))),[.tmp 2]⟩
def c165 : CF := ⟨.seq (.reg false [⟨some 1,.box (.t 0),none⟩,qi 2 0] []) (.seq (.reg false [qa 3 0 1,ql 4 3,qa 5 1 1,ql 6 5,qe 7 6,⟨some 8,.bin .add 3 false false (.t 4) (.t 7),none⟩,qm 2 8] []) .ret),[.tmp 2]⟩
def c166 : CF := ⟨.seq (.reg false [⟨some 2,.box (.t 0),none⟩,⟨some 3,.box (.t 1),none⟩,qi 4 0] []) (.seq (.reg false [qa 5 0 2,ql 6 5,qa 7 0 3,ql 8 7,qk 9 167 6 8,qm 4 9] []) .ret),[.tmp 4]⟩
def c167 : CF := ⟨.seq (.reg false [qi 4 0] []) (.seq (.reg false [qm 5 0,qm 6 1,qk 7 186 5 6,qm 4 7] []) .ret),[.tmp 4]⟩
def L168_0 : CC := (.seq (.reg false [qz 8 7 6] []) (.seq (.cond (.t 8) .skip (.exit 0)) (.seq (.block 1 (.seq (.reg false [qm 9 7,⟨some 10,.ias 2 (.t 5) (.t 7),none⟩,⟨some 11,.ld 2 true (.t 10),none⟩,⟨some 4,.alloc [.val (.string ⟨#[]⟩),.im []
 true],none⟩,qm 3 9,qw 2 4 11] []) (.seq (.reg true [qa 12 0 4,ql 13 12,qc 14 72 13,qb 15 14,qm 16 15,qaF 17 1 4 16,qlF 18 17 16,qcF 19 135 18 16,qbF 20 19 16,qo 21 16 20,qm 22 21,qaF 23 1 4 22,qlF 24 23 22,qeF 25 24 22,qqF 26 25 0 22,qo 27 22 26,qm
 28 27,qmF 29 3 28,⟨some 30,.bin .gtr 3 false true (.t 29) (.c (.val (.int .i64 0))),some (28, false)⟩,qmF 31 30 28,qmT 32 0 31,qmT 33 3 31,⟨some 34,.bin .sub 3 false true (.t 33) (.c (.val (.int .i64 1))),some (31, true)⟩,⟨some 35,.ias 2 (.t 32)
 (.t 34),some (31, true)⟩,⟨some 36,.ld 2 true (.t 35),some (31, true)⟩,⟨some 37,.ld 2 true (.t 4),some (31, true)⟩,qkT 38 187 36 37 31,⟨some 39,.bin .geq 3 false true (.t 38) (.c (.val (.int .i64 0))),some (31, true)⟩,qpF 40 31 39 28,qo 41 28 40]
 []) (.cond (.t 41) (.seq (.reg false [qf 2] []) .ret) .skip)))) (.reg false [qs 42 7,qm 7 42] []))))
def c168 : CF := ⟨.seq (.reg false [qf 2] []) (.seq (.seq (.reg false [qm 5 0,qe 6 5,qi 7 0] []) (.block 0 (.loop L168_0))) (.seq (.reg false [qt 2] []) .ret)),[.tmp 2]⟩
def c169 : CF := ⟨.seq (.reg false [qf 4] []) (.seq (.reg false [qm 5 0,qm 6 1,qk 7 188 5 6,⟨some 8,.bin .geq 3 false true (.t 7) (.c (.val (.int .i64 0))),none⟩,qm 4 8] []) .ret),[.tmp 4]⟩
def c170 : CF := ⟨.seq (.reg false [⟨some 1,.box (.t 0),none⟩,qf 2] []) (.seq (.reg false [qa 3 1 1,ql 4 3,qe 5 4,⟨some 6,.bin .gtr 3 false true (.t 5) (.c (.val (.int .i64 64))),none⟩,qm 2 6] []) .ret),[.tmp 2]⟩
def c171 : CF := ⟨.seq (.reg false [qf 4] []) (.seq (.reg false [qm 5 0,qm 6 1,qk 7 189 5 6,⟨some 8,.bin .geq 3 false true (.t 7) (.c (.val (.int .i64 0))),none⟩,qm 4 8] []) .ret),[.tmp 4]⟩
def c172 : CF := ⟨.seq (.reg false [⟨some 2,.box (.t 0),none⟩,qf 3] []) (.seq (.reg false [⟨some 4,.ld 8 true (.t 2),none⟩,qc 5 96 4,qb 6 5,qm 7 6,qlF 8 1 7,qqF 9 8 1 7,qmF 10 9 7,qaT 11 4 2 10,qlT 12 11 10,qmT 13 12 10,qaF 14 7 2 13,qlF 15 14
 13,⟨some 16,.pick (.t 13) (.c (.val (.bool true))) (.t 15),some (10, true)⟩,qpF 17 10 16 7,qo 18 7 17,qm 3 18] []) .ret),[.tmp 3]⟩
def c173 : CF := ⟨.seq (.reg false [qf 6] []) (.seq (.reg false [qm 7 0,qm 8 1,⟨some 9,.bin .geq 165 false false (.t 7) (.t 8),none⟩,qm 10 9,qmT 11 0 10,qmT 12 2 10,⟨some 13,.bin .leq 165 false false (.t 11) (.t 12),some (10, true)⟩,qp 14 10 13,qm
 15 14,qmT 16 0 15,qmT 17 0 15,qcT 18 190 17 15,⟨some 19,.bin .eql 165 false false (.t 16) (.t 18),some (15, true)⟩,qp 20 15 19,qm 6 20] []) .ret),[.tmp 6]⟩
def c174 : CF := ⟨.seq (.reg false [⟨some 2,.box (.t 0),none⟩,⟨some 3,.box (.t 1),none⟩,qi 4 0] []) (.seq (.reg false [qa 5 0 2,ql 6 5,qa 7 0 3,ql 8 7,qk 9 167 6 8,qm 4 9] []) .ret),[.tmp 4]⟩
def L175_0 : CC := (.seq (.seq (.reg false [qm 8 7,qm 9 0,⟨some 10,.len true (.t 9),none⟩,⟨some 11,.bin .leq 3 false false (.t 8) (.t 10),none⟩] []) (.cond (.t 11) .skip (.exit 0))) (.seq (.block 1 (.seq (.reg false [qm 14 7,qm 15 0,⟨some 16,.len
 true (.t 15),none⟩,⟨some 17,.bin .eql 3 false false (.t 14) (.t 16),none⟩,qm 18 17,qmF 19 0 18,qmF 20 7 18,⟨some 21,.ixs (.t 19) (.t 20),some (18, false)⟩,qmF 22 1 18,⟨some 23,.bin .eql 5 false false (.t 21) (.t 22),some (18, false)⟩,qo 24 18 23]
 []) (.cond (.t 24) (.seq (.reg false [qm 25 5,qm 26 0,qm 27 6,qm 28 7,⟨some 29,.slc 0 (.t 26) (some (.t 27)) (some (.t 28)) none,none⟩,⟨some 30,.bsl 1 1 [.val (.string ⟨#[]⟩)] [(0, 1, (.t 29))],none⟩,⟨some 31,.app 1 (.t 25) (.t 30),none⟩,qm 5 31]
 []) (.reg false [qm 32 7,qs 33 32,qm 6 33] [])) .skip))) (.reg false [qm 12 7,qs 13 12,qm 7 13] [])))
def c175 : CF := ⟨.seq (.reg false [qj 4] []) (.seq (.reg false [qj 5] []) (.seq (.reg false [qi 6 0] []) (.seq (.seq (.reg false [qi 7 0] []) (.block 0 (.loop L175_0))) (.seq (.reg false [qm 34 5,qm 4 34] []) .ret)))),[.tmp 4]⟩
def L176_0 : CC := (.seq (.seq (.reg false [qm 27 7,qm 28 5,⟨some 29,.len true (.t 28),none⟩,qz 30 27 29] []) (.cond (.t 30) .skip (.exit 0))) (.seq (.block 1 (.seq (.seq (.reg false [qm 33 5,qm 34 7,⟨some 35,.ixs (.t 33) (.t 34),none⟩,⟨some 36,.bin
 .lss 5 false true (.t 35) (.c (.val (.int .u8 48))),none⟩,qm 37 36,qmF 38 5 37,qmF 39 7 37,⟨some 40,.ixs (.t 38) (.t 39),some (37, false)⟩,⟨some 41,.bin .gtr 5 false true (.t 40) (.c (.val (.int .u8 57))),some (37, false)⟩,qo 42 37 41] []) (.cond
 (.t 42) (.seq (.reg false [qi 2 0,qf 3] []) .ret) .skip)) (.reg false [qm 43 6,⟨some 44,.bin .mul 3 true false (.c (.val (.int .i64 10))) (.t 43),none⟩,qm 45 5,qm 46 7,⟨some 47,.ixs (.t 45) (.t 46),none⟩,⟨some 48,.bin .sub 5 false true (.t 47) (.c
 (.val (.int .u8 48))),none⟩,⟨some 49,.cv 5 3 (.t 48),none⟩,⟨some 50,.bin .add 3 false false (.t 44) (.t 49),none⟩,qm 6 50] []))) (.reg false [qm 31 7,qs 32 31,qm 7 32] [])))
def c176 : CF := ⟨.seq (.reg false [qi 2 0,qf 3] []) (.seq (.reg false [qm 8 0,qi 4 1,qm 5 8] []) (.seq (.seq (.reg false [qm 9 0,⟨some 10,.len true (.t 9),none⟩,⟨some 11,.bin .gtr 3 false true (.t 10) (.c (.val (.int .i64 0))),none⟩,qm 12 11,qmT 13
 0 12,⟨some 14,.ixs (.t 13) (.c (.val (.int .i64 0))),some (12, true)⟩,⟨some 15,.bin .eql 5 false true (.t 14) (.c (.val (.int .u8 45))),some (12, true)⟩,qp 16 12 15] []) (.cond (.t 16) (.reg true [qm 17 0,⟨some 18,.slc 0 (.t 17) (some (.c (.val
 (.int .i64 1)))) none none,none⟩,⟨some 4,.mv (.c (.val (.int .i64 (-1)))),none⟩,qm 5 18] []) .skip)) (.seq (.seq (.reg false [qm 19 5,⟨some 20,.len true (.t 19),none⟩,⟨some 21,.bin .lss 3 false true (.t 20) (.c (.val (.int .i64 1))),none⟩,qm 22
 21,qmF 23 5 22,⟨some 24,.len true (.t 23),some (22, false)⟩,⟨some 25,.bin .gtr 3 false true (.t 24) (.c (.val (.int .i64 7))),some (22, false)⟩,qo 26 22 25] []) (.cond (.t 26) (.seq (.reg false [qi 2 0,qf 3] []) .ret) .skip)) (.seq (.reg false [qi
 6 0] []) (.seq (.seq (.reg false [qi 7 0] []) (.block 0 (.loop L176_0))) (.seq (.reg false [qm 51 4,qm 52 6,⟨some 53,.bin .mul 3 false false (.t 51) (.t 52),none⟩,qm 6 53] []) (.seq (.reg false [qm 54 6,qm 55 6,qc 56 115 55,qm 57 0,⟨some 58,.bin
 .eql 9 false false (.t 56) (.t 57),none⟩,qm 2 54,qm 3 58] []) .ret))))))),[.tmp 2,.tmp 3]⟩
def L183_0 : CC := (.seq (.reg false [qz 9 8 7] []) (.seq (.cond (.t 9) .skip (.exit 0)) (.seq (.block 1 (.seq (.reg false [qm 10 8,qm 5 10] []) (.seq (.reg false [qm 11 1,qm 12 0,qm 13 5,qx 14 12 13,ql 15 14,⟨some 16,.bin .eql 9 false false (.t 11)
 (.t 15),none⟩] []) (.cond (.t 16) (.seq (.reg false [qm 17 5,qm 4 17] []) .ret) .skip)))) (.reg false [qs 18 8,qm 8 18] []))))
def c183 : CF := ⟨.seq (.reg false [qi 4 0] []) (.seq (.seq (.reg false [qm 6 0,qe 7 6,qi 8 0] []) (.block 0 (.loop L183_0))) (.seq (.reg false [⟨some 4,.mv (.c (.val (.int .i64 (-1)))),none⟩] []) .ret)),[.tmp 4]⟩
def L185_0 : CC := (.seq (.seq (.reg false [qm 22 4,qa 23 1 1,ql 24 23,qe 25 24,qz 26 22 25] []) (.cond (.t 26) .skip (.exit 0))) (.seq (.block 1 (.seq (.seq (.reg true [qa 29 1 1,ql 30 29,qm 31 4,qx 32 30 31,ql 33 32,qm 34 3,⟨some 35,.bin .leq 3
 false false (.t 33) (.t 34),none⟩,qm 36 35,qmT 37 4 36,⟨some 38,.bin .gtr 3 false true (.t 37) (.c (.val (.int .i64 0))),some (36, true)⟩,qmT 39 38 36,qaF 40 1 1 39,qlF 41 40 39,qmF 42 4 39,⟨some 43,.ias 1 (.t 41) (.t 42),some (39, false)⟩,qlF 44
 43 39,qaF 45 0 1 39,qlF 46 45 39,⟨some 47,.bin .add 3 false true (.t 46) (.c (.val (.int .i64 1))),some (39, false)⟩,⟨some 48,.bin .leq 3 false false (.t 44) (.t 47),some (39, false)⟩,⟨some 49,.pick (.t 39) (.c (.val (.bool true))) (.t 48),some
 (36, true)⟩,qp 50 36 49,qm 51 50,qaF 52 1 1 51,qlF 53 52 51,qmF 54 4 51,⟨some 55,.ias 1 (.t 53) (.t 54),some (51, false)⟩,qlF 56 55 51,⟨some 57,.bin .gtr 3 false true (.t 56) (.c (.val (.int .i64 1048576))),some (51, false)⟩,qo 58 51 57] []) (.cond
 (.t 58) (.seq (.reg false [qf 2] []) .ret) .skip)) (.reg false [qa 59 1 1,ql 60 59,qm 61 4,qx 62 60 61,ql 63 62,qm 3 63] []))) (.reg false [qm 27 4,qs 28 27,qm 4 28] [])))
def c185 : CF := ⟨.seq (.reg false [⟨some 1,.box (.t 0),none⟩,qf 2] []) (.seq (.seq (.reg false [qa 5 0 1,ql 6 5,⟨some 7,.bin .lss 3 false true (.t 6) (.c (.val (.int .i64 0))),none⟩,qm 8 7,qaF 9 0 1 8,qlF 10 9 8,⟨some 11,.bin .gtr 3 false true (.t
 10) (.c (.val (.int .i64 1048576))),some (8, false)⟩,qo 12 8 11,qm 13 12,qaF 14 1 1 13,qlF 15 14 13,qeF 16 15 13,⟨some 17,.bin .gtr 3 false true (.t 16) (.c (.val (.int .i64 4096))),some (13, false)⟩,qo 18 13 17] []) (.cond (.t 18) (.seq (.reg
 false [qf 2] []) .ret) .skip)) (.seq (.reg false [qa 19 0 1,ql 20 19,qs 21 20,qm 3 21] []) (.seq (.seq (.reg false [qi 4 0] []) (.block 0 (.loop L185_0))) (.seq (.reg false [qt 2] []) .ret)))),[.tmp 2]⟩
def c187 : CF := ⟨.seq (.reg false [⟨some 2,.box (.t 0),none⟩,⟨some 3,.box (.t 1),none⟩,qi 4 0] []) (.seq (.reg false [qa 5 0 2,ql 6 5,qa 7 0 3,ql 8 7,qk 9 167 6 8,qm 4 9] []) .ret),[.tmp 4]⟩
def L188_0 : CC := (.seq (.reg false [qz 9 8 7] []) (.seq (.cond (.t 9) .skip (.exit 0)) (.seq (.block 1 (.seq (.reg false [qm 10 8,qm 5 10] []) (.seq (.reg false [qm 11 1,qm 12 0,qm 13 5,⟨some 14,.ias 2 (.t 12) (.t 13),none⟩,⟨some 15,.ld 2 true (.t
 14),none⟩,⟨some 16,.call (.t 11) [.t 15],none⟩] []) (.cond (.t 16) (.seq (.reg false [qm 17 5,qm 4 17] []) .ret) .skip)))) (.reg false [qs 18 8,qm 8 18] []))))
def c188 : CF := ⟨.seq (.reg false [qi 4 0] []) (.seq (.seq (.reg false [qm 6 0,qe 7 6,qi 8 0] []) (.block 0 (.loop L188_0))) (.seq (.reg false [⟨some 4,.mv (.c (.val (.int .i64 (-1)))),none⟩] []) .ret)),[.tmp 4]⟩
def L189_0 : CC := (.seq (.reg false [qz 9 8 7] []) (.seq (.cond (.t 9) .skip (.exit 0)) (.seq (.block 1 (.seq (.reg false [qm 10 8,qm 5 10] []) (.seq (.reg false [qm 11 1,qm 12 0,qm 13 5,⟨some 14,.ias 8 (.t 12) (.t 13),none⟩,⟨some 15,.ld 8 true (.t
 14),none⟩,⟨some 16,.call (.t 11) [.t 15],none⟩] []) (.cond (.t 16) (.seq (.reg false [qm 17 5,qm 4 17] []) .ret) .skip)))) (.reg false [qs 18 8,qm 8 18] []))))
def c189 : CF := ⟨.seq (.reg false [qi 4 0] []) (.seq (.seq (.reg false [qm 6 0,qe 7 6,qi 8 0] []) (.block 0 (.loop L189_0))) (.seq (.reg false [⟨some 4,.mv (.c (.val (.int .i64 (-1)))),none⟩] []) .ret)),[.tmp 4]⟩
def c190 : CF := ⟨.seq (.reg false [⟨some 2,.mv (.c (.val (.float .f64 0))),none⟩] []) (.seq (.cond (.c (.val (.bool true))) (.seq (.reg false [qm 3 0,qc 4 200 3,qm 2 4] []) .ret) .skip) (.seq (.reg false [qm 5 0,qc 6 201 5,qm 2 6] []) .ret)),[.tmp 2]⟩
def tab (f : FuncId) : Option CF := (cond (Nat.blt f 105)  (cond (Nat.blt f 61)   (cond (Nat.blt f 39)    (cond (Nat.blt f 17)     (cond (Nat.blt f 12)      (cond (Nat.blt f 10)       (cond (Nat.blt f 9)        (cond (Nat.beq f 4) (some c4) none)
     (cond (Nat.beq f 9) (some c9) none))       (cond (Nat.blt f 11)        (cond (Nat.beq f 10) (some c10) none)        (cond (Nat.beq f 11) (some c11) none)))      (cond (Nat.blt f 15)       (cond (Nat.blt f 14)        (cond (Nat.beq f 12) (some
 c12) none)        (cond (Nat.beq f 14) (some c14) none))       (cond (Nat.blt f 16)        (cond (Nat.beq f 15) (some c15) none)        (cond (Nat.beq f 16) (some c16) none))))     (cond (Nat.blt f 35)      (cond (Nat.blt f 33)       (cond (Nat.blt
 f 18)        (cond (Nat.beq f 17) (some c17) none)        (cond (Nat.beq f 18) (some c18) none))       (cond (Nat.blt f 34)        (cond (Nat.beq f 33) (some c33) none)        (cond (Nat.beq f 34) (some c34) none)))      (cond (Nat.blt f 37)
 (cond (Nat.blt f 36)        (cond (Nat.beq f 35) (some c35) none)        (cond (Nat.beq f 36) (some c36) none))       (cond (Nat.blt f 38)        (cond (Nat.beq f 37) (some c37) none)        (cond (Nat.beq f 38) (some c38) none)))))    (cond
 (Nat.blt f 47)     (cond (Nat.blt f 43)      (cond (Nat.blt f 41)       (cond (Nat.blt f 40)        (cond (Nat.beq f 39) (some c39) none)        (cond (Nat.beq f 40) (some c40) none))       (cond (Nat.blt f 42)        (cond (Nat.beq f 41) (some
 c41) none)        (cond (Nat.beq f 42) (some c42) none)))      (cond (Nat.blt f 45)       (cond (Nat.blt f 44)        (cond (Nat.beq f 43) (some c43) none)        (cond (Nat.beq f 44) (some c44) none))       (cond (Nat.blt f 46)        (cond
 (Nat.beq f 45) (some c45) none)        (cond (Nat.beq f 46) (some c46) none))))     (cond (Nat.blt f 56)      (cond (Nat.blt f 54)       (cond (Nat.blt f 48)        (cond (Nat.beq f 47) (some c47) none)        (cond (Nat.beq f 48) (some c48) none))
       (cond (Nat.blt f 55)        (cond (Nat.beq f 54) (some c54) none)        (cond (Nat.beq f 55) (some c55) none)))      (cond (Nat.blt f 58)       (cond (Nat.blt f 57)        (cond (Nat.beq f 56) (some c56) none)        (cond (Nat.beq f 57)
 (some c57) none))       (cond (Nat.blt f 59)        (cond (Nat.beq f 58) (some c58) none)        (cond (Nat.blt f 60)         (cond (Nat.beq f 59) (some c59) none)         (cond (Nat.beq f 60) (some c60) none)))))))   (cond (Nat.blt f 77)    (cond
 (Nat.blt f 69)     (cond (Nat.blt f 65)      (cond (Nat.blt f 63)       (cond (Nat.blt f 62)        (cond (Nat.beq f 61) (some c61) none)        (cond (Nat.beq f 62) (some c62) none))       (cond (Nat.blt f 64)        (cond (Nat.beq f 63) (some
 c63) none)        (cond (Nat.beq f 64) (some c64) none)))      (cond (Nat.blt f 67)       (cond (Nat.blt f 66)        (cond (Nat.beq f 65) (some c65) none)        (cond (Nat.beq f 66) (some c66) none))       (cond (Nat.blt f 68)        (cond
 (Nat.beq f 67) (some c67) none)        (cond (Nat.beq f 68) (some c68) none))))     (cond (Nat.blt f 73)      (cond (Nat.blt f 71)       (cond (Nat.blt f 70)        (cond (Nat.beq f 69) (some c69) none)        (cond (Nat.beq f 70) (some c70) none))
       (cond (Nat.blt f 72)        (cond (Nat.beq f 71) (some c71) none)        (cond (Nat.beq f 72) (some c72) none)))      (cond (Nat.blt f 75)       (cond (Nat.blt f 74)        (cond (Nat.beq f 73) (some c73) none)        (cond (Nat.beq f 74)
 (some c74) none))       (cond (Nat.blt f 76)        (cond (Nat.beq f 75) (some c75) none)        (cond (Nat.beq f 76) (some c76) none)))))    (cond (Nat.blt f 96)     (cond (Nat.blt f 81)      (cond (Nat.blt f 79)       (cond (Nat.blt f 78)
 (cond (Nat.beq f 77) (some c77) none)        (cond (Nat.beq f 78) (some c78) none))       (cond (Nat.blt f 80)        (cond (Nat.beq f 79) (some c79) none)        (cond (Nat.beq f 80) (some c80) none)))      (cond (Nat.blt f 93)       (cond
 (Nat.blt f 87)        (cond (Nat.beq f 81) (some c81) none)        (cond (Nat.beq f 87) (some c87) none))       (cond (Nat.blt f 95)        (cond (Nat.beq f 93) (some c93) none)        (cond (Nat.beq f 95) (some c95) none))))     (cond (Nat.blt f
 100)      (cond (Nat.blt f 98)       (cond (Nat.blt f 97)        (cond (Nat.beq f 96) (some c96) none)        (cond (Nat.beq f 97) (some c97) none))       (cond (Nat.blt f 99)        (cond (Nat.beq f 98) (some c98) none)        (cond (Nat.beq f 99)
 (some c99) none)))      (cond (Nat.blt f 102)       (cond (Nat.blt f 101)        (cond (Nat.beq f 100) (some c100) none)        (cond (Nat.beq f 101) (some c101) none))       (cond (Nat.blt f 103)        (cond (Nat.beq f 102) (some c102) none)
   (cond (Nat.blt f 104)         (cond (Nat.beq f 103) (some c103) none)         (cond (Nat.beq f 104) (some c104) none))))))))  (cond (Nat.blt f 138)   (cond (Nat.blt f 121)    (cond (Nat.blt f 113)     (cond (Nat.blt f 109)      (cond (Nat.blt f
 107)       (cond (Nat.blt f 106)        (cond (Nat.beq f 105) (some c105) none)        (cond (Nat.beq f 106) (some c106) none))       (cond (Nat.blt f 108)        (cond (Nat.beq f 107) (some c107) none)        (cond (Nat.beq f 108) (some c108)
 none)))      (cond (Nat.blt f 111)       (cond (Nat.blt f 110)        (cond (Nat.beq f 109) (some c109) none)        (cond (Nat.beq f 110) (some c110) none))       (cond (Nat.blt f 112)        (cond (Nat.beq f 111) (some c111) none)        (cond
 (Nat.beq f 112) (some c112) none))))     (cond (Nat.blt f 117)      (cond (Nat.blt f 115)       (cond (Nat.blt f 114)        (cond (Nat.beq f 113) (some c113) none)        (cond (Nat.beq f 114) (some c114) none))       (cond (Nat.blt f 116)
 (cond (Nat.beq f 115) (some c115) none)        (cond (Nat.beq f 116) (some c116) none)))      (cond (Nat.blt f 119)       (cond (Nat.blt f 118)        (cond (Nat.beq f 117) (some c117) none)        (cond (Nat.beq f 118) (some c118) none))
 (cond (Nat.blt f 120)        (cond (Nat.beq f 119) (some c119) none)        (cond (Nat.beq f 120) (some c120) none)))))    (cond (Nat.blt f 129)     (cond (Nat.blt f 125)      (cond (Nat.blt f 123)       (cond (Nat.blt f 122)        (cond (Nat.beq
 f 121) (some c121) none)        (cond (Nat.beq f 122) (some c122) none))       (cond (Nat.blt f 124)        (cond (Nat.beq f 123) (some c123) none)        (cond (Nat.beq f 124) (some c124) none)))      (cond (Nat.blt f 127)       (cond (Nat.blt f
 126)        (cond (Nat.beq f 125) (some c125) none)        (cond (Nat.beq f 126) (some c126) none))       (cond (Nat.blt f 128)        (cond (Nat.beq f 127) (some c127) none)        (cond (Nat.beq f 128) (some c128) none))))     (cond (Nat.blt f
 133)      (cond (Nat.blt f 131)       (cond (Nat.blt f 130)        (cond (Nat.beq f 129) (some c129) none)        (cond (Nat.beq f 130) (some c130) none))       (cond (Nat.blt f 132)        (cond (Nat.beq f 131) (some c131) none)        (cond
 (Nat.beq f 132) (some c132) none)))      (cond (Nat.blt f 135)       (cond (Nat.blt f 134)        (cond (Nat.beq f 133) (some c133) none)        (cond (Nat.beq f 134) (some c134) none))       (cond (Nat.blt f 136)        (cond (Nat.beq f 135) (some
 c135) none)        (cond (Nat.blt f 137)         (cond (Nat.beq f 136) (some c136) none)         (cond (Nat.beq f 137) (some c137) none)))))))   (cond (Nat.blt f 166)    (cond (Nat.blt f 158)     (cond (Nat.blt f 153)      (cond (Nat.blt f 151)
   (cond (Nat.blt f 141)        (cond (Nat.beq f 138) (some c138) none)        (cond (Nat.beq f 141) (some c141) none))       (cond (Nat.blt f 152)        (cond (Nat.beq f 151) (some c151) none)        (cond (Nat.beq f 152) (some c152) none)))
 (cond (Nat.blt f 156)       (cond (Nat.blt f 155)        (cond (Nat.beq f 153) (some c153) none)        (cond (Nat.beq f 155) (some c155) none))       (cond (Nat.blt f 157)        (cond (Nat.beq f 156) (some c156) none)        (cond (Nat.beq f 157)
 (some c157) none))))     (cond (Nat.blt f 162)      (cond (Nat.blt f 160)       (cond (Nat.blt f 159)        (cond (Nat.beq f 158) (some c158) none)        (cond (Nat.beq f 159) (some c159) none))       (cond (Nat.blt f 161)        (cond (Nat.beq f
 160) (some c160) none)        (cond (Nat.beq f 161) (some c161) none)))      (cond (Nat.blt f 164)       (cond (Nat.blt f 163)        (cond (Nat.beq f 162) (some c162) none)        (cond (Nat.beq f 163) (some c163) none))       (cond (Nat.blt f
 165)        (cond (Nat.beq f 164) (some c164) none)        (cond (Nat.beq f 165) (some c165) none)))))    (cond (Nat.blt f 174)     (cond (Nat.blt f 170)      (cond (Nat.blt f 168)       (cond (Nat.blt f 167)        (cond (Nat.beq f 166) (some
 c166) none)        (cond (Nat.beq f 167) (some c167) none))       (cond (Nat.blt f 169)        (cond (Nat.beq f 168) (some c168) none)        (cond (Nat.beq f 169) (some c169) none)))      (cond (Nat.blt f 172)       (cond (Nat.blt f 171)
 (cond (Nat.beq f 170) (some c170) none)        (cond (Nat.beq f 171) (some c171) none))       (cond (Nat.blt f 173)        (cond (Nat.beq f 172) (some c172) none)        (cond (Nat.beq f 173) (some c173) none))))     (cond (Nat.blt f 185)
 (cond (Nat.blt f 176)       (cond (Nat.blt f 175)        (cond (Nat.beq f 174) (some c174) none)        (cond (Nat.beq f 175) (some c175) none))       (cond (Nat.blt f 183)        (cond (Nat.beq f 176) (some c176) none)        (cond (Nat.beq f 183)
 (some c183) none)))      (cond (Nat.blt f 188)       (cond (Nat.blt f 187)        (cond (Nat.beq f 185) (some c185) none)        (cond (Nat.beq f 187) (some c187) none))       (cond (Nat.blt f 189)        (cond (Nat.beq f 188) (some c188) none)
    (cond (Nat.blt f 190)         (cond (Nat.beq f 189) (some c189) none)         (cond (Nat.beq f 190) (some c190) none)))))))))
end Go.Evl.Zone

namespace Go.Evl.Zone
open Go Go.Evl
def splitL (c : UInt8) : List UInt8 → List (List UInt8)
  | [] => [[]]
  | b :: l => if b = c then [] :: splitL c l else match splitL c l with
    | x :: xs => (b :: x) :: xs
    | [] => [[b]]
def joinL (sep : List UInt8) : List (List UInt8) → List UInt8
  | [] => []
  | [x] => x
  | x :: y :: r => x ++ sep ++ joinL sep (y :: r)
def digL : Nat → Nat → List UInt8 → List UInt8
  | 0, _, acc => acc
  | f + 1, n, acc => if n < 10 then UInt8.ofNat (48 + n) :: acc else digL f (n / 10) (UInt8.ofNat (48 + n % 10) :: acc)
def itoaL (n : Int) : List UInt8 := if n < 0 then 45 :: digL 20 n.natAbs [] else digL 20 n.natAbs []
def strOf (l : List UInt8) : PV := .val (.string ⟨l.toArray⟩)
def strs : List (List PV) → Option (List (List UInt8))
  | [] => some []
  | [.val (.string s)] :: r => (strs r).map fun l => s.data.toList :: l
  | _ :: _ => none
def pSplit (args : List PV) (H : Heap) : Option ORes :=
  match args with
  | [.val (.string s), .val (.string p)] => match p.data.toList with
    | [c] => if s.size < 4294967281 then some ⟨.im ((splitL c s.data.toList).map fun x => [strOf x]) false, H, [], some []⟩ else none
    | _ => none
  | _ => none
def pJoin (args : List PV) (H : Heap) : Option ORes :=
  match args with
  | [.val _, _] => none
  | [x, .val (.string p)] => match elems H 1 x with
    | some (xs, is) => match strs xs with
      | some l => if l.length ≤ 140737488355328 ∧ (joinL p.data.toList l).length ≤ 140737488355328 then some ⟨strOf (joinL p.data.toList l), H, [], some is⟩ else none
      | none => none
    | none => none
  | _ => none
def pItoa (args : List PV) (H : Heap) : Option ORes :=
  match args with
  | [.val (.int .i64 n)] => if -9223372036854775808 ≤ n ∧ n ≤ 9223372036854775807 then some ⟨strOf (itoaL n), H, [], some []⟩ else none
  | _ => none
def pAtoi (args : List PV) (H : Heap) : Option ORes :=
  match args with
  | [.val (.string s)] => if s.size ≤ 281474976710656 then
      match Lib.atoiAll s.data.toList with
      | .ok v => some ⟨.tup [.val (.int .i64 v), .val .nilIface], H, [], some []⟩
      | .range => some ⟨.tup [.val (.int .i64 (Lib.atoiSat s.data.toList)), .ifc], H, [], some []⟩
      | _ => some ⟨.tup [.val (.int .i64 0), .ifc], H, [], some []⟩
    else none
  | _ => none
def pTrunc (args : List PV) (H : Heap) : Option ORes :=
  match args with
  | [.val (.float .f64 b)] => match FloatKind.f64.decode b with
    | .nan _ _ => none
    | d => some ⟨.val (.float .f64 (FloatKind.f64.encode (d.integral .zero))), H, [], some []⟩
  | _ => none
def pCompare (args : List PV) (H : Heap) : Option ORes :=
  match args with
  | [.val (.string a), .val (.string b)] => some ⟨.val (.int .i64 (Lib.compareBytes a.data.toList b.data.toList)), H, [], some []⟩
  | _ => none
def isStr : PV → Bool
  | .val (.string _) => true
  | _ => false
def pClone (k : Nat) (args : List PV) (H : Heap) : Option ORes :=
  match args with
  | [x] => if isStr x then none else match elems H k x with
    | some (ys, is) => if ys.length = 0 then some ⟨.im [] true, H.grow 1, [], some is⟩
      else if ys.length ≤ most then some ⟨.sl H.n k ys.length 0 ys.length, (H.grow 1).put H.n (.row k ys true), [H.n], some is⟩ else none
    | none => none
  | _ => none
def prim : FuncId → Option (List PV → Heap → Option ORes)
  | 154 => some pSplit
  | 94 => some pJoin
  | 184 => some pAtoi
  | 150 => some pItoa
  | 200 => some pTrunc
  | 186 => some pCompare
  | 92 => some (pClone 1)
  | _ => none
def inlF : FuncId → Bool
  | 171 => true
  | 189 => true
  | 172 => true
  | 98 => true
  | 42 => true
  | 99 => true
  | 47 => true
  | 43 => true
  | 108 => true
  | 44 => true
  | 102 => true
  | 104 => true
  | 45 => true
  | 110 => true
  | 156 => true
  | 77 => true
  | 78 => true
  | 81 => true
  | 138 => true
  | 79 => true
  | 136 => true
  | _ => false
def keepF : FuncId → FuncId → Bool
  | 38, 34 => true
  | 49, 50 => true
  | 10, 41 => true
  | 82, 139 => true
  | 83, 140 => true
  | 85, 145 => true
  | _, 100 => true
  | _, 101 => true
  | _, 153 => true
  | _, 46 => true
  | _, 103 => true
  | _, 105 => true
  | _, 106 => true
  | _, 109 => true
  | _, 80 => true
  | _, _ => false
def howF (f g : FuncId) : How := if inlF g then .inl else if keepF f g then .keep else .own
def env (P : Program) : Env := ⟨P, howF, tab, prim⟩
end Go.Evl.Zone

namespace Go.Evl.Zone
open Go Go.Evl Go.Evl.Fl
attribute [local simp] VB_ite VG_ite
variable {P : Program}
structure Typed (P : Program) : Prop where
  t3 : P.underlying 3 = some (.int .i64)
  t5 : P.underlying 5 = some (.int .u8)
  t53 : P.underlying 61 = some (.int .u64)
  t41 : P.underlying 165 = some (.float .f64)
theorem ownE {f g : FuncId} {xs : List O} {dst : Option Nat} {rest : List CI} {i slot slot' : Nat} {log : Log} {d : Option (Nat × List (Nat × Nat))} {K : Ex → St → Prop} {st : St} {ks : List Fr'} (hp : (prim g).isNone = true) (hh : (inlF g || keepF f g) = false) :
    VA (env P) f (.call (.c (.fn g [])) xs) dst rest i slot slot' st log d ks K ↔ VP (env P) f (ownA (env P) g st.h (expAs st.h (xs.map (evO st.σ)))) dst rest i slot' st log d ks K := VA_own hp (by simp only [Bool.or_eq_false_iff] at hh; simp [env, howF, hh.1, hh.2])
@[simp] theorem env_P : (env P).P = P := rfl
attribute [simp] VA_pop ret1 nAlloc allocs start expV expA expC expCs expAs flatV flatA flatC ownE prim inlF keepF Value.oneCell' cellP cellsOf loadC_ptr loadC_ip loadC_rp loadP_ob storeC_ptr storeC_rp fillP setL slice0 ordered look apart hits
theorem evBin_ford {t : TypeId} {cx cy : Bool} {a b : Nat} {m n : Int} (ha : Is a m) (hb : Is b n) :
    evBin P .geq t cx cy (.val (.float .f64 a)) (.val (.float .f64 b)) = some (.val (.bool (decide (n ≤ m)))) ∧
    evBin P .leq t cx cy (.val (.float .f64 a)) (.val (.float .f64 b)) = some (.val (.bool (decide (m ≤ n)))) ∧
    evBin P .eql t cx cy (.val (.float .f64 a)) (.val (.float .f64 b)) = some (.val (.bool (decide (m = n)))) := by
  have ho : FloatKind.f64.format.order a b = some (compare m n) := ha.order hb
  rw [evBin_fgeq, evBin_fleq, evBin_feql, ho]
  simp only [compare, compareOfLessAndEq]
  rcases Int.lt_trichotomy m n with h | h | h
  · have h1 : ¬ n ≤ m := by omega
    have h2 : m ≤ n := by omega
    have h3 : ¬ m = n := by omega
    simp [h, h1, h2, h3]
  · subst h; simp
  · have h0 : ¬ m < n := by omega
    have h1 : n ≤ m := by omega
    have h2 : ¬ m ≤ n := by omega
    have h3 : ¬ m = n := by omega
    simp [h0, h1, h2, h3]
theorem pTrunc_is {b : Nat} {n : Int} {H : Heap} (h : Is b n) : pTrunc [.val (.float .f64 b)] H = some ⟨.val (.float .f64 b), H, [], some []⟩ := by
  have h1 := h.integral
  unfold pTrunc
  simp only
  split
  · rename_i s t hd; rw [hd] at h1; simp [Ieee.Datum.isNaN] at h1
  · rw [h1.1]
theorem trunc_is {b : Nat} {n : Int} (h : Is b n) : ans (env P) 190 [.val (.float .f64 b)] = some (.val (.float .f64 b)) := by
  refine ans_V rfl rfl ?_
  simp [c190, VA_prim (E := env P) (g := 200) (p := pTrunc) rfl, pTrunc_is h]
theorem wholeTo_is {x lo hi : Nat} {m l h : Int} (hx : Is x m) (hl : Is lo l) (hh : Is hi h) : ans (env P) 173 [.val (.float .f64 x), .val (.float .f64 lo), .val (.float .f64 hi)] = some (.val (.bool (decide (l ≤ m) && decide (m ≤ h)))) := by
  refine ans_V rfl rfl ?_
  by_cases h1 : l ≤ m
  · by_cases h2 : m ≤ h
    · simp [c173, (evBin_ford hx hl).1, (evBin_ford hx hh).2.1, (evBin_ford hx hx).2.2, h1, h2, trunc_is hx]
    · simp [c173, (evBin_ford hx hl).1, (evBin_ford hx hh).2.1, h1, h2]
  · simp [c173, (evBin_ford hx hl).1, h1]
theorem is_const {n : Int} {b : Nat} (h : FloatKind.f64.nearest n = b) (hn : n.natAbs < 2 ^ 53) : Is b n := h ▸ Is.nearest hn
theorem is0 : Is 0 0 := is_const (n := 0) (by decide +kernel) (by decide)
theorem isM1000 : Is 13875379345695965184 (-1000) := is_const (n := -1000) (by decide +kernel) (by decide)
theorem is1000 : Is 4652007308841189376 1000 := is_const (n := 1000) (by decide +kernel) (by decide)
theorem is2000 : Is 4656510908468559872 2000 := is_const (n := 2000) (by decide +kernel) (by decide)
theorem is2M : Is 4701340746312056832 2000000 := is_const (n := 2000000) (by decide +kernel) (by decide)
theorem isM2M : Is 13924712783166832640 (-2000000) := is_const (n := -2000000) (by decide +kernel) (by decide)
def near (m : Int) : Bool := decide (-1000 ≤ m) && decide (m ≤ 1000)
theorem whole_is {a b : Nat} {m n : Int} (ha : Is a m) (hb : Is b n) : ans (env P) 152 [.val (.complex .f64 a b)] = some (.val (.bool (near m && near n))) := by
  refine ans_V rfl rfl ?_
  have h1' := wholeTo_is (P := P) ha isM1000 is1000
  have h2' := wholeTo_is (P := P) hb isM1000 is1000
  rw [← near] at h1' h2'
  cases h1 : near m <;> simp [c152, h1', h2', h1]
end Go.Evl.Zone

namespace Go.Evl.Zone
open Go Go.Evl Go.Evl.Fl
attribute [local simp] VB_ite VG_ite
variable {P : Program}
def placeV (x y : Int) : PV := .agg [.val (.int .i64 x), .val (.int .i64 y)]
theorem wrap64_id {n : Int} (h : -9223372036854775808 ≤ n ∧ n ≤ 9223372036854775807) : IntKind.i64.wrap n = n := by rw [IntKind.wrap_i64]; omega
def stepV (op : Int) (re im sz : Nat) : PV := .agg [.val (.int .i64 op), .val (.complex .f64 re im), .val (.float .f64 sz)]
def needsN (op : Int) : Int := if op = 4 then 1 else if op = 5 ∨ op = 6 then 2 else 0
theorem needs_ans {op : Int} {re im sz : Nat} : ans (env P) 134 [stepV op re im sz] = some (.val (.int .i64 (needsN op))) := by
  refine ans_V rfl rfl ?_
  by_cases h4 : op = 4
  · simp [c134, stepV, needsN, h4]
  · by_cases h5 : op = 5
    · simp [c134, stepV, needsN, h5]
    · by_cases h6 : op = 6
      · simp [c134, stepV, needsN, h6]
      · simp [c134, stepV, needsN, h4, h5, h6]
def rightB (op x y s : Int) : Bool :=
  if op = 2 then near x && near y && (decide (0 ≤ s) && decide (s ≤ 2000))
  else if op = 3 then near x && near y && (decide (-2000000 ≤ s) && decide (s ≤ 2000000))
  else if op = 1 ∨ op = 4 ∨ op = 5 ∨ op = 6 then decide (x = 0) && decide (y = 0) && decide (s = 0)
  else false
theorem ceql0 {a b : Nat} {x y : Int} (ha : Is a x) (hb : Is b y) {t : TypeId} {cx cy : Bool} :
    evBin P .eql t cx cy (.val (.complex .f64 a b)) (.val (.complex .f64 0 0)) = some (.val (.bool (decide (x = 0) && decide (y = 0)))) := by
  have h1 : FloatKind.f64.format.order a 0 = some (compare x 0) := ha.order is0
  have h2 : FloatKind.f64.format.order b 0 = some (compare y 0) := hb.order is0
  rw [evBin_ceql, h1, h2]
  have key : ∀ z : Int, (some (compare z 0) == some Ordering.eq) = decide (z = 0) := fun z => by
    simp only [compare, compareOfLessAndEq]
    rcases Int.lt_trichotomy z 0 with h | h | h
    · have : ¬ z = 0 := by omega
      simp [h, this]
    · simp [h]
    · have h0 : ¬ z < 0 := by omega
      have : ¬ z = 0 := by omega
      simp [h0, this]
  rw [key, key]
theorem right_is {op : Int} {re im sz : Nat} {x y s : Int} (hx : Is re x) (hy : Is im y) (hs : Is sz s) : ans (env P) 133 [stepV op re im sz] = some (.val (.bool (rightB op x y s))) := by
  refine ans_V rfl rfl ?_
  have hw := whole_is (P := P) hx hy
  have h0 := ceql0 (P := P) hx hy (t := 91) (cx := false) (cy := true)
  have hs0 := (evBin_ford (P := P) hs is0 (t := 165) (cx := false) (cy := true)).2.2
  by_cases h2 : op = 2
  · subst h2
    cases hn : (near x && near y) <;> simp [c133, stepV, hw, hn, wholeTo_is hs is0 is2000, rightB]
  · by_cases h3 : op = 3
    · subst h3
      cases hn : (near x && near y) <;> simp [c133, stepV, hw, hn, wholeTo_is hs isM2M is2M, rightB]
    · by_cases h1 : op = 1
      · subst h1
        cases hn : (decide (x = 0) && decide (y = 0)) <;> simp [c133, stepV, h0, hs0, hn, rightB]
      · by_cases h4 : op = 4
        · subst h4
          cases hn : (decide (x = 0) && decide (y = 0)) <;> simp [c133, stepV, h0, hs0, hn, rightB]
        · by_cases h5 : op = 5
          · subst h5
            cases hn : (decide (x = 0) && decide (y = 0)) <;> simp [c133, stepV, h0, hs0, hn, rightB]
          · by_cases h6 : op = 6
            · subst h6
              cases hn : (decide (x = 0) && decide (y = 0)) <;> simp [c133, stepV, h0, hs0, hn, rightB]
            · simp [c133, stepV, h1, h2, h3, h4, h5, h6, rightB]
end Go.Evl.Zone

namespace Go.Evl.Zone
open Go Go.Evl Go.Evl.Fl
attribute [local simp] VB_ite VG_ite
variable {P : Program}
def sm (n : Int) : Prop := -3000 ≤ n ∧ n ≤ 3000
def boolsV (t : List Bool) : List (List PV) := t.map fun b => [.val (.bool b)]
end Go.Evl.Zone

namespace Go.Evl.Zone
open Go Go.Evl Go.Evl.Fl
attribute [local simp] VB_ite VG_ite
variable {P : Program}
theorem V_loop {E : Env} {f : FuncId} {b : CC} {st : St} {ks : List Fr'} {K : Ex → St → Prop} : V E f (.loop b) st ks K ↔ V E f b st (.seq (.loop b) :: ks) K := W_loop
structure SI where
  op : Int
  x : Int
  y : Int
  s : Int
  re : Nat
  im : Nat
  sz : Nat
def SI.ok (q : SI) : Prop := Is q.re q.x ∧ Is q.im q.y ∧ Is q.sz q.s
def SI.cells (q : SI) : List PV := [.val (.int .i64 q.op), .val (.complex .f64 q.re q.im), .val (.float .f64 q.sz)]
def stepsV (l : List SI) : List (List PV) := l.map SI.cells
@[simp] theorem stepsV_length (l : List SI) : (stepsV l).length = l.length := by simp [stepsV]
@[simp] theorem stepsV_len : ∀ (l : List SI), allLen 3 (stepsV l) = true
  | [] => rfl
  | q :: l => by simp only [stepsV, List.map_cons, allLen, SI.cells]; rw [show (List.map SI.cells l) = stepsV l from rfl, stepsV_len l]; rfl
theorem stepsV_get {l : List SI} {i : Nat} {q : SI} (h : l[i]? = some q) : (stepsV l)[i]? = some q.cells := by simp [stepsV, h]
def SI.right (q : SI) : Bool := rightB q.op q.x q.y q.s
def foldR : List SI → Int → Option Int
  | [], n => some n
  | q :: l, n => if q.right = false ∨ n < needsN q.op then none else foldR l (n + (1 - needsN q.op))
theorem needsN_le (op : Int) : 0 ≤ needsN op ∧ needsN op ≤ 2 := by
  unfold needsN
  split
  · omega
  · split <;> omega
theorem loop14 {L : List SI} (hok : ∀ q ∈ L, q.ok) {ks : List Fr'} {K : Ex → St → Prop} (hL : L.length ≤ 32) : ∀ (rest : List SI) (i : Nat) (n : Int) (st : St), L.drop i = rest → 0 ≤ n ∧ n ≤ i → st.σ 9 = .im (stepsV L) false → st.σ 10 = .val (.int .i64 L.length) → st.σ 11 = .val (.int .i64 i) → st.σ 3 = .val (.int .i64 n) →
    (∀ st', foldR rest n = none → st'.σ 2 = .val (.bool false) → K .ret st') → (∀ st' m, foldR rest n = some m → st'.σ 3 = .val (.int .i64 m) → VN (env P) 74 st' ks K) → V (env P) 74 (.loop L74_0) st (.blk 0 :: ks) K
  | [], i, n, st, hr, hn, h9, h10, h11, h3, hret, hend => by
    have hi : L.length ≤ i := by
      have := congrArg List.length hr; simp at this; omega
    have hlt : ¬ i < L.length := by omega
    rw [V_loop]
    simp [L74_0, h10, h11, hlt]
    refine hend _ n rfl ?_
    simp [h3]
  | q :: rest, i, n, st, hr, hn, h9, h10, h11, h3, hret, hend => by
    have hq : L[i]? = some q := by
      have : (L.drop i)[0]? = some q := by rw [hr]; rfl
      simpa using this
    have hlt : i < L.length := (List.getElem?_eq_some_iff.1 hq).1
    have hr' : L.drop (i + 1) = rest := by rw [← List.drop_drop, hr]; rfl
    have hqo := hok q (List.mem_of_getElem? hq)
    have hc : ∀ h, (stepsV L)[i]'h = q.cells := fun h => (List.getElem?_eq_some_iff.1 (stepsV_get hq)).2
    have hri := right_is (P := P) (op := q.op) hqo.1 hqo.2.1 hqo.2.2
    have hne := needs_ans (P := P) (op := q.op) (re := q.re) (im := q.im) (sz := q.sz)
    rw [stepV] at hri hne
    have hb := needsN_le q.op
    have hw : IntKind.i64.wrap (1 - needsN q.op) = 1 - needsN q.op := wrap64_id (by omega)
    have hw2 : IntKind.i64.wrap (n + (1 - needsN q.op)) = n + (1 - needsN q.op) := wrap64_id (by omega)
    have hw3 : IntKind.i64.wrap ((i : Int) + 1) = ((i + 1 : Nat) : Int) := by rw [wrap64_id (by omega)]; rfl
    rw [V_loop]
    cases hqr : q.right with
    | false =>
      have hqr' : rightB q.op q.x q.y q.s = false := hqr
      simp [L74_0, h9, h10, h11, h3, hlt, hc, SI.cells, hri, hqr']
      refine hret _ (by simp [foldR, hqr]) ?_
      simp
    | true =>
      have hqr' : rightB q.op q.x q.y q.s = true := hqr
      by_cases hnn : n < needsN q.op
      · simp [L74_0, h9, h10, h11, h3, hlt, hc, SI.cells, hri, hqr', hne, hnn]
        refine hret _ (by simp [foldR, hnn]) ?_
        simp
      · simp [L74_0, h9, h10, h11, h3, hlt, hc, SI.cells, hri, hqr', hne, hnn, hw, hw2, hw3]
        refine loop14 hok hL rest (i + 1) (n + (1 - needsN q.op)) _ hr' (by omega) ?_ ?_ ?_ ?_ ?_ ?_
        · simp [h9]
        · simp [h10]
        · simp
        · simp
        · intro st' hf hs; exact hret st' (by simp [foldR, hqr, hnn, hf]) hs
        · intro st' m hf hs; exact hend st' m (by simp [foldR, hqr, hnn, hf]) hs
def zoneRight (l : List SI) : Bool := decide (l.length ≤ 32) && decide (foldR l 0 = some 1)
theorem zoneRight_ans {l : List SI} (hok : ∀ q ∈ l, q.ok) : ans (env P) 74 [.im (stepsV l) false] = some (.val (.bool (zoneRight l))) := by
  refine ans_V rfl rfl ?_
  by_cases h : l.length ≤ 32
  · have h' : ¬ ((32 : Int) < (l.length : Int)) := by omega
    simp [c74, h']
    refine loop14 hok h l 0 0 _ rfl (by omega) ?_ ?_ ?_ ?_ ?_ ?_
    · simp
    · simp
    · simp
    · simp
    · intro st' hf hs; simp [hs, zoneRight, hf]
    · intro st' m hf hs
      simp [hs, zoneRight, hf, h]
  · have h' : (32 : Int) < (l.length : Int) := by omega
    simp [c74, h', zoneRight, h]
end Go.Evl.Zone

namespace Go.Evl.Zone
open Go Go.Evl Go.Evl.Fl
attribute [local simp] VB_ite VG_ite
variable {P : Program}
theorem boolsV_length (t : List Bool) : (boolsV t).length = t.length := by simp [boolsV]
end Go.Evl.Zone

namespace Go.Evl.Zone
open Go Go.Evl Go.Evl.Fl
attribute [local simp] VB_ite VG_ite
variable {P : Program}
@[simp] theorem freeze_nil (H : Heap) : freeze H [] = H := rfl
end Go.Evl.Zone

namespace Go.Evl.Zone
open Go Go.Evl Go.Evl.Fl
attribute [local simp] VB_ite VG_ite
variable {P : Program}
end Go.Evl.Zone

namespace Go.Evl.Zone
open Go Go.Evl Go.Evl.Fl
attribute [local simp] VB_ite VG_ite
variable {P : Program}
structure RS where
  op : Int
  x : Int
  y : Int
  s : Int
  deriving DecidableEq
def RS.cells (q : RS) : List PV := [.val (.int .i64 q.op), .val (.int .i64 q.x), .val (.int .i64 q.y), .val (.int .i64 q.s)]
def rsV (l : List RS) : List (List PV) := l.map RS.cells
noncomputable def RS.si (q : RS) : SI := ⟨q.op, q.x, q.y, q.s, FloatKind.f64.nearest q.x, FloatKind.f64.nearest q.y, FloatKind.f64.nearest q.s⟩
noncomputable def toSI (l : List RS) : List SI := l.map RS.si
@[simp] theorem rsV_length (l : List RS) : (rsV l).length = l.length := by simp [rsV]
@[simp] theorem rsV_len : ∀ (l : List RS), allLen 4 (rsV l) = true
  | [] => rfl
  | q :: l => by simp only [rsV, List.map_cons, allLen, RS.cells]; rw [show (List.map RS.cells l) = rsV l from rfl, rsV_len l]; rfl
theorem rsV_at {l : List RS} {i : Nat} {q : RS} (h : l[i]? = some q) (h' : i < (rsV l).length) : (rsV l)[i] = q.cells := by
  have : l[i]? = some q := h
  simp only [rsV, List.getElem_map]
  rw [(List.getElem?_eq_some_iff.1 h).2]
theorem plainss_rs (l : List RS) : plainss (rsV l) = some (rsV l) := plainss_ok (by intro y hy; simp [rsV] at hy; obtain ⟨q, _, rfl⟩ := hy; rfl)
theorem plainss_si (l : List SI) : plainss (stepsV l) = some (stepsV l) := plainss_ok (by intro y hy; simp [stepsV] at hy; obtain ⟨q, _, rfl⟩ := hy; rfl)
theorem drop_cons {α : Type} {l : List α} {i : Nat} {q : α} {rest : List α} (h : l.drop i = q :: rest) : l[i]? = some q ∧ i < l.length ∧ l.drop (i + 1) = rest ∧ l.take (i + 1) = l.take i ++ [q] := by
  have hq : l[i]? = some q := by
    have : (l.drop i)[0]? = some q := by rw [h]; rfl
    simpa using this
  have hlt := (List.getElem?_eq_some_iff.1 hq).1
  refine ⟨hq, hlt, by rw [← List.drop_drop, h]; rfl, ?_⟩
  rw [List.take_add_one, hq]; rfl
theorem drop_nil {α : Type} {l : List α} {i : Nat} (h : l.drop i = []) (hi : i ≤ l.length) : i = l.length ∧ ¬ i < l.length ∧ l.take i = l := by
  have := congrArg List.length h
  simp at this
  have e : i = l.length := by omega
  exact ⟨e, by omega, by rw [e]; exact List.take_length⟩
theorem wrapS {i : Nat} (h : i < 9223372036854775807) : IntKind.i64.wrap ((i : Int) + 1) = ((i + 1 : Nat) : Int) := by rw [wrap64_id (by omega)]; rfl
end Go.Evl.Zone

namespace Go.Evl.Zone
open Go Go.Evl Go.Evl.Fl
attribute [local simp] VB_ite VG_ite
variable {P : Program}
theorem near_ans {x n : Int} (hn : -9223372036854775807 ≤ n ∧ n ≤ 9223372036854775807) : ans (env P) 160 [.val (.int .i64 x), .val (.int .i64 n)] = some (.val (.bool (decide (-n ≤ x) && decide (x ≤ n)))) := by
  refine ans_V rfl rfl ?_
  have hw : IntKind.i64.wrap (-n) = -n := wrap64_id (by omega)
  by_cases h : -n ≤ x <;> simp [c160, hw, h]
theorem refWhole_ans {x y : Int} : ans (env P) 159 [.agg [.val (.int .i64 x), .val (.int .i64 y)]] = some (.val (.bool (near x && near y))) := by
  refine ans_V rfl rfl ?_
  have h1 : ans (env P) 160 [.val (.int .i64 x), .val (.int .i64 1000)] = some (.val (.bool (near x))) := near_ans (by omega)
  have h2 : ans (env P) 160 [.val (.int .i64 y), .val (.int .i64 1000)] = some (.val (.bool (near y))) := near_ans (by omega)
  cases hx : near x <;> simp [c159, h1, h2, hx]
theorem place_ans (T : Typed P) (T33 : P.underlying 91 = some (.complex .f64)) {a b : Nat} {x y : Int} (ha : Is a x) (hb : Is b y) (hx : -9223372036854775808 ≤ x ∧ x ≤ 9223372036854775807) (hy : -9223372036854775808 ≤ y ∧ y ≤ 9223372036854775807) :
    ans (env P) 126 [.val (.complex .f64 a b)] = some (placeV x y) := by
  refine ans_V rfl rfl ?_
  have c1 : scal P (Go.convert 165 3 (.float .f64 a)) = some (.val (.int .i64 x)) := cv_fi (by rw [T.t41]; rfl) T.t3 ha.toInt hx
  have c2 : scal P (Go.convert 165 3 (.float .f64 b)) = some (.val (.int .i64 y)) := cv_fi (by rw [T.t41]; rfl) T.t3 hb.toInt hy
  simp [c126, c1, c2, placeV]
theorem loop21 (T : Typed P) (T33 : P.underlying 91 = some (.complex .f64)) {L : List SI} (hok : ∀ q ∈ L, q.ok) (hin : ∀ q ∈ L, ∀ z ∈ [q.x, q.y, q.s], -9223372036854775808 ≤ z ∧ z ≤ 9223372036854775807) {ks : List Fr'} {K : Ex → St → Prop} (hL : L.length ≤ most) :
    ∀ (rest : List SI) (i : Nat) (st : St) (v : PV), L.drop i = rest → i ≤ L.length → st.σ 0 = .im (stepsV L) false → st.σ 4 = .val (.int .i64 i) → st.σ 3 = v → Lst st.h 4 v (rsV ((L.take i).map fun q => ⟨q.op, q.x, q.y, q.s⟩)) →
    (∀ st' v, st'.σ 3 = v → Lst st'.h 4 v (rsV (L.map fun q => ⟨q.op, q.x, q.y, q.s⟩)) → VN (env P) 70 st' ks K) → V (env P) 70 (.loop L70_0) st (.blk 0 :: ks) K
  | [], i, st, v, hr, hi, h0, h4, h3, hl, hend => by
    obtain ⟨_, hlt, ht⟩ := drop_nil hr hi
    rw [ht] at hl
    rw [V_loop]
    simp [L70_0, h0, h4, hlt]
    exact hend _ v (by simp [h3]) (by simpa using hl.grow)
  | q :: rest, i, st, v, hr, hi, h0, h4, h3, hl, hend => by
    obtain ⟨hq, hlt, hr', ht⟩ := drop_cons hr
    have hc : ∀ h, (stepsV L)[i]'h = q.cells := fun h => (List.getElem?_eq_some_iff.1 (stepsV_get hq)).2
    obtain ⟨q1, q2, q3⟩ := hok q (List.mem_of_getElem? hq)
    have hz := hin q (List.mem_of_getElem? hq)
    have c1 : scal P (Go.convert 165 3 (.float .f64 q.sz)) = some (.val (.int .i64 q.s)) := cv_fi (by rw [T.t41]; rfl) T.t3 q3.toInt (hz q.s (by simp))
    have s2 := place_ans (P := P) T T33 q1 q2 (hz q.x (by simp)) (hz q.y (by simp))
    rw [placeV] at s2
    have hw3 := wrapS (i := i) (by unfold most at hL; omega)
    rw [V_loop]
    simp [L70_0, h0, h4, h3, hlt, hc, SI.cells, s2, c1, chunks, elems, allLen]
    refine VP_app (ys := rsV ((L.take i).map fun q => ⟨q.op, q.x, q.y, q.s⟩)) (by repeat (first | exact hl | refine Lst.grow ?_ | refine Lst.putN ?_ (by simp))) (by simp) (by simp) rfl (by simp; omega) fun v' H' wr rd e2 e3 _ => ?_
    simp [h0, h4, hw3, e3]
    refine loop21 T T33 hok hin hL rest (i + 1) _ v' hr' (by omega) ?_ ?_ ?_ ?_ hend
    · simp [h0]
    · simp
    · simp
    · rw [ht, show ∀ A B : List SI, rsV ((A ++ B).map fun q => (⟨q.op, q.x, q.y, q.s⟩ : RS)) = rsV (A.map fun q => ⟨q.op, q.x, q.y, q.s⟩) ++ rsV (B.map fun q => ⟨q.op, q.x, q.y, q.s⟩) from fun A B => by simp [rsV]]
      exact e2.grow
theorem from_ans (T : Typed P) (T33 : P.underlying 91 = some (.complex .f64)) {l : List SI} (hok : ∀ q ∈ l, q.ok) (hin : ∀ q ∈ l, ∀ z ∈ [q.x, q.y, q.s], -9223372036854775808 ≤ z ∧ z ≤ 9223372036854775807) (hl : l.length ≤ most) : ans (env P) 70 [.im (stepsV l) false] = some (.im (rsV (l.map fun q => ⟨q.op, q.x, q.y, q.s⟩)) false) := by
  refine ans_V rfl rfl ?_
  simp [c70]
  refine loop21 T T33 hok hin hl l 0 _ _ rfl (by omega) (by simp) (by simp) rfl ?_ ?_
  · simp; exact Lst.nil
  · intro st' v h3 hl'
    simp [h3]
    exact (hl'.grow (m := 0)).expV (plainss_rs _)
structure Typed2 (P : Program) : Prop extends Typed P where
  t33 : P.underlying 91 = some (.complex .f64)
  t59 : ∃ fs : Array Field, P.underlying 155 = some (.struct fs) ∧ fs.toList.map (fun f => (f.type, f.offset)) = [(3, 0), (3, 1), (3, 2), (3, 3)] ∧ (fs.toList.all fun f => f.name != "_") = true
  h59 : P.stoodInHeld 155 = false
  g59 : P.eqGuardType P.depth 155 = false
theorem fields4 {fs : List Field} {a b c d : TypeId × Nat} (h : fs.map (fun f => (f.type, f.offset)) = [a, b, c, d]) (hn : (fs.all fun f => f.name != "_") = true) : ∃ f0 f1 f2 f3 : Field, fs = [f0, f1, f2, f3] ∧ ((f0.type, f0.offset) = a ∧ (f0.name == "_") = false) ∧ ((f1.type, f1.offset) = b ∧ (f1.name == "_") = false) ∧ ((f2.type, f2.offset) = c ∧ (f2.name == "_") = false) ∧ ((f3.type, f3.offset) = d ∧ (f3.name == "_") = false) := by
  match fs, h, hn with
  | [f0, f1, f2, f3], h, hn =>
    simp only [List.map_cons, List.map_nil, List.cons.injEq, and_true] at h
    simp only [List.all_cons, List.all_nil, Bool.and_true, Bool.and_eq_true, bne, Bool.not_eq_true'] at hn
    exact ⟨f0, f1, f2, f3, rfl, ⟨h.1, hn.1⟩, ⟨h.2.1, hn.2.1⟩, ⟨h.2.2.1, hn.2.2.1⟩, ⟨h.2.2.2, hn.2.2.2⟩⟩
theorem rs_neq (T : Typed2 P) {cx cy : Bool} (a b : RS) : evBin P .neq 155 cx cy (.agg a.cells) (.agg b.cells) = some (.val (.bool (decide (a ≠ b)))) := by
  obtain ⟨fs, ht, hf, hn⟩ := T.t59
  obtain ⟨f0, f1, f2, f3, hfs, ⟨e0, n0⟩, ⟨e1, n1⟩, ⟨e2, n2⟩, ⟨e3, n3⟩⟩ := fields4 hf hn
  simp only [Prod.mk.injEq] at e0 e1 e2 e3
  have hT := T.t3
  have h3 : ∀ {cs : Array Value} {o : Nat} {v : Value}, cs[o]? = some v → pureRun P (part 3 cs o) = some v := fun hx => pureRun_part hT rfl hx
  have key : pureRun P (Op.eqFields 9999 #[.int .i64 a.op, .int .i64 a.x, .int .i64 a.y, .int .i64 a.s] #[.int .i64 b.op, .int .i64 b.x, .int .i64 b.y, .int .i64 b.s] fs.toList) = some ((a.op == b.op) && ((a.x == b.x) && ((a.y == b.y) && ((a.s == b.s) && true)))) := by
    rw [hfs]
    refine pureRun_eqCons n0 (by rw [e0.1, e0.2]; exact h3 rfl) (by rw [e0.1, e0.2]; exact h3 rfl) (by rw [e0.1]; exact pureRun_equal_int hT) ?_
    refine pureRun_eqCons n1 (by rw [e1.1, e1.2]; exact h3 rfl) (by rw [e1.1, e1.2]; exact h3 rfl) (by rw [e1.1]; exact pureRun_equal_int hT) ?_
    refine pureRun_eqCons n2 (by rw [e2.1, e2.2]; exact h3 rfl) (by rw [e2.1, e2.2]; exact h3 rfl) (by rw [e2.1]; exact pureRun_equal_int hT) ?_
    exact pureRun_eqCons n3 (by rw [e3.1, e3.2]; exact h3 rfl) (by rw [e3.1, e3.2]; exact h3 rfl) (by rw [e3.1]; exact pureRun_equal_int hT) pureRun_eqNil
  rw [(evBin_struct_eql (vs := [.int .i64 a.op, .int .i64 a.x, .int .i64 a.y, .int .i64 a.s]) (us := [.int .i64 b.op, .int .i64 b.x, .int .i64 b.y, .int .i64 b.s]) ht T.h59 T.g59 rfl rfl key).2]
  congr 3
  obtain ⟨a1, a2, a3, a4⟩ := a
  obtain ⟨b1, b2, b3, b4⟩ := b
  rw [Bool.eq_iff_iff]
  simp
theorem loop20 (T : Typed2 P) {L M : List RS} {ks : List Fr'} {K : Ex → St → Prop} (hlen : L.length = M.length) (hL : L.length ≤ most) : ∀ (rest : List RS) (i : Nat) (st : St), L.drop i = rest → i ≤ L.length → L.take i = M.take i → st.σ 0 = .im (rsV L) false → st.σ 1 = .im (rsV M) false → st.σ 5 = .val (.int .i64 i) →
    (∀ st', L ≠ M → st'.σ 4 = .val (.bool false) → K .ret st') → (∀ st', L = M → VN (env P) 64 st' ks K) → V (env P) 64 (.loop L64_0) st (.blk 0 :: ks) K
  | [], i, st, hr, hi, hp, h0, h1, h5, hret, hend => by
    obtain ⟨he, hlt, ht⟩ := drop_nil hr hi
    rw [V_loop]
    simp [L64_0, h0, h5, hlt]
    refine hend _ ?_
    rw [ht, he, hlen, List.take_length] at hp
    exact hp
  | q :: rest, i, st, hr, hi, hp, h0, h1, h5, hret, hend => by
    obtain ⟨hq, hlt, hr', ht⟩ := drop_cons hr
    have hc := fun h => rsV_at hq h
    have hm : M[i]? = some (M[i]'(by omega)) := List.getElem?_eq_getElem (by omega)
    generalize M[i]'(by omega) = m at hm
    have hd := fun h => rsV_at hm h
    have hltM : i < M.length := by omega
    have hn := rs_neq T (cx := false) (cy := false) q m
    have hw3 := wrapS (i := i) (by unfold most at hL; omega)
    rw [V_loop]
    by_cases hqm : q = m
    · subst hqm
      simp [L64_0, h0, h1, h5, hlt, hltM, hc, hd, hn, hw3, RS.cells]
      simp [RS.cells] at hn
      simp [hn, hw3, h5]
      refine loop20 T hlen hL rest (i + 1) _ hr' (by omega) ?_ ?_ ?_ ?_ hret hend
      · rw [ht, List.take_add_one, hm, hp]; rfl
      · simp [h0]
      · simp [h1]
      · simp
    · simp [L64_0, h0, h1, h5, hlt, hltM, hc, hd, hn, hw3, hqm, RS.cells]
      simp [RS.cells, hqm] at hn
      simp [hn, hqm]
      refine hret _ ?_ (by simp)
      intro e
      rw [e] at hq
      rw [hq] at hm
      exact hqm (Option.some.inj hm)
theorem refSame_ans (T : Typed2 P) {l m : List RS} (hl : l.length ≤ most) : ans (env P) 64 [.im (rsV l) false, .im (rsV m) false] = some (.val (.bool (decide (l = m)))) := by
  refine ans_V rfl rfl ?_
  by_cases hlen : l.length = m.length
  · have hlen' : (l.length : Int) = (m.length : Int) := by omega
    simp [c64, hlen']
    refine loop20 T hlen hl l 0 _ rfl (by omega) rfl (by simp) (by simp) (by simp) ?_ ?_
    · intro st' hne h4; simp [h4, hne]
    · intro st' he; simp [he]
  · have hlen' : ¬ (l.length : Int) = (m.length : Int) := by omega
    have hne : l ≠ m := fun e => hlen (by rw [e])
    simp [c64, hlen', hne]
end Go.Evl.Zone

namespace Go.Evl.Zone
open Go Go.Evl Go.Evl.Fl
attribute [local simp] VB_ite VG_ite
variable {P : Program}
def u64 (n : Int) : Int := n % 18446744073709551616
end Go.Evl.Zone

namespace Go.Evl.Zone
open Go Go.Evl Go.Evl.Fl
attribute [local simp] VB_ite VG_ite
variable {P : Program}
end Go.Evl.Zone

namespace Go.Evl.Zone
open Go Go.Evl Go.Evl.Fl
variable {P : Program}
set_option maxRecDepth 20000 in
set_option maxHeartbeats 4000000 in
theorem loop27 {L : List RS} {ks : List Fr'} {K : Ex → St → Prop} (hL : L.length ≤ 32) : ∀ (rest : List RS) (i : Nat) (n : Int) (st : St), L.drop i = rest → i ≤ L.length → 0 ≤ n ∧ n ≤ i → st.σ 0 = .im (rsV L) false → st.σ 4 = .val (.int .i64 i) → st.σ 3 = .val (.int .i64 n) →
    (∀ st', foldR (toSI rest) n = none → st'.σ 2 = .val (.bool false) → K .ret st') → (∀ st' m, foldR (toSI rest) n = some m → st'.σ 3 = .val (.int .i64 m) → VN (env P) 113 st' ks K) → V (env P) 113 (.loop L113_0) st (.blk 0 :: ks) K
  | [], i, n, st, hr, hi, hn, h0, h4, h3, hret, hend => by
    obtain ⟨_, hlt, _⟩ := drop_nil hr hi
    rw [V_loop]
    simp [L113_0, h0, h4, hlt]
    exact hend _ n rfl (by simp [h3])
  | q :: rest, i, n, st, hr, hi, hn, h0, h4, h3, hret, hend => by
    obtain ⟨hq, hlt, hr', ht⟩ := drop_cons hr
    have hc := fun h => rsV_at hq h
    have hw3 := wrapS (i := i) (by omega)
    have hwh := refWhole_ans (P := P) (x := q.x) (y := q.y)
    have hns : ans (env P) 160 [.val (.int .i64 q.s), .val (.int .i64 2000000)] = some (.val (.bool (decide (-2000000 ≤ q.s) && decide (q.s ≤ 2000000)))) := near_ans (by omega)
    have wn : IntKind.i64.wrap (n + 1) = n + 1 := wrap64_id (by omega)
    have wm : IntKind.i64.wrap (n - 1) = n - 1 := wrap64_id (by omega)
    have hfold : foldR (toSI (q :: rest)) n = if q.si.right = false ∨ n < needsN q.op then none else foldR (toSI rest) (n + (1 - needsN q.op)) := rfl
    have hgo : ∀ st', q.si.right = true → ¬ n < needsN q.op → st'.σ 0 = .im (rsV L) false → st'.σ 4 = .val (.int .i64 (i + 1 : Nat)) → st'.σ 3 = .val (.int .i64 (n + (1 - needsN q.op))) → V (env P) 113 (.loop L113_0) st' (.blk 0 :: ks) K := by
      intro st' c1 c2 k0 k4 k3
      have hb := needsN_le q.op
      rw [hfold, if_neg (by simp [c1, c2])] at hret hend
      exact loop27 hL rest (i + 1) _ st' hr' (by omega) (by omega) k0 k4 k3 hret hend
    have hno : ∀ st', (q.si.right = false ∨ n < needsN q.op) → st'.σ 2 = .val (.bool false) → K .ret st' := by
      intro st' c k
      exact hret st' (by rw [hfold, if_pos c]) k
    clear hret hend hfold
    rw [V_loop]
    by_cases c2 : q.op = 2
    · cases hw : (near q.x && near q.y) with
      | false =>
        simp [L113_0, h0, h4, h3, hlt, hc, RS.cells, c2, hwh, hw]
        exact hno _ (.inl (by simp only [SI.right, RS.si, rightB, c2, if_true, hw, Bool.false_and])) (by simp)
      | true =>
        have hri : q.si.right = (decide (0 ≤ q.s) && decide (q.s ≤ 2000)) := by simp only [SI.right, RS.si, rightB, c2, if_true, hw, Bool.true_and]
        by_cases s1 : q.s < 0
        · simp [L113_0, h0, h4, h3, hlt, hc, RS.cells, c2, hwh, hw, s1]
          exact hno _ (.inl (by rw [hri]; simp; omega)) (by simp)
        · by_cases s2 : 2000 < q.s
          · simp [L113_0, h0, h4, h3, hlt, hc, RS.cells, c2, hwh, hw, s1, s2]
            exact hno _ (.inl (by rw [hri]; simp; omega)) (by simp)
          · simp [L113_0, h0, h4, h3, hlt, hc, RS.cells, c2, hwh, hw, s1, s2, wn, hw3]
            refine hgo _ (by rw [hri]; simp; omega) (by simp [needsN, c2]; omega) ?_ ?_ ?_
            · simp [h0]
            · simp
            · simp [needsN, c2]
    · by_cases ccenotaph_cenotaphlaw05_ZoneHas_ : q.op = 3
      · cases hw : (near q.x && near q.y) with
        | false =>
          simp [L113_0, h0, h4, h3, hlt, hc, RS.cells, ccenotaph_cenotaphlaw05_ZoneHas_, hwh, hw]
          exact hno _ (.inl (by simp [SI.right, RS.si, rightB, ccenotaph_cenotaphlaw05_ZoneHas_]; intro h1 h2; simp [h1, h2] at hw)) (by simp)
        | true =>
          have hri : q.si.right = (decide (-2000000 ≤ q.s) && decide (q.s ≤ 2000000)) := by
            simp only [Bool.and_eq_true] at hw
            simp [SI.right, RS.si, rightB, ccenotaph_cenotaphlaw05_ZoneHas_, hw]
          cases hs : (decide (-2000000 ≤ q.s) && decide (q.s ≤ 2000000)) with
          | false =>
            rw [hs] at hns hri
            simp [L113_0, h0, h4, h3, hlt, hc, RS.cells, ccenotaph_cenotaphlaw05_ZoneHas_, hwh, hw, hns]
            exact hno _ (.inl hri) (by simp)
          | true =>
            rw [hs] at hns hri
            simp [L113_0, h0, h4, h3, hlt, hc, RS.cells, ccenotaph_cenotaphlaw05_ZoneHas_, hwh, hw, hns, wn, hw3]
            refine hgo _ hri (by simp [needsN, ccenotaph_cenotaphlaw05_ZoneHas_]; omega) ?_ ?_ ?_
            · simp [h0]
            · simp
            · simp [needsN, ccenotaph_cenotaphlaw05_ZoneHas_]
      · by_cases c : q.op = 1 ∨ q.op = 4 ∨ q.op = 5 ∨ q.op = 6
        · by_cases hz : q.x = 0 ∧ q.y = 0 ∧ q.s = 0
          · obtain ⟨z1, z2, z3⟩ := hz
            have hri : q.si.right = true := by
              rw [show q.si.right = rightB q.op q.x q.y q.s from rfl]
              unfold rightB
              rw [if_neg c2, if_neg ccenotaph_cenotaphlaw05_ZoneHas_, if_pos c, z1, z2, z3]; rfl
            rcases c with c | c | c | c
            · simp [L113_0, h0, h4, h3, hlt, hc, RS.cells, c, z1, z2, z3, wn, hw3]
              refine hgo _ hri (by simp [needsN, c]; omega) ?_ ?_ ?_
              · simp [h0]
              · simp
              · simp [needsN, c]
            · by_cases hlow : n < 1
              · simp [L113_0, h0, h4, h3, hlt, hc, RS.cells, c, z1, z2, z3, wn, hw3, hlow]
                exact hno _ (.inr (by simp [needsN, c]; omega)) (by simp)
              · simp [L113_0, h0, h4, h3, hlt, hc, RS.cells, c, z1, z2, z3, wn, hw3, hlow]
                refine hgo _ hri (by simp [needsN, c]; omega) ?_ ?_ ?_
                · simp [h0]
                · simp
                · simp [needsN, c, h3]
            · by_cases hlow : n < 2
              · simp [L113_0, h0, h4, h3, hlt, hc, RS.cells, c, z1, z2, z3, wn, wm, hw3, hlow]
                exact hno _ (.inr (by simp [needsN, c]; omega)) (by simp)
              · simp [L113_0, h0, h4, h3, hlt, hc, RS.cells, c, z1, z2, z3, wn, wm, hw3, hlow]
                refine hgo _ hri (by simp [needsN, c]; omega) ?_ ?_ ?_
                · simp [h0]
                · simp
                · simp [needsN, c]; omega
            · by_cases hlow : n < 2
              · simp [L113_0, h0, h4, h3, hlt, hc, RS.cells, c, z1, z2, z3, wn, wm, hw3, hlow]
                exact hno _ (.inr (by simp [needsN, c]; omega)) (by simp)
              · simp [L113_0, h0, h4, h3, hlt, hc, RS.cells, c, z1, z2, z3, wn, wm, hw3, hlow]
                refine hgo _ hri (by simp [needsN, c]; omega) ?_ ?_ ?_
                · simp [h0]
                · simp
                · simp [needsN, c]; omega
          · have hri : q.si.right = false := by
              rw [show q.si.right = rightB q.op q.x q.y q.s from rfl]
              unfold rightB
              rw [if_neg c2, if_neg ccenotaph_cenotaphlaw05_ZoneHas_, if_pos c]
              simp only [Bool.and_eq_false_iff, decide_eq_false_iff_not]
              omega
            have hz' : q.x ≠ 0 ∨ q.y ≠ 0 ∨ q.s ≠ 0 := by omega
            by_cases z1 : q.x = 0
            · by_cases z2 : q.y = 0
              · have z3 : ¬ q.s = 0 := by omega
                rcases c with c | c | c | c <;>
                  (simp [L113_0, h0, h4, h3, hlt, hc, RS.cells, c, z1, z2, z3]
                   exact hno _ (.inl hri) (by simp))
              · rcases c with c | c | c | c <;>
                  (simp [L113_0, h0, h4, h3, hlt, hc, RS.cells, c, z1, z2]
                   exact hno _ (.inl hri) (by simp))
            · rcases c with c | c | c | c <;>
                (simp [L113_0, h0, h4, h3, hlt, hc, RS.cells, c, z1]
                 exact hno _ (.inl hri) (by simp))
        · have hri : q.si.right = false := by
            rw [show q.si.right = rightB q.op q.x q.y q.s from rfl]
            unfold rightB
            rw [if_neg c2, if_neg ccenotaph_cenotaphlaw05_ZoneHas_, if_neg c]
          simp only [not_or] at c
          simp [L113_0, h0, h4, h3, hlt, hc, RS.cells, c2, ccenotaph_cenotaphlaw05_ZoneHas_, c]
          exact hno _ (.inl hri) (by simp)
theorem refRight_ans {l : List RS} : ans (env P) 113 [.im (rsV l) false] = some (.val (.bool (zoneRight (toSI l)))) := by
  refine ans_V rfl rfl ?_
  by_cases h1 : l.length < 1
  · have hl : l = [] := List.length_eq_zero_iff.1 (by omega)
    subst hl
    simp [c113]
    decide
  · have h1' : ¬ (l.length : Int) < 1 := by omega
    by_cases h32 : 32 < l.length
    · have h2 : (32 : Int) < (l.length : Int) := by omega
      have hz : zoneRight (toSI l) = false := by simp [zoneRight, toSI]; intro h; omega
      simp [c113, h1', h2, hz]
    · have h2 : ¬ (32 : Int) < (l.length : Int) := by omega
      simp [c113, h1', h2]
      refine loop27 (by omega) l 0 0 _ rfl (by omega) (by omega) (by simp) (by simp) (by simp) ?_ ?_
      · intro st' hf hs
        simp [hs, zoneRight, hf]
      · intro st' m hf hs
        simp [hs, zoneRight, hf]
        simp [toSI]; omega
end Go.Evl.Zone

namespace Go.Evl.Zone
open Go Go.Evl Go.Evl.Fl
variable {P : Program}
def Tr (H : Heap) (v : PV) (t : List Bool) : Prop := (v = .im [] true ∧ t = []) ∨ ∃ r xs, Rw H 1 v (boolsV t) r xs
theorem Tr.lst {H : Heap} {v : PV} {t : List Bool} (h : Tr H v t) : Lst H 1 v (boolsV t) := by
  rcases h with ⟨rfl, rfl⟩ | ⟨r, xs, h⟩
  · exact Lst.nil
  · exact h.lst
theorem Tr.len {H : Heap} {v : PV} {t : List Bool} (h : Tr H v t) : lenP false v = some t.length := by
  rw [h.lst.len, boolsV_length]
end Go.Evl.Zone

namespace Go.Evl.Zone
open Go Go.Evl Go.Evl.Fl
variable {P : Program}
structure Typed3 (P : Program) : Prop extends Typed2 P where
  t51 : ∃ fs : Array Field, P.underlying 167 = some (.struct fs) ∧ fs.toList.map (fun f => (f.type, f.offset)) = [(3, 0), (91, 1), (165, 2)] ∧ (fs.toList.all fun f => f.name != "_") = true
  h51 : P.stoodInHeld 167 = false
  g51 : P.eqGuardType P.depth 167 = false
def SI.rs (q : SI) : RS := ⟨q.op, q.x, q.y, q.s⟩
end Go.Evl.Zone
