/- The evaluator's texts DTab to ZPrim, joined. -/
import Derived.Test.YtcphhjlnfckoiaaGreatEv2
import Derived.Lib.AtoiAll
import Derived.Lib.Bytealg
set_option linter.all false
set_option linter.deprecated false
set_option linter.unusedVariables false
set_option linter.unusedSimpArgs false
set_option linter.unnecessarySimpa false
set_option maxRecDepth 100000
namespace Go.Evl.Zone
open Go Go.Evl
@[reducible] def qm (d : Nat) (a : Nat) : CI := ⟨some d, .mv (.t a), none⟩
@[reducible] def qmT (d : Nat) (a : Nat) (g : Nat) : CI := ⟨some d, .mv (.t a), some (g, true)⟩
@[reducible] def qmF (d : Nat) (a : Nat) (g : Nat) : CI := ⟨some d, .mv (.t a), some (g, false)⟩
@[reducible] def ql (d : Nat) (a : Nat) : CI := ⟨some d, .ld 1 false (.t a), none⟩
@[reducible] def qlT (d : Nat) (a : Nat) (g : Nat) : CI := ⟨some d, .ld 1 false (.t a), some (g, true)⟩
@[reducible] def qa (d : Nat) (a : Nat) (b : Nat) : CI := ⟨some d, .fad a (.t b), none⟩
@[reducible] def qaT (d : Nat) (a : Nat) (b : Nat) (g : Nat) : CI := ⟨some d, .fad a (.t b), some (g, true)⟩
@[reducible] def qf (d : Nat) : CI := ⟨some d, .mv (.c (.val (.bool false))), none⟩
@[reducible] def qi (d : Nat) (a : Int) : CI := ⟨some d, .mv (.c (.val (.int .i64 a))), none⟩
@[reducible] def qp (d : Nat) (a : Nat) (b : Nat) : CI := ⟨some d, .pick (.t a) (.t b) (.c (.val (.bool false))), none⟩
@[reducible] def qo (d : Nat) (a : Nat) (b : Nat) : CI := ⟨some d, .pick (.t a) (.c (.val (.bool true))) (.t b), none⟩
@[reducible] def qc (d : Nat) (a : Nat) (b : Nat) : CI := ⟨some d, .call (.c (.fn a [])) [.t b], none⟩
@[reducible] def qe (d : Nat) (a : Nat) : CI := ⟨some d, .len false (.t a), none⟩
@[reducible] def qs (d : Nat) (a : Nat) : CI := ⟨some d, .bin .add 3 false true (.t a) (.c (.val (.int .i64 1))), none⟩
@[reducible] def qq (d : Nat) (a : Nat) (b : Int) : CI := ⟨some d, .bin .eql 3 false true (.t a) (.c (.val (.int .i64 b))), none⟩
@[reducible] def qqT (d : Nat) (a : Nat) (b : Int) (g : Nat) : CI := ⟨some d, .bin .eql 3 false true (.t a) (.c (.val (.int .i64 b))), some (g, true)⟩
@[reducible] def qz (d : Nat) (a : Nat) (b : Nat) : CI := ⟨some d, .bin .lss 3 false false (.t a) (.t b), none⟩
@[reducible] def qx (d : Nat) (a : Nat) (b : Nat) : CI := ⟨some d, .ias 1 (.t a) (.t b), none⟩
@[reducible] def qb (d : Nat) (a : Nat) : CI := ⟨some d, .un .not (.t a), none⟩
@[reducible] def qj (d : Nat) : CI := ⟨some d, .mv (.c (.im [] true)), none⟩
@[reducible] def qk (d : Nat) (a : Nat) (b : Nat) (c : Nat) : CI := ⟨some d, .call (.c (.fn a [])) [.t b,.t c], none⟩
@[reducible] def qw (n a b : Nat) : CI := ⟨none, .st n (.t a) (.t b), none⟩
def L3_0 : CC := (.seq (.seq (.reg false [qm 19 7,qm 20 0,qe 21 20,qz 22 19 21,qm 23 22,qmT 24 7 23,⟨some 25,.bin .lss 3 false true (.t 24) (.c (.val (.int .i64 60))),some (23, true)⟩,qp 26 23 25] []) (.cond (.t 26) .skip (.exit 0))) (.seq (.block 1
 (.seq (.reg false [qm 29 0,qm 30 7,⟨some 31,.ias 8 (.t 29) (.t 30),none⟩,qa 32 3 31,ql 33 32,⟨some 34,.cv 3 40 (.t 33),none⟩,⟨some 35,.bin .rem 40 false true (.t 34) (.c (.val (.int .u64 32))),none⟩,⟨some 36,.cv 40 3 (.t 35),none⟩,qm 8 36] [])
 (.seq (.reg false [qm 37 0,qm 38 7,⟨some 39,.ias 8 (.t 37) (.t 38),none⟩,qa 40 0 39,ql 41 40,⟨some 42,.bin .rem 3 false true (.t 41) (.c (.val (.int .i64 3))),none⟩,qq 43 42 0] []) (.cond (.t 43) (.seq (.reg false [⟨some 45,.ld 13 true (.t
 3),none⟩,qm 46 8,qk 47 6 45 46,qm 44 47,⟨some 48,.ext (.t 44) 0,none⟩,⟨some 49,.ext (.t 44) 1,none⟩,⟨some 9,.alloc [.val (.string ⟨#[]⟩),.val (.int .i64 0),.val (.int .i64 0),.val (.int .i64 0),.val (.int .i64 0),.im [] true,.im [] true,.im []
 true,.im [] true,.im [] true,.im [] true,.im [] true,.im [] true],none⟩,qw 13 9 48,qm 10 49] []) (.seq (.seq (.reg false [qm 50 10,⟨some 51,.bin .eql 46 false true (.t 50) (.c (.val (.int .i64 0))),none⟩,qm 52 8,⟨some 53,.iaa 32 1 (.t 5) (.t
 52),none⟩,ql 54 53,⟨some 55,.bin .neq 4 false false (.t 51) (.t 54),none⟩,qm 56 55,qmF 57 10 56,⟨some 58,.bin .neq 46 false true (.t 57) (.c (.val (.int .i64 0))),some (56, false)⟩,qmF 59 58 56,qmT 60 10 59,⟨some 61,.bin .neq 46 false true (.t 60)
 (.c (.val (.int .i64 11))),some (59, true)⟩,⟨some 62,.pick (.t 59) (.t 61) (.c (.val (.bool false))),some (56, false)⟩,qo 63 56 62] []) (.cond (.t 63) (.seq (.reg false [qf 2] []) .ret) .skip)) (.seq (.seq (.reg false [qm 64 10,⟨some 65,.bin .eql
 46 false true (.t 64) (.c (.val (.int .i64 0))),none⟩] []) (.cond (.t 65) (.reg false [qm 66 6,qs 67 66,qm 6 67] []) .skip)) (.seq (.reg false [⟨some 68,.ld 13 true (.t 9),none⟩,qw 13 3 68] []) (.reg false [qm 69 8,qm 70 8,⟨some 71,.iaa 32 1 (.t 5)
 (.t 69),none⟩,⟨none,.st 1 (.t 71) (.c (.val (.bool false))),none⟩,⟨some 72,.iaa 32 1 (.t 4) (.t 70),none⟩,⟨none,.st 1 (.t 72) (.c (.val (.string ⟨#[]⟩))),none⟩] []))))) (.seq (.reg true [qm 73 0,qm 74 7,⟨some 75,.ias 8 (.t 73) (.t 74),none⟩,qa 76 6
 75,ql 77 76,qm 78 0,qm 79 7,⟨some 80,.ias 8 (.t 78) (.t 79),none⟩,qa 81 6 80,ql 82 81,⟨some 83,.len true (.t 82),none⟩,⟨some 84,.fun_ .min #[3,3] 3 [.t 83,.c (.val (.int .i64 16))],none⟩,⟨some 85,.slc 0 (.t 77) none (some (.t 84)) none,none⟩,qm 11
 85] []) (.seq (.reg true [⟨some 87,.ld 13 true (.t 3),none⟩,qm 88 8,qm 89 0,qm 90 7,⟨some 91,.ias 8 (.t 89) (.t 90),none⟩,qa 92 4 91,⟨some 93,.ld 2 true (.t 92),none⟩,qc 94 9 93,qc 95 8 94,qm 96 11,⟨some 97,.call (.c (.fn 7 [])) [.t 87,.t 88,.t
 95,.t 96],none⟩,qm 86 97,⟨some 98,.ext (.t 86) 0,none⟩,⟨some 99,.ext (.t 86) 1,none⟩,⟨some 12,.alloc [.val (.string ⟨#[]⟩),.val (.int .i64 0),.val (.int .i64 0),.val (.int .i64 0),.val (.int .i64 0),.im [] true,.im [] true,.im [] true,.im []
 true,.im [] true,.im [] true,.im [] true,.im [] true],none⟩,qw 13 12 98,qm 13 99] [(0, 7),(0, 8),(0, 14),(6, 14),(7, 14),(8, 14),(10, 14)]) (.seq (.seq (.reg false [qm 100 13,⟨some 101,.bin .neq 46 false true (.t 100) (.c (.val (.int .i64
 0))),none⟩] []) (.cond (.t 101) (.seq (.reg false [qf 2] []) .ret) .skip)) (.seq (.reg false [⟨some 102,.ld 13 true (.t 12),none⟩,qw 13 3 102] []) (.seq (.reg false [qm 103 6,qs 104 103,qm 6 104] []) (.reg false [qm 105 8,qm 106 8,qm 107 11,⟨some
 108,.iaa 32 1 (.t 5) (.t 105),none⟩,⟨none,.st 1 (.t 108) (.c (.val (.bool true))),none⟩,⟨some 109,.iaa 32 1 (.t 4) (.t 106),none⟩,qw 1 109 107] [])))))))))) (.reg false [qm 27 7,qs 28 27,qm 7 28] [])))
def L3_1 : CC := (.seq (.seq (.reg false [qm 110 14,⟨some 111,.bin .lss 3 false true (.t 110) (.c (.val (.int .i64 32))),none⟩] []) (.cond (.t 111) .skip (.exit 2))) (.seq (.block 3 (.seq (.reg false [⟨some 115,.ld 13 true (.t 3),none⟩,qm 116 14,qk
 117 10 115 116,qm 114 117,⟨some 118,.ext (.t 114) 0,none⟩,⟨some 119,.ext (.t 114) 1,none⟩,qm 15 118,qm 16 119] []) (.seq (.reg false [qm 120 15,qm 121 14,⟨some 122,.iaa 32 1 (.t 4) (.t 121),none⟩,ql 123 122,⟨some 124,.bin .neq 9 false false (.t
 120) (.t 123),none⟩,qm 125 124,qmF 126 16 125,⟨some 127,.bin .eql 46 false true (.t 126) (.c (.val (.int .i64 0))),some (125, false)⟩,qmF 128 14 125,⟨some 129,.iaa 32 1 (.t 5) (.t 128),some (125, false)⟩,⟨some 130,.ld 1 false (.t 129),some (125,
 false)⟩,⟨some 131,.bin .neq 4 false false (.t 127) (.t 130),some (125, false)⟩,qo 132 125 131] []) (.cond (.t 132) (.seq (.reg false [qf 2] []) .ret) .skip)))) (.reg false [qm 112 14,qs 113 112,qm 14 113] [])))
def c3 : CF := ⟨.seq (.reg false [qf 2] []) (.seq (.reg false [⟨some 18,.call (.c (.fn 5 [])) [],none⟩,⟨some 3,.alloc [.val (.string ⟨#[]⟩),.val (.int .i64 0),.val (.int .i64 0),.val (.int .i64 0),.val (.int .i64 0),.im [] true,.im [] true,.im []
 true,.im [] true,.im [] true,.im [] true,.im [] true,.im [] true],none⟩,qw 13 3 18] []) (.seq (.reg false [⟨some 4,.alloc [.val (.string ⟨#[]⟩),.val (.string ⟨#[]⟩),.val (.string ⟨#[]⟩),.val (.string ⟨#[]⟩),.val (.string ⟨#[]⟩),.val (.string
 ⟨#[]⟩),.val (.string ⟨#[]⟩),.val (.string ⟨#[]⟩),.val (.string ⟨#[]⟩),.val (.string ⟨#[]⟩),.val (.string ⟨#[]⟩),.val (.string ⟨#[]⟩),.val (.string ⟨#[]⟩),.val (.string ⟨#[]⟩),.val (.string ⟨#[]⟩),.val (.string ⟨#[]⟩),.val (.string ⟨#[]⟩),.val
 (.string ⟨#[]⟩),.val (.string ⟨#[]⟩),.val (.string ⟨#[]⟩),.val (.string ⟨#[]⟩),.val (.string ⟨#[]⟩),.val (.string ⟨#[]⟩),.val (.string ⟨#[]⟩),.val (.string ⟨#[]⟩),.val (.string ⟨#[]⟩),.val (.string ⟨#[]⟩),.val (.string ⟨#[]⟩),.val (.string
 ⟨#[]⟩),.val (.string ⟨#[]⟩),.val (.string ⟨#[]⟩),.val (.string ⟨#[]⟩)],none⟩] []) (.seq (.reg false [⟨some 5,.alloc [.val (.bool false),.val (.bool false),.val (.bool false),.val (.bool false),.val (.bool false),.val (.bool false),.val (.bool
 false),.val (.bool false),.val (.bool false),.val (.bool false),.val (.bool false),.val (.bool false),.val (.bool false),.val (.bool false),.val (.bool false),.val (.bool false),.val (.bool false),.val (.bool false),.val (.bool false),.val (.bool
 false),.val (.bool false),.val (.bool false),.val (.bool false),.val (.bool false),.val (.bool false),.val (.bool false),.val (.bool false),.val (.bool false),.val (.bool false),.val (.bool false),.val (.bool false),.val (.bool false)],none⟩] [])
 (.seq (.reg false [qi 6 0] []) (.seq (.seq (.reg false [qi 7 0] []) (.block 0 (.loop L3_0))) (.seq (.seq (.reg false [qi 14 0] []) (.block 2 (.loop L3_1))) (.seq (.reg false [⟨some 133,.ld 13 true (.t 3),none⟩,qc 134 12 133,qc 135 11 134,qm 17 135]
 []) (.seq (.reg false [⟨some 136,.call (.c (.fn 13 [])) [],none⟩,qm 137 136,qaT 138 3 3 137,qlT 139 138 137,qmT 140 6 137,⟨some 141,.bin .eql 3 false false (.t 139) (.t 140),some (137, true)⟩,qp 142 137 141,qm 143 142,qaT 144 4 3 143,qlT 145 144
 143,qmT 146 6 143,⟨some 147,.bin .eql 3 false false (.t 145) (.t 146),some (143, true)⟩,qp 148 143 147,qm 149 148,qmT 150 6 149,qqT 151 150 0 149,qmT 152 151 149,qmT 153 17 152,⟨some 154,.len false (.t 153),some (152, true)⟩,qqT 155 154 0 152,⟨some
 156,.pick (.t 152) (.t 155) (.c (.val (.bool false))),some (149, true)⟩,qmT 157 156 149,qmF 158 6 157,⟨some 159,.bin .gtr 3 false true (.t 158) (.c (.val (.int .i64 0))),some (157, false)⟩,qmF 160 159 157,qmT 161 17 160,⟨some 162,.len false (.t
 161),some (160, true)⟩,qqT 163 162 1 160,⟨some 164,.pick (.t 160) (.t 163) (.c (.val (.bool false))),some (157, false)⟩,qmF 165 164 157,qmT 166 17 165,⟨some 167,.ias 3 (.t 166) (.c (.val (.int .i64 0))),some (165, true)⟩,qaT 168 0 167 165,qlT 169
 168 165,⟨some 170,.bin .eql 9 false true (.t 169) (.c (.val (.string ⟨#[48]⟩))),some (165, true)⟩,⟨some 171,.pick (.t 165) (.t 170) (.c (.val (.bool false))),some (157, false)⟩,qmF 172 171 157,qmT 173 17 172,⟨some 174,.ias 3 (.t 173) (.c (.val
 (.int .i64 0))),some (172, true)⟩,qaT 175 1 174 172,qaT 176 0 175 172,qlT 177 176 172,qmT 178 6 172,⟨some 179,.bin .eql 3 false false (.t 177) (.t 178),some (172, true)⟩,⟨some 180,.pick (.t 172) (.t 179) (.c (.val (.bool false))),some (157,
 false)⟩,qmF 181 180 157,qmT 182 17 181,⟨some 183,.ias 3 (.t 182) (.c (.val (.int .i64 0))),some (181, true)⟩,qaT 184 1 183 181,qaT 185 1 184 181,qlT 186 185 181,⟨some 187,.len false (.t 186),some (181, true)⟩,qqT 188 187 0 181,⟨some 189,.pick (.t
 181) (.t 188) (.c (.val (.bool false))),some (157, false)⟩,⟨some 190,.pick (.t 157) (.c (.val (.bool true))) (.t 189),some (149, true)⟩,qp 191 149 190,qm 2 191] []) .ret)))))))),[.tmp 2]⟩
def c5 : CF := ⟨.seq (.reg false [⟨some 0,.alloc [.val (.string ⟨#[]⟩),.val (.int .i64 0),.val (.int .i64 0),.val (.int .i64 0),.val (.int .i64 0),.im [] true,.im [] true,.im [] true,.im [] true,.im [] true,.im [] true,.im [] true,.im []
 true],none⟩] []) (.seq (.reg false [⟨some 1,.call (.c (.fn 26 [])) [],none⟩,⟨some 2,.bsl 1 1 [.val (.string ⟨#[]⟩)] [(0, 1, (.c (.val (.string ⟨#[48]⟩))))],none⟩,⟨some 3,.build [.val (.string ⟨#[]⟩),.val (.int .i64 0),.val (.int .i64 0),.val (.int
 .i64 0),.val (.int .i64 0),.im [] true,.im [] true,.im [] true,.im [] true,.im [] true,.im [] true,.im [] true,.im [] true] [(0, 1, (.c (.val (.string ⟨#[48]⟩)))),(9, 1, (.t 1)),(10, 1, (.t 2))],none⟩,qw 13 0 3] []) .ret),[.cell 0 13 true]⟩
def c6 : CF := ⟨.seq (.reg false [⟨some 2,.box (.t 0),none⟩,⟨some 4,.alloc [.val (.string ⟨#[]⟩),.val (.int .i64 0),.val (.int .i64 0),.val (.int .i64 0),.val (.int .i64 0),.im [] true,.im [] true,.im [] true,.im [] true,.im [] true,.im [] true,.im
 [] true,.im [] true],none⟩,qi 5 0] []) (.seq (.seq (.reg false [⟨some 9,.ld 13 true (.t 2),none⟩,qm 10 1,qk 11 27 9 10,qm 8 11,⟨some 12,.ext (.t 8) 0,none⟩,⟨some 13,.ext (.t 8) 1,none⟩,⟨some 6,.alloc [.val (.int .i64 0),.val (.string ⟨#[]⟩),.val
 (.int .i64 0),.val (.int .i64 0),.val (.bool false),.val (.complex .f64 0 0),.val (.string ⟨#[]⟩),.val (.bool false)],none⟩,qw 8 6 12,qm 7 13] []) (.seq (.reg false [qm 14 7,⟨some 15,.bin .neq 46 false true (.t 14) (.c (.val (.int .i64 0))),none⟩]
 []) (.cond (.t 15) (.seq (.reg false [⟨some 16,.ld 13 true (.t 2),none⟩,qm 17 7,qw 13 4 16,qm 5 17] []) .ret) .skip))) (.seq (.reg false [⟨some 18,.ld 13 true (.t 2),none⟩,qm 19 1,⟨some 20,.build [.val (.int .i64 0),.val (.string ⟨#[]⟩),.val (.int
 .i64 0),.val (.int .i64 0),.val (.bool false),.val (.complex .f64 0 0),.val (.string ⟨#[]⟩),.val (.bool false)] [(0, 1, (.t 19)),(4, 1, (.c (.val (.bool true))))],none⟩,qk 21 28 18 20,⟨some 22,.ext (.t 21) 0,none⟩,⟨some 23,.ext (.t 21) 1,none⟩,qw
 13 4 22,qm 5 23] []) .ret)),[.cell 4 13 true,.tmp 5]⟩
def c7 : CF := ⟨.seq (.reg false [⟨some 4,.box (.t 0),none⟩,⟨some 8,.alloc [.val (.string ⟨#[]⟩),.val (.int .i64 0),.val (.int .i64 0),.val (.int .i64 0),.val (.int .i64 0),.im [] true,.im [] true,.im [] true,.im [] true,.im [] true,.im [] true,.im
 [] true,.im [] true],none⟩,qi 9 0] []) (.seq (.block 0 (.seq (.reg false [qa 11 1 4,ql 12 11,⟨some 13,.bin .neq 3 false true (.t 12) (.c (.val (.int .i64 0))),none⟩,qm 10 13] []) (.cond (.t 10) (.seq (.reg false [⟨some 14,.ld 13 true (.t
 4),none⟩,qw 13 8 14,qi 9 5] []) .ret) (.seq (.reg false [qm 16 1,⟨some 17,.bin .lss 3 false true (.t 16) (.c (.val (.int .i64 0))),none⟩,qm 18 17,qmF 19 1 18,⟨some 20,.bin .geq 3 false true (.t 19) (.c (.val (.int .i64 32))),some (18, false)⟩,qo 21
 18 20,qm 15 21] []) (.cond (.t 15) (.seq (.reg false [⟨some 22,.ld 13 true (.t 4),none⟩,qw 13 8 22,qi 9 6] []) .ret) (.seq (.reg false [qm 24 2,qc 25 29 24,qb 26 25,qm 23 26] []) (.cond (.t 23) (.seq (.reg false [⟨some 27,.ld 13 true (.t
 4),none⟩,qw 13 8 27,qi 9 8] []) .ret) (.seq (.reg false [qa 29 9 4,ql 30 29,qm 31 2,qk 32 30 30 31,qb 33 32,qm 28 33] []) (.cond (.t 28) (.seq (.reg false [⟨some 34,.ld 13 true (.t 4),none⟩,qw 13 8 34,qi 9 9] []) .ret) (.seq (.reg false [qm 36
 3,⟨some 37,.len true (.t 36),none⟩,⟨some 38,.bin .gtr 3 false true (.t 37) (.c (.val (.int .i64 16))),none⟩,qm 35 38] []) (.cond (.t 35) (.seq (.reg false [⟨some 39,.ld 13 true (.t 4),none⟩,qw 13 8 39,qi 9 7] []) .ret) .skip))))))))))) (.seq (.reg
 false [⟨some 40,.ld 13 true (.t 4),none⟩,qm 41 1,qm 42 2,qm 43 3,⟨some 44,.build [.val (.int .i64 0),.val (.string ⟨#[]⟩),.val (.int .i64 0),.val (.int .i64 0),.val (.bool false),.val (.complex .f64 0 0),.val (.string ⟨#[]⟩),.val (.bool false)]
 [(0, 1, (.t 41)),(5, 1, (.t 42)),(6, 1, (.t 43)),(7, 1, (.c (.val (.bool true))))],none⟩,qk 45 28 40 44,⟨some 46,.ext (.t 45) 0,none⟩,⟨some 47,.ext (.t 45) 1,none⟩,qw 13 8 46,qm 9 47] []) .ret)),[.cell 8 13 true,.tmp 9]⟩
def c8 : CF := ⟨.seq (.reg false [⟨some 1,.box (.t 0),none⟩,⟨some 2,.mv (.c (.val (.complex .f64 0 0))),none⟩] []) (.seq (.reg false [qa 3 0 1,ql 4 3,⟨some 5,.cv 3 97 (.t 4),none⟩,qa 6 1 1,ql 7 6,⟨some 8,.cv 3 97 (.t 7),none⟩,⟨some 9,.fun_ .complex
 #[97,97] 50 [.t 5,.t 8],none⟩,qm 2 9] []) .ret),[.tmp 2]⟩
def c9 : CF := ⟨.seq (.reg false [⟨some 1,.box (.t 0),none⟩,⟨some 2,.alloc [.val (.int .i64 0),.val (.int .i64 0)],none⟩] []) (.seq (.reg false [qa 3 0 1,ql 4 3,⟨some 5,.cv 3 40 (.t 4),none⟩,⟨some 6,.bin .rem 40 false true (.t 5) (.c (.val (.int
 .u64 2001))),none⟩,⟨some 7,.cv 40 3 (.t 6),none⟩,⟨some 8,.bin .sub 3 false true (.t 7) (.c (.val (.int .i64 1000))),none⟩,qa 9 1 1,ql 10 9,⟨some 11,.cv 3 40 (.t 10),none⟩,⟨some 12,.bin .rem 40 false true (.t 11) (.c (.val (.int .u64
 2001))),none⟩,⟨some 13,.cv 40 3 (.t 12),none⟩,⟨some 14,.bin .sub 3 false true (.t 13) (.c (.val (.int .i64 1000))),none⟩,⟨some 15,.build [.val (.int .i64 0),.val (.int .i64 0)] [(0, 1, (.t 8)),(1, 1, (.t 14))],none⟩,qw 2 2 15] []) .ret),[.cell 2 2 true]⟩
def c10 : CF := ⟨.seq (.reg false [⟨some 2,.box (.t 0),none⟩,⟨some 4,.mv (.c (.val (.string ⟨#[]⟩))),none⟩,qi 5 0] []) (.seq (.reg false [⟨some 9,.ld 13 true (.t 2),none⟩,qm 10 1,qk 11 27 9 10,qm 8 11,⟨some 12,.ext (.t 8) 0,none⟩,⟨some 13,.ext (.t
 8) 1,none⟩,⟨some 6,.alloc [.val (.int .i64 0),.val (.string ⟨#[]⟩),.val (.int .i64 0),.val (.int .i64 0),.val (.bool false),.val (.complex .f64 0 0),.val (.string ⟨#[]⟩),.val (.bool false)],none⟩,qw 8 6 12,qm 7 13] []) (.seq (.block 0 (.seq (.reg
 false [qm 15 7,⟨some 16,.bin .neq 46 false true (.t 15) (.c (.val (.int .i64 0))),none⟩,qm 14 16] []) (.cond (.t 14) (.seq (.reg false [qm 17 7,⟨some 4,.mv (.c (.val (.string ⟨#[]⟩))),none⟩,qm 5 17] []) .ret) (.seq (.reg false [qa 19 9 2,ql 20
 19,qa 21 5 6,ql 22 21,qk 23 30 20 22,qb 24 23,qm 18 24] []) (.cond (.t 18) (.seq (.reg false [⟨some 4,.mv (.c (.val (.string ⟨#[]⟩))),none⟩,qi 5 12] []) .ret) (.seq (.reg false [qa 26 7 6,ql 27 26,qb 28 27,qm 25 28] []) (.cond (.t 25) (.seq (.reg
 false [⟨some 4,.mv (.c (.val (.string ⟨#[]⟩))),none⟩,qi 5 13] []) .ret) .skip))))))) (.seq (.reg false [qa 29 6 6,ql 30 29,qm 4 30,qi 5 0] []) .ret))),[.tmp 4,.tmp 5]⟩
def L11_0 : CC := (.seq (.seq (.reg false [qm 5 4,qm 6 0,qe 7 6,qz 8 5 7] []) (.cond (.t 8) .skip (.exit 0))) (.seq (.block 1 (.reg true [qm 11 3,qm 12 0,qm 13 4,⟨some 14,.ias 3 (.t 12) (.t 13),none⟩,qa 15 0 14,ql 16 15,qm 17 0,qm 18 4,⟨some 19,.ias
 3 (.t 17) (.t 18),none⟩,qa 20 1 19,⟨some 21,.ld 2 true (.t 20),none⟩,qc 22 31 21,⟨some 23,.build [.val (.string ⟨#[]⟩),.val (.int .i64 0),.im [] true] [(0, 1, (.t 16)),(1, 2, (.t 22))],none⟩,⟨some 24,.bsl 3 1 [.val (.string ⟨#[]⟩),.val (.int .i64
 0),.im [] true] [(0, 3, (.t 23))],none⟩,⟨some 25,.app 3 (.t 11) (.t 24),none⟩,qm 3 25] [(5, 11)])) (.reg false [qm 9 4,qs 10 9,qm 4 10] [])))
def c11 : CF := ⟨.seq (.reg false [qj 2] []) (.seq (.reg false [qj 3] []) (.seq (.seq (.reg false [qi 4 0] []) (.block 0 (.loop L11_0))) (.seq (.reg false [qm 26 3,qm 2 26] []) .ret))),[.tmp 2]⟩
def c12 : CF := ⟨.seq (.reg false [⟨some 1,.box (.t 0),none⟩,qj 2] []) (.seq (.reg true [qa 3 5 1,ql 4 3,qa 5 6 1,ql 6 5,qc 7 33 6,qk 8 32 4 7,qm 2 8] [(1, 4)]) .ret),[.tmp 2]⟩
def c13 : CF := ⟨.seq (.reg false [qf 0] []) (.seq (.reg false [⟨some 13,.call (.c (.fn 5 [])) [],none⟩,⟨some 14,.call (.c (.fn 7 [])) [.t 13,.c (.val (.int .i64 3)),.c (.val (.complex .f64 4607182418800017408 4611686018427387904)),.c (.val (.string
 ⟨#[120]⟩))],none⟩,qm 12 14,⟨some 15,.ext (.t 12) 0,none⟩,⟨some 16,.ext (.t 12) 1,none⟩,⟨some 1,.alloc [.val (.string ⟨#[]⟩),.val (.int .i64 0),.val (.int .i64 0),.val (.int .i64 0),.val (.int .i64 0),.im [] true,.im [] true,.im [] true,.im []
 true,.im [] true,.im [] true,.im [] true,.im [] true],none⟩,qw 13 1 15,qm 2 16] []) (.seq (.reg false [⟨some 18,.ld 13 true (.t 1),none⟩,qc 19 15 18,qm 17 19,⟨some 20,.ext (.t 17) 0,none⟩,⟨some 21,.ext (.t 17) 1,none⟩,⟨some 22,.ext (.t 17)
 2,none⟩,⟨some 3,.alloc [.val (.string ⟨#[]⟩),.val (.int .i64 0),.val (.int .i64 0),.val (.int .i64 0),.val (.int .i64 0),.im [] true,.im [] true,.im [] true,.im [] true,.im [] true,.im [] true,.im [] true,.im [] true],none⟩,qw 13 1 20,qw 13 3 21,qm
 4 22] []) (.seq (.reg false [⟨some 24,.ld 13 true (.t 3),none⟩,⟨some 25,.call (.c (.fn 10 [])) [.t 24,.c (.val (.int .i64 3))],none⟩,qm 23 25,⟨some 26,.ext (.t 23) 0,none⟩,⟨some 27,.ext (.t 23) 1,none⟩,qm 5 26,qm 6 27] []) (.seq (.reg false [⟨some
 29,.ld 13 true (.t 3),none⟩,⟨some 30,.call (.c (.fn 6 [])) [.t 29,.c (.val (.int .i64 3))],none⟩,qm 28 30,⟨some 31,.ext (.t 28) 0,none⟩,⟨some 32,.ext (.t 28) 1,none⟩,qw 13 3 31,qm 7 32] []) (.seq (.reg false [⟨some 34,.ld 13 true (.t 3),none⟩,⟨some
 35,.call (.c (.fn 10 [])) [.t 34,.c (.val (.int .i64 3))],none⟩,qm 33 35,⟨some 36,.ext (.t 33) 0,none⟩,⟨some 37,.ext (.t 33) 1,none⟩,qm 8 36,qm 9 37] []) (.seq (.reg false [⟨some 39,.ld 13 true (.t 1),none⟩,⟨some 40,.call (.c (.fn 10 [])) [.t 39,.c
 (.val (.int .i64 3))],none⟩,qm 38 40,⟨some 41,.ext (.t 38) 0,none⟩,⟨some 42,.ext (.t 38) 1,none⟩,qm 10 41,qm 11 42] []) (.seq (.reg false [qm 43 2,⟨some 44,.bin .eql 46 false true (.t 43) (.c (.val (.int .i64 0))),none⟩,qm 45 44,qmT 46 4 45,⟨some
 47,.bin .eql 46 false true (.t 46) (.c (.val (.int .i64 0))),some (45, true)⟩,qp 48 45 47,qm 49 48,qmT 50 5 49,⟨some 51,.bin .eql 9 false true (.t 50) (.c (.val (.string ⟨#[120]⟩))),some (49, true)⟩,qp 52 49 51,qm 53 52,qmT 54 6 53,⟨some 55,.bin
 .eql 46 false true (.t 54) (.c (.val (.int .i64 0))),some (53, true)⟩,qp 56 53 55,qm 57 56,qmT 58 7 57,⟨some 59,.bin .eql 46 false true (.t 58) (.c (.val (.int .i64 0))),some (57, true)⟩,qp 60 57 59,qm 61 60,qmT 62 9 61,⟨some 63,.bin .eql 46 false
 true (.t 62) (.c (.val (.int .i64 11))),some (61, true)⟩,qp 64 61 63,qm 65 64,qmT 66 10 65,⟨some 67,.bin .eql 9 false true (.t 66) (.c (.val (.string ⟨#[120]⟩))),some (65, true)⟩,qp 68 65 67,qm 69 68,qmT 70 11 69,⟨some 71,.bin .eql 46 false true
 (.t 70) (.c (.val (.int .i64 0))),some (69, true)⟩,qp 72 69 71,qm 73 72,qaT 74 0 3 73,qlT 75 74 73,⟨some 76,.bin .eql 23 false true (.t 75) (.c (.val (.string ⟨#[48,49]⟩))),some (73, true)⟩,qp 77 73 76,qm 78 77,qaT 79 0 1 78,qlT 80 79 78,⟨some
 81,.bin .eql 23 false true (.t 80) (.c (.val (.string ⟨#[48]⟩))),some (78, true)⟩,qp 82 78 81,qm 83 82,qaT 84 10 1 83,qlT 85 84 83,⟨some 86,.len false (.t 85),some (83, true)⟩,qqT 87 86 2 83,qp 88 83 87,qm 0 88] []) .ret))))))),[.tmp 0]⟩
def c15 : CF := ⟨.seq (.reg false [⟨some 1,.box (.t 0),none⟩,⟨some 2,.alloc [.val (.string ⟨#[]⟩),.val (.int .i64 0),.val (.int .i64 0),.val (.int .i64 0),.val (.int .i64 0),.im [] true,.im [] true,.im [] true,.im [] true,.im [] true,.im [] true,.im
 [] true,.im [] true],none⟩,⟨some 3,.alloc [.val (.string ⟨#[]⟩),.val (.int .i64 0),.val (.int .i64 0),.val (.int .i64 0),.val (.int .i64 0),.im [] true,.im [] true,.im [] true,.im [] true,.im [] true,.im [] true,.im [] true,.im [] true],none⟩,qi 4
 0] []) (.seq (.seq (.reg false [qa 8 1 1,ql 9 8,⟨some 10,.bin .neq 3 false true (.t 9) (.c (.val (.int .i64 0))),none⟩] []) (.cond (.t 10) (.seq (.reg false [⟨some 11,.ld 13 true (.t 1),none⟩,⟨some 12,.build [.val (.string ⟨#[]⟩),.val (.int .i64
 0),.val (.int .i64 0),.val (.int .i64 0),.val (.int .i64 0),.im [] true,.im [] true,.im [] true,.im [] true,.im [] true,.im [] true,.im [] true,.im [] true] [],none⟩,qw 13 2 11,qw 13 3 12,qi 4 5] []) .ret) .skip)) (.seq (.reg false [qa 14 0 1,ql 15
 14,qa 16 2 1,ql 17 16,qs 18 17,qk 19 34 15 18,qm 13 19,⟨some 20,.ext (.t 13) 0,none⟩,⟨some 21,.ext (.t 13) 1,none⟩,qm 5 20,qm 6 21] []) (.seq (.seq (.reg false [qm 22 6,⟨some 23,.bin .neq 46 false true (.t 22) (.c (.val (.int .i64 0))),none⟩] [])
 (.cond (.t 23) (.seq (.reg false [⟨some 24,.ld 13 true (.t 1),none⟩,⟨some 25,.build [.val (.string ⟨#[]⟩),.val (.int .i64 0),.val (.int .i64 0),.val (.int .i64 0),.val (.int .i64 0),.im [] true,.im [] true,.im [] true,.im [] true,.im [] true,.im []
 true,.im [] true,.im [] true] [],none⟩,qw 13 2 24,qw 13 3 25,qi 4 18] []) .ret) .skip)) (.seq (.reg false [⟨some 26,.ld 13 true (.t 1),none⟩,qc 27 35 26,qw 13 1 27] []) (.seq (.reg false [qa 28 2 1,ql 29 28,qs 30 29,qa 31 2 1,qw 1 31 30] []) (.seq
 (.reg false [qa 32 10 1,ql 33 32,qm 34 5,qk 35 36 33 34,qa 36 10 1,qw 1 36 35] []) (.seq (.reg true [qa 37 12 1,ql 38 37,qm 39 5,⟨some 40,.ld 13 true (.t 1),none⟩,qc 41 12 40,qc 42 38 41,⟨some 43,.call (.c (.fn 37 [])) [.t 38,.t 39,.t 42],none⟩,qa
 44 12 1,qw 1 44 43] [(1, 4),(1, 5)]) (.seq (.reg false [⟨some 45,.ld 13 true (.t 1),none⟩,qc 46 39 45,qw 13 1 46] []) (.seq (.reg false [⟨some 47,.ld 13 true (.t 1),none⟩,⟨some 7,.alloc [.val (.string ⟨#[]⟩),.val (.int .i64 0),.val (.int .i64
 0),.val (.int .i64 0),.val (.int .i64 0),.im [] true,.im [] true,.im [] true,.im [] true,.im [] true,.im [] true,.im [] true,.im [] true],none⟩,qw 13 7 47] []) (.seq (.reg false [qm 48 5,qa 49 0 7,qw 1 49 48,qa 50 2 7,⟨none,.st 1 (.t 50) (.c (.val
 (.int .i64 0))),none⟩,qa 51 3 7,⟨none,.st 1 (.t 51) (.c (.val (.int .i64 0))),none⟩] []) (.seq (.reg true [⟨some 52,.ld 13 true (.t 1),none⟩,⟨some 53,.ld 13 true (.t 7),none⟩,qc 54 39 53,qw 13 2 52,qw 13 3 54,qi 4 0] [(0, 2)])
 .ret))))))))))),[.cell 2 13 true,.cell 3 13 true,.tmp 4]⟩
def c26 : CF := ⟨.seq (.reg false [qj 0] []) (.seq (.reg false [⟨some 1,.build [.val (.int .i64 0),.val (.complex .f64 0 0),.val (.float .f64 0)] [(0, 1, (.c (.val (.int .i64 1))))],none⟩,⟨some 2,.bsl 3 1 [.val (.int .i64 0),.val (.complex .f64 0
 0),.val (.float .f64 0)] [(0, 3, (.t 1))],none⟩,qm 0 2] []) .ret),[.tmp 0]⟩
def c27 : CF :=  ⟨.seq (.reg false [⟨some 2,.box (.t 0),none⟩,⟨some 4,.alloc [.val (.int .i64 0),.val (.string ⟨#[]⟩),.val (.int .i64 0),.val (.int .i64 0),.val (.bool false),.val (.complex .f64 0 0),.val (.string ⟨#[]⟩),.val (.bool false)],none⟩,qi
 5 0] []) (.seq (.block 0 (.seq (.reg false [qa 9 1 2,ql 10 9,⟨some 11,.bin .neq 3 false true (.t 10) (.c (.val (.int .i64 0))),none⟩,qm 8 11] []) (.cond (.t 8) (.seq (.reg false [⟨some 12,.build [.val (.int .i64 0),.val (.string ⟨#[]⟩),.val (.int
 .i64 0),.val (.int .i64 0),.val (.bool false),.val (.complex .f64 0 0),.val (.string ⟨#[]⟩),.val (.bool false)] [],none⟩,qw 8 4 12,qi 5 5] []) .ret) (.seq (.reg false [qm 14 1,⟨some 15,.bin .lss 3 false true (.t 14) (.c (.val (.int .i64
 0))),none⟩,qm 16 15,qmF 17 1 16,⟨some 18,.bin .geq 3 false true (.t 17) (.c (.val (.int .i64 32))),some (16, false)⟩,qo 19 16 18,qm 13 19] []) (.cond (.t 13) (.seq (.reg false [⟨some 20,.build [.val (.int .i64 0),.val (.string ⟨#[]⟩),.val (.int
 .i64 0),.val (.int .i64 0),.val (.bool false),.val (.complex .f64 0 0),.val (.string ⟨#[]⟩),.val (.bool false)] [],none⟩,qw 8 4 20,qi 5 6] []) .ret) .skip))))) (.seq (.reg false [qa 22 8 2,ql 23 22,qm 24 1,qk 25 64 23 24,qm 21 25,⟨some 26,.ext (.t
 21) 0,none⟩,⟨some 27,.ext (.t 21) 1,none⟩,⟨some 6,.alloc [.val (.int .i64 0),.val (.string ⟨#[]⟩),.val (.int .i64 0),.val (.int .i64 0),.val (.bool false),.val (.complex .f64 0 0),.val (.string ⟨#[]⟩),.val (.bool false)],none⟩,qw 8 6 26,qm 7 27]
 []) (.seq (.seq (.reg false [qm 28 7,qb 29 28,qm 30 29,⟨some 31,.fad 4 (.t 6),some (30, false)⟩,⟨some 32,.ld 1 false (.t 31),some (30, false)⟩,qo 33 30 32] []) (.cond (.t 33) (.seq (.reg false [⟨some 34,.build [.val (.int .i64 0),.val (.string
 ⟨#[]⟩),.val (.int .i64 0),.val (.int .i64 0),.val (.bool false),.val (.complex .f64 0 0),.val (.string ⟨#[]⟩),.val (.bool false)] [],none⟩,qw 8 4 34,qi 5 11] []) .ret) .skip)) (.seq (.reg false [⟨some 35,.ld 8 true (.t 6),none⟩,qw 8 4 35,qi 5 0]
 []) .ret)))),[.cell 4 8 true,.tmp 5]⟩
def c28 : CF := ⟨.seq (.reg false [⟨some 2,.box (.t 0),none⟩,⟨some 3,.box (.t 1),none⟩,⟨some 4,.alloc [.val (.string ⟨#[]⟩),.val (.int .i64 0),.val (.int .i64 0),.val (.int .i64 0),.val (.int .i64 0),.im [] true,.im [] true,.im [] true,.im []
 true,.im [] true,.im [] true,.im [] true,.im [] true],none⟩,qi 5 0] []) (.seq (.seq (.reg false [qa 6 3 2,ql 7 6,⟨some 8,.bin .geq 3 false true (.t 7) (.c (.val (.int .i64 1048575))),none⟩,qm 9 8,⟨some 10,.fad 4 (.t 2),some (9, false)⟩,⟨some 11,.ld
 1 false (.t 10),some (9, false)⟩,⟨some 12,.bin .geq 3 false true (.t 11) (.c (.val (.int .i64 1048575))),some (9, false)⟩,qo 13 9 12] []) (.cond (.t 13) (.seq (.reg false [⟨some 14,.ld 13 true (.t 2),none⟩,qw 13 4 14,qi 5 10] []) .ret) .skip))
 (.seq (.reg false [⟨some 15,.ld 13 true (.t 2),none⟩,qc 16 35 15,qw 13 2 16] []) (.seq (.reg false [qa 17 3 2,ql 18 17,qs 19 18,qa 20 3 2,qw 1 20 19] []) (.seq (.reg false [qa 21 4 2,ql 22 21,qs 23 22,qa 24 4 2,qw 1 24 23] []) (.seq (.reg false [qa
 25 0 2,ql 26 25,qa 27 3 2,ql 28 27,qa 29 4 2,ql 30 29,⟨some 31,.build [.val (.string ⟨#[]⟩),.val (.int .i64 0),.val (.int .i64 0)] [(0, 1, (.t 26)),(1, 1, (.t 28)),(2, 1, (.t 30))],none⟩,qa 32 1 3,qw 3 32 31] []) (.seq (.reg false [qa 33 5 2,ql 34
 33,qa 35 0 2,ql 36 35,qa 37 3 2,ql 38 37,⟨some 39,.call (.c (.fn 65 [])) [.t 34,.t 36,.t 38],none⟩,qa 40 5 2,qw 1 40 39] []) (.seq (.reg false [qa 42 8 2,ql 43 42,⟨some 44,.ld 8 true (.t 3),none⟩,qk 45 66 43 44,qm 41 45,⟨some 46,.ext (.t 41)
 0,none⟩,⟨some 47,.ext (.t 41) 1,none⟩,qa 48 8 2,qw 1 48 46] []) (.seq (.reg false [⟨some 49,.ld 13 true (.t 2),none⟩,qc 50 39 49,qw 13 4 50,qi 5 0] []) .ret)))))))),[.cell 4 13 true,.tmp 5]⟩
def c29 : CF := ⟨.seq (.reg false [qf 2] []) (.seq (.reg false [qm 3 0,⟨some 4,.fun_ .real #[50] 97 [.t 3],none⟩,⟨some 5,.call (.c (.fn 67 [])) [.t 4,.c (.val (.float .f64 13875379345695965184)),.c (.val (.float .f64 4652007308841189376))],none⟩,qm
 6 5,qmT 7 0 6,⟨some 8,.fun_ .imag #[50] 97 [.t 7],some (6, true)⟩,⟨some 9,.call (.c (.fn 67 [])) [.t 8,.c (.val (.float .f64 13875379345695965184)),.c (.val (.float .f64 4652007308841189376))],some (6, true)⟩,qp 10 6 9,qm 2 10] []) .ret),[.tmp 2]⟩
def L30_0 : CC := (.seq (.reg false [qz 20 19 18] []) (.seq (.cond (.t 20) .skip (.exit 0)) (.seq (.block 1 (.seq (.reg false [⟨some 21,.ias 3 (.t 17) (.t 19),none⟩,⟨some 22,.ld 3 true (.t 21),none⟩,⟨some 7,.alloc [.val (.int .i64 0),.val (.complex
 .f64 0 0),.val (.float .f64 0)],none⟩,qw 3 7 22] []) (.seq (.reg false [qm 23 5,qe 24 23,⟨some 25,.ld 3 true (.t 7),none⟩,qc 26 68 25,⟨some 27,.bin .sub 3 false false (.t 24) (.t 26),none⟩,qm 8 27] []) (.reg true [qm 28 5,qm 29 8,⟨some 30,.slc 1
 (.t 28) none (some (.t 29)) none,none⟩,⟨some 31,.ld 3 true (.t 7),none⟩,qm 32 1,qm 33 5,qm 34 8,⟨some 35,.slc 1 (.t 33) (some (.t 34)) none none,none⟩,⟨some 36,.call (.c (.fn 69 [])) [.t 31,.t 32,.t 35],none⟩,⟨some 37,.bsl 1 1 [.val (.bool false)]
 [(0, 1, (.t 36))],none⟩,⟨some 38,.app 1 (.t 30) (.t 37),none⟩,qm 5 38] [(2, 8),(2, 9)])))) (.reg false [qs 39 19,qm 19 39] []))))
def c30 : CF := ⟨.seq (.reg false [qf 4] []) (.seq (.seq (.reg false [qm 9 0,qc 10 46 9,qb 11 10,qm 12 11,qmF 13 1 12,⟨some 14,.call (.c (.fn 29 [])) [.t 13],some (12, false)⟩,⟨some 15,.un .not (.t 14),some (12, false)⟩,qo 16 12 15] []) (.cond (.t
 16) (.seq (.reg false [qf 4] []) .ret) .skip)) (.seq (.reg false [qj 5] []) (.seq (.seq (.reg false [qm 17 0,qe 18 17,qi 19 0] []) (.block 0 (.loop L30_0))) (.seq (.reg false [qm 40 5,⟨some 41,.ias 1 (.t 40) (.c (.val (.int .i64 0))),none⟩,ql 42
 41,qm 4 42] []) .ret)))),[.tmp 4]⟩
def c31 : CF := ⟨.seq (.reg false [⟨some 1,.box (.t 0),none⟩,⟨some 2,.alloc [.val (.int .i64 0),.im [] true],none⟩] []) (.seq (.reg true [qa 3 0 1,ql 4 3,⟨some 5,.bsl 1 0 [] [],none⟩,qa 6 1 1,ql 7 6,⟨some 8,.app 1 (.t 5) (.t 7),none⟩,⟨some 9,.build
 [.val (.int .i64 0),.im [] true] [(0, 1, (.t 4)),(1, 1, (.t 8))],none⟩,qw 2 2 9] [(1, 2),(2, 4),(1, 5)]) .ret),[.cell 2 2 true]⟩
def L32_0 : CC := (.seq (.reg false [qz 14 13 12] []) (.seq (.cond (.t 14) .skip (.exit 0)) (.seq (.block 1 (.seq (.reg false [⟨some 15,.ias 3 (.t 11) (.t 13),none⟩,⟨some 16,.ld 3 true (.t 15),none⟩,⟨some 7,.alloc [.val (.string ⟨#[]⟩),.val (.int
 .i64 0),.im [] true],none⟩,qw 3 7 16] []) (.reg false [qm 17 5,qa 18 0 7,ql 19 18,qa 20 1 7,⟨some 21,.ld 2 true (.t 20),none⟩,⟨some 22,.call (.c (.fn 71 [])) [.t 17,.t 19,.t 21],none⟩,qm 5 22] []))) (.reg false [qs 23 13,qm 13 23] []))))
def c32 : CF := ⟨.seq (.reg false [qj 4] []) (.seq (.reg false [qm 8 0,qc 9 70 8,qm 5 9] []) (.seq (.seq (.reg false [qm 10 1,qc 11 70 10,qe 12 11,qi 13 0] []) (.block 0 (.loop L32_0))) (.seq (.reg false [qm 24 5,qm 4 24] []) .ret))),[.tmp 4]⟩
def L33_0 : CC := (.seq (.reg false [qz 9 8 7] []) (.seq (.cond (.t 9) .skip (.exit 0)) (.seq (.block 1 (.seq (.reg false [⟨some 10,.ias 2 (.t 6) (.t 8),none⟩,⟨some 11,.ld 2 true (.t 10),none⟩,⟨some 5,.alloc [.val (.string ⟨#[]⟩),.val (.int .i64
 0)],none⟩,qw 2 5 11] []) (.reg true [qm 12 3,qa 13 0 5,ql 14 13,qa 15 1 5,ql 16 15,qc 17 72 16,⟨some 18,.build [.val (.string ⟨#[]⟩),.val (.int .i64 0),.im [] true] [(0, 1, (.t 14)),(1, 2, (.t 17))],none⟩,⟨some 19,.bsl 3 1 [.val (.string
 ⟨#[]⟩),.val (.int .i64 0),.im [] true] [(0, 3, (.t 18))],none⟩,⟨some 20,.app 3 (.t 12) (.t 19),none⟩,qm 3 20] [(2, 5)]))) (.reg false [qs 21 8,qm 8 21] []))))
def c33 : CF := ⟨.seq (.reg false [qj 2] []) (.seq (.reg false [qj 3] []) (.seq (.seq (.reg false [qm 6 0,qe 7 6,qi 8 0] []) (.block 0 (.loop L33_0))) (.seq (.reg false [qm 22 3,qm 2 22] []) .ret))),[.tmp 2]⟩
def c34 : CF := ⟨.seq (.reg false [⟨some 4,.mv (.c (.val (.string ⟨#[]⟩))),none⟩,qi 5 0] []) (.seq (.block 0 (.seq (.reg false [qm 7 0,qc 8 73 7,qb 9 8,qm 6 9] []) (.cond (.t 6) (.seq (.reg false [⟨some 4,.mv (.c (.val (.string ⟨#[]⟩))),none⟩,qi 5
 4] []) .ret) (.seq (.reg false [qm 11 1,⟨some 12,.bin .lss 3 false true (.t 11) (.c (.val (.int .i64 1))),none⟩,qm 13 12,qmF 14 1 13,⟨some 15,.bin .gtr 3 false true (.t 14) (.c (.val (.int .i64 9))),some (13, false)⟩,qo 16 13 15,qm 10 16] [])
 (.cond (.t 10) (.seq (.reg false [⟨some 4,.mv (.c (.val (.string ⟨#[]⟩))),none⟩,qi 5 1] []) .ret) (.seq (.reg false [qm 18 0,⟨some 19,.len true (.t 18),none⟩,qq 20 19 6,qm 17 20] []) (.cond (.t 17) (.seq (.reg false [⟨some 4,.mv (.c (.val (.string
 ⟨#[]⟩))),none⟩,qi 5 18] []) .ret) .skip))))))) (.seq (.reg false [qm 21 0,qm 22 1,⟨some 23,.bin .add 3 true false (.c (.val (.int .i64 48))) (.t 22),none⟩,⟨some 24,.cv 3 5 (.t 23),none⟩,⟨some 25,.bsl 1 1 [.val (.int .u8 0)] [(0, 1, (.t
 24))],none⟩,⟨some 26,.b2s (.t 25),none⟩,⟨some 27,.bin .add 23 false false (.t 21) (.t 26),none⟩,qm 4 27,qi 5 0] []) .ret)),[.tmp 4,.tmp 5]⟩
def c35 : CF := ⟨.seq (.reg false [⟨some 1,.box (.t 0),none⟩,⟨some 2,.alloc [.val (.string ⟨#[]⟩),.val (.int .i64 0),.val (.int .i64 0),.val (.int .i64 0),.val (.int .i64 0),.im [] true,.im [] true,.im [] true,.im [] true,.im [] true,.im [] true,.im
 [] true,.im [] true],none⟩] []) (.seq (.reg true [qa 3 5 1,ql 4 3,⟨some 5,.call (.c (.fn 32 [])) [.t 4,.c (.im [] true)],none⟩,qa 6 12 1,ql 7 6,⟨some 8,.call (.c (.fn 74 [])) [.t 7,.c (.im [] true)],none⟩,qa 9 5 1,qw 1 9 5,qa 10 12 1,qw 1 10 8]
 [(2, 4)]) (.seq (.reg true [qa 11 6 1,ql 12 11,qc 13 75 12,qa 14 7 1,ql 15 14,qc 16 75 15,qa 17 11 1,ql 18 17,qc 19 75 18,qa 20 6 1,qw 1 20 13,qa 21 7 1,qw 1 21 16,qa 22 11 1,qw 1 22 19] [(2, 4),(2, 7),(5, 7)]) (.seq (.reg true [qa 23 8 1,ql 24
 23,qc 25 76 24,qa 26 9 1,ql 27 26,qc 28 47 27,qa 29 10 1,ql 30 29,qc 31 77 30,qa 32 8 1,qw 1 32 25,qa 33 9 1,qw 1 33 28,qa 34 10 1,qw 1 34 31] [(2, 4),(2, 7),(5, 7)]) (.seq (.reg false [⟨some 35,.ld 13 true (.t 1),none⟩,qw 13 2 35] [])
 .ret)))),[.cell 2 13 true]⟩
def c36 : CF := ⟨.seq (.reg false [qj 4] []) (.seq (.reg false [qm 5 0,qm 6 1,⟨some 7,.bsl 1 1 [.val (.string ⟨#[]⟩)] [(0, 1, (.t 6))],none⟩,qk 8 78 5 7,qm 4 8] []) .ret),[.tmp 4]⟩
def c37 : CF := ⟨.seq (.reg false [qj 6] []) (.seq (.reg false [qm 10 0,qc 11 79 10,qm 7 11] []) (.seq (.reg false [qm 13 7,qm 14 1,qk 15 80 13 14,qm 12 15,⟨some 16,.ext (.t 12) 0,none⟩,⟨some 17,.ext (.t 12) 1,none⟩,qm 8 16,qm 9 17] []) (.seq
 (.block 0 (.seq (.reg false [qm 19 9,qm 18 19] []) (.cond (.t 18) (.reg false [qm 20 7,qm 21 8,qm 22 7,qm 23 8,⟨some 24,.ias 2 (.t 22) (.t 23),none⟩,qa 25 1 24,ql 26 25,qm 27 2,qk 28 81 26 27,⟨some 29,.ias 2 (.t 20) (.t 21),none⟩,qa 30 1 29,qw 1 30
 28] []) (.seq (.reg false [qm 32 1,qc 33 73 32,qm 34 33,qmT 35 2 34,⟨some 36,.len false (.t 35),some (34, true)⟩,⟨some 37,.bin .gtr 3 false true (.t 36) (.c (.val (.int .i64 0))),some (34, true)⟩,qp 38 34 37,qm 31 38] []) (.cond (.t 31) (.reg false
 [qm 39 7,qm 40 8,qm 41 1,qm 42 2,qc 43 75 42,⟨some 44,.build [.val (.string ⟨#[]⟩),.im [] true] [(0, 1, (.t 41)),(1, 1, (.t 43))],none⟩,⟨some 45,.bsl 2 1 [.val (.string ⟨#[]⟩),.im [] true] [(0, 2, (.t 44))],none⟩,⟨some 46,.call (.c (.fn 82 [])) [.t
 39,.t 40,.t 45],none⟩,qm 7 46] []) .skip))))) (.seq (.reg false [qm 47 7,qm 6 47] []) .ret)))),[.tmp 6]⟩
def L38_0 : CC := (.seq (.reg false [qz 9 8 7] []) (.seq (.cond (.t 9) .skip (.exit 0)) (.seq (.block 1 (.seq (.reg false [⟨some 10,.ias 3 (.t 6) (.t 8),none⟩,⟨some 11,.ld 3 true (.t 10),none⟩,⟨some 5,.alloc [.val (.string ⟨#[]⟩),.val (.int .i64
 0),.im [] true],none⟩,qw 3 5 11] []) (.reg false [qm 12 3,qa 13 0 5,ql 14 13,qa 15 1 5,qa 16 0 15,ql 17 16,⟨some 18,.call (.c (.fn 83 [])) [.t 12,.t 14,.t 17],none⟩,qm 3 18] []))) (.reg false [qs 19 8,qm 8 19] []))))
def c38 : CF := ⟨.seq (.reg false [qj 2] []) (.seq (.reg false [qj 3] []) (.seq (.seq (.reg false [qm 6 0,qe 7 6,qi 8 0] []) (.block 0 (.loop L38_0))) (.seq (.reg false [qm 20 3,qm 2 20] []) .ret))),[.tmp 2]⟩
def c39 : CF := ⟨.seq (.reg false [⟨some 1,.box (.t 0),none⟩,⟨some 2,.alloc [.val (.string ⟨#[]⟩),.val (.int .i64 0),.val (.int .i64 0),.val (.int .i64 0),.val (.int .i64 0),.im [] true,.im [] true,.im [] true,.im [] true,.im [] true,.im [] true,.im
 [] true,.im [] true],none⟩] []) (.seq (.reg false [⟨some 3,.ld 13 true (.t 1),none⟩,qc 4 35 3,qw 13 1 4] []) (.seq (.reg true [qa 5 12 1,ql 6 5,qa 7 0 1,ql 8 7,⟨some 9,.ld 13 true (.t 1),none⟩,qc 10 12 9,qc 11 38 10,⟨some 12,.call (.c (.fn 37 []))
 [.t 6,.t 8,.t 11],none⟩,qa 13 12 1,qw 1 13 12] [(1, 5),(3, 5),(1, 6),(3, 6)]) (.seq (.reg false [⟨some 14,.ld 13 true (.t 1),none⟩,qw 13 2 14] []) .ret))),[.cell 2 13 true]⟩
def L46_0 : CC := (.seq (.reg false [qz 12 11 10] []) (.seq (.cond (.t 12) .skip (.exit 0)) (.seq (.block 1 (.seq (.reg false [⟨some 13,.ias 3 (.t 9) (.t 11),none⟩,⟨some 14,.ld 3 true (.t 13),none⟩,⟨some 5,.alloc [.val (.int .i64 0),.val (.complex
 .f64 0 0),.val (.float .f64 0)],none⟩,qw 3 5 14] []) (.seq (.seq (.reg false [⟨some 15,.ld 3 true (.t 5),none⟩,qc 16 92 15,qb 17 16,qm 18 17,qmF 19 3 18,⟨some 20,.ld 3 true (.t 5),some (18, false)⟩,⟨some 21,.call (.c (.fn 68 [])) [.t 20],some (18,
 false)⟩,⟨some 22,.bin .lss 3 false false (.t 19) (.t 21),some (18, false)⟩,qo 23 18 22] []) (.cond (.t 23) (.seq (.reg false [qf 2] []) .ret) .skip)) (.reg false [qm 24 3,⟨some 25,.ld 3 true (.t 5),none⟩,qc 26 68 25,⟨some 27,.bin .sub 3 true false
 (.c (.val (.int .i64 1))) (.t 26),none⟩,⟨some 28,.bin .add 3 false false (.t 24) (.t 27),none⟩,qm 3 28] [])))) (.reg false [qs 29 11,qm 11 29] []))))
def c46 : CF := ⟨.seq (.reg false [qf 2] []) (.seq (.seq (.reg false [qm 6 0,qe 7 6,⟨some 8,.bin .gtr 3 false true (.t 7) (.c (.val (.int .i64 32))),none⟩] []) (.cond (.t 8) (.seq (.reg false [qf 2] []) .ret) .skip)) (.seq (.reg false [qi 3 0] [])
 (.seq (.seq (.reg false [qm 9 0,qe 10 9,qi 11 0] []) (.block 0 (.loop L46_0))) (.seq (.reg false [qm 30 3,qq 31 30 1,qm 2 31] []) .ret)))),[.tmp 2]⟩
def c64 : CF :=  ⟨.seq (.reg false [⟨some 4,.alloc [.val (.int .i64 0),.val (.string ⟨#[]⟩),.val (.int .i64 0),.val (.int .i64 0),.val (.bool false),.val (.complex .f64 0 0),.val (.string ⟨#[]⟩),.val (.bool false)],none⟩,qf 5] []) (.seq (.reg false
 [qm 9 0,qm 10 1,qk 11 99 9 10,qm 8 11,⟨some 12,.ext (.t 8) 0,none⟩,⟨some 13,.ext (.t 8) 1,none⟩,qm 6 12,qm 7 13] []) (.seq (.seq (.reg false [qm 14 7,qb 15 14] []) (.cond (.t 15) (.seq (.reg false [⟨some 16,.build [.val (.int .i64 0),.val (.string
 ⟨#[]⟩),.val (.int .i64 0),.val (.int .i64 0),.val (.bool false),.val (.complex .f64 0 0),.val (.string ⟨#[]⟩),.val (.bool false)] [],none⟩,qw 8 4 16,qf 5] []) .ret) .skip)) (.seq (.reg false [qm 17 0,qm 18 6,⟨some 19,.ias 8 (.t 17) (.t
 18),none⟩,⟨some 20,.ld 8 true (.t 19),none⟩,qw 8 4 20,⟨some 5,.mv (.c (.val (.bool true))),none⟩] []) .ret))),[.cell 4 8 true,.tmp 5]⟩
def c65 : CF := ⟨.seq (.reg false [qj 6] []) (.seq (.seq (.reg false [qm 7 1,qc 8 73 7,qb 9 8] []) (.cond (.t 9) (.seq (.reg false [qm 10 0,qc 11 70 10,qm 6 11] []) .ret) .skip)) (.seq (.reg false [qm 12 0,qc 13 70 12,qm 14 1,⟨some 15,.build [.val
 (.int .i64 0),.im [] true] [],none⟩,qm 16 2,qk 17 100 15 16,⟨some 18,.call (.c (.fn 71 [])) [.t 13,.t 14,.t 17],none⟩,qm 6 18] []) .ret)),[.tmp 6]⟩
def c66 : CF := ⟨.seq (.reg false [⟨some 3,.box (.t 1),none⟩,qj 4,qf 5] []) (.seq (.reg false [qm 9 0,qc 10 76 9,qm 6 10] []) (.seq (.reg false [qm 12 6,qa 13 0 3,ql 14 13,qk 15 99 12 14,qm 11 15,⟨some 16,.ext (.t 11) 0,none⟩,⟨some 17,.ext (.t 11)
 1,none⟩,qm 7 16,qm 8 17] []) (.seq (.block 0 (.seq (.reg false [qm 19 8,qb 20 19,qm 18 20] []) (.cond (.t 18) (.seq (.reg false [qm 21 6,qm 22 7,⟨some 23,.ld 8 true (.t 3),none⟩,⟨some 24,.bsl 8 1 [.val (.int .i64 0),.val (.string ⟨#[]⟩),.val (.int
 .i64 0),.val (.int .i64 0),.val (.bool false),.val (.complex .f64 0 0),.val (.string ⟨#[]⟩),.val (.bool false)] [(0, 8, (.t 23))],none⟩,⟨some 25,.call (.c (.fn 101 [])) [.t 21,.t 22,.t 24],none⟩,qm 4 25,⟨some 5,.mv (.c (.val (.bool true))),none⟩]
 []) .ret) (.seq (.reg true [qm 27 6,qm 28 7,⟨some 29,.ias 8 (.t 27) (.t 28),none⟩,⟨some 30,.ld 8 true (.t 29),none⟩,⟨some 31,.ld 8 true (.t 3),none⟩,qk 32 102 30 31,qm 26 32] []) (.cond (.t 26) (.seq (.reg false [qm 33 6,qm 34 7,⟨some 35,.ld 8 true
 (.t 3),none⟩,⟨some 36,.ias 8 (.t 33) (.t 34),none⟩,qw 8 36 35] []) (.seq (.reg false [qm 37 6,qm 4 37,⟨some 5,.mv (.c (.val (.bool true))),none⟩] []) .ret)) .skip))))) (.seq (.reg false [qm 38 6,qm 4 38,qf 5] []) .ret)))),[.tmp 4,.tmp 5]⟩
def c67 : CF := ⟨.seq (.reg false [qf 6] []) (.seq (.reg false [qm 7 0,qm 8 1,⟨some 9,.bin .geq 97 false false (.t 7) (.t 8),none⟩,qm 10 9,qmT 11 0 10,qmT 12 2 10,⟨some 13,.bin .leq 97 false false (.t 11) (.t 12),some (10, true)⟩,qp 14 10 13,qm 15
 14,qmT 16 0 15,qmT 17 0 15,⟨some 18,.call (.c (.fn 103 [])) [.t 17],some (15, true)⟩,⟨some 19,.bin .eql 97 false false (.t 16) (.t 18),some (15, true)⟩,qp 20 15 19,qm 6 20] []) .ret),[.tmp 6]⟩
def c68 : CF := ⟨.seq (.reg false [⟨some 1,.box (.t 0),none⟩,qi 2 0] []) (.seq (.seq (.reg false [qa 3 0 1,ql 4 3] []) (.block 0 (.seq (.reg false [qq 6 4 4,qm 5 6] []) (.cond (.t 5) (.seq (.reg false [qi 2 1] []) .ret) (.seq (.seq (.reg false [qq 8
 4 5,qm 7 8] []) (.cond (.t 7) .skip (.reg false [qq 9 4 6,qm 7 9] []))) (.cond (.t 7) (.seq (.reg false [qi 2 2] []) .ret) .skip)))))) (.seq (.reg false [qi 2 0] []) .ret)),[.tmp 2]⟩
def c69 : CF := ⟨.seq (.reg false [⟨some 3,.box (.t 0),none⟩,qf 6] []) (.seq (.seq (.reg false [qa 7 0 3,ql 8 7] []) (.block 0 (.seq (.reg false [qq 10 8 2,qm 9 10] []) (.cond (.t 9) (.seq (.reg true [qm 11 1,qa 12 1 3,ql 13 12,⟨some 14,.bin .sub 50
 false false (.t 11) (.t 13),none⟩,qm 15 1,qa 16 1 3,ql 17 16,⟨some 18,.bin .sub 50 false false (.t 15) (.t 17),none⟩,qk 19 104 14 18,qa 20 2 3,ql 21 20,qa 22 2 3,ql 23 22,⟨some 24,.bin .mul 97 false false (.t 21) (.t 23),none⟩,⟨some 25,.bin .leq 97
 false false (.t 19) (.t 24),none⟩,qm 6 25] [(8, 10),(8, 12)]) .ret) (.seq (.reg false [qq 27 8 3,qm 26 27] []) (.cond (.t 26) (.seq (.reg true [qm 28 1,qa 29 1 3,ql 30 29,qk 31 104 28 30,qa 32 2 3,ql 33 32,⟨some 34,.bin .geq 97 false false (.t 31)
 (.t 33),none⟩,qm 6 34] [(3, 5)]) .ret) (.seq (.reg false [qq 36 8 4,qm 35 36] []) (.cond (.t 35) (.seq (.reg false [qm 37 2,⟨some 38,.ias 1 (.t 37) (.c (.val (.int .i64 0))),none⟩,ql 39 38,qb 40 39,qm 6 40] []) .ret) (.seq (.reg false [qq 42 8 5,qm
 41 42] []) (.cond (.t 41) (.seq (.reg false [qm 43 2,⟨some 44,.ias 1 (.t 43) (.c (.val (.int .i64 0))),none⟩,ql 45 44,qm 46 45,qmT 47 2 46,⟨some 48,.ias 1 (.t 47) (.c (.val (.int .i64 1))),some (46, true)⟩,qlT 49 48 46,qp 50 46 49,qm 6 50] [])
 .ret) (.seq (.reg false [qq 52 8 6,qm 51 52] []) (.cond (.t 51) (.seq (.reg false [qm 53 2,⟨some 54,.ias 1 (.t 53) (.c (.val (.int .i64 0))),none⟩,ql 55 54,qm 56 55,qmF 57 2 56,⟨some 58,.ias 1 (.t 57) (.c (.val (.int .i64 1))),some (56,
 false)⟩,⟨some 59,.ld 1 false (.t 58),some (56, false)⟩,qo 60 56 59,qm 6 60] []) .ret) .skip)))))))))))) (.seq (.reg false [⟨some 6,.mv (.c (.val (.bool true))),none⟩] []) .ret)),[.tmp 6]⟩
def L70_0 : CC := (.seq (.reg false [qz 10 9 8] []) (.seq (.cond (.t 10) .skip (.exit 0)) (.seq (.block 1 (.seq (.reg false [qm 11 9,qm 4 11] []) (.reg false [qm 12 3,qm 13 4,qm 14 3,qm 15 4,⟨some 16,.ias 3 (.t 14) (.t 15),none⟩,qa 17 1 16,qa 18 1
 17,ql 19 18,qc 20 106 19,⟨some 21,.ias 3 (.t 12) (.t 13),none⟩,qa 22 1 21,qa 23 1 22,qw 1 23 20] []))) (.reg false [qs 24 9,qm 9 24] []))))
def c70 : CF := ⟨.seq (.reg false [qj 2] []) (.seq (.reg false [qm 5 0,qc 6 105 5,qm 3 6] []) (.seq (.seq (.reg false [qm 7 3,qe 8 7,qi 9 0] []) (.block 0 (.loop L70_0))) (.seq (.reg false [qm 25 3,qm 2 25] []) .ret))),[.tmp 2]⟩
def c71 : CF := ⟨.seq (.reg false [⟨some 5,.box (.t 2),none⟩,qj 6] []) (.seq (.seq (.reg false [⟨some 9,.ld 2 true (.t 5),none⟩,qc 10 107 9,qq 11 10 0] []) (.cond (.t 11) (.seq (.reg false [qm 12 0,qm 6 12] []) .ret) .skip)) (.seq (.reg false [qm 14
 0,qm 15 1,qk 16 108 14 15,qm 13 16,⟨some 17,.ext (.t 13) 0,none⟩,⟨some 18,.ext (.t 13) 1,none⟩,qm 7 17,qm 8 18] []) (.seq (.seq (.reg false [qm 19 8,qb 20 19] []) (.cond (.t 20) (.seq (.reg false [qm 21 0,qm 22 7,qm 23 1,⟨some 24,.ld 2 true (.t
 5),none⟩,⟨some 25,.build [.val (.string ⟨#[]⟩),.val (.int .i64 0),.im [] true] [(0, 1, (.t 23)),(1, 2, (.t 24))],none⟩,⟨some 26,.bsl 3 1 [.val (.string ⟨#[]⟩),.val (.int .i64 0),.im [] true] [(0, 3, (.t 25))],none⟩,⟨some 27,.call (.c (.fn 109 []))
 [.t 21,.t 22,.t 26],none⟩,qm 6 27] []) .ret) .skip)) (.seq (.reg true [qm 28 0,qm 29 7,qm 30 0,qm 31 7,⟨some 32,.ias 3 (.t 30) (.t 31),none⟩,qa 33 1 32,⟨some 34,.ld 2 true (.t 33),none⟩,⟨some 35,.ld 2 true (.t 5),none⟩,qk 36 110 34 35,⟨some 37,.ias
 3 (.t 28) (.t 29),none⟩,qa 38 1 37,qw 2 38 36] []) (.seq (.reg false [qm 39 0,qm 6 39] []) .ret))))),[.tmp 6]⟩
def c72 : CF := ⟨.seq (.reg false [⟨some 2,.alloc [.val (.int .i64 0),.im [] true],none⟩] []) (.seq (.reg false [qm 3 0,⟨some 4,.fun_ .min #[3,3] 3 [.t 3,.c (.val (.int .i64 1048576))],none⟩,⟨some 5,.fun_ .max #[3,3] 3 [.c (.val (.int .i64 0)),.t
 4],none⟩,⟨some 6,.build [.val (.int .i64 0),.im [] true] [(0, 1, (.t 5))],none⟩,qw 2 2 6] []) .ret),[.cell 2 2 true]⟩
def L73_0 : CC := (.seq (.reg false [qz 18 17 16] []) (.seq (.cond (.t 18) .skip (.exit 0)) (.seq (.block 1 (.seq (.reg false [qx 19 15 17,ql 20 19,qm 4 20] []) (.seq (.reg false [qm 21 4,⟨some 22,.bin .leq 5 false true (.t 21) (.c (.val (.int .u8
 48))),none⟩,qm 23 22,qmF 24 4 23,⟨some 25,.bin .gtr 5 false true (.t 24) (.c (.val (.int .u8 57))),some (23, false)⟩,qo 26 23 25] []) (.cond (.t 26) (.seq (.reg false [qf 2] []) .ret) .skip)))) (.reg false [qs 27 17,qm 17 27] []))))
def c73 : CF := ⟨.seq (.reg false [qf 2] []) (.seq (.seq (.reg false [qm 5 0,⟨some 6,.call (.c (.fn 111 [])) [.t 5,.c (.val (.string ⟨#[48]⟩))],none⟩,qb 7 6,qm 8 7,qmF 9 0 8,⟨some 10,.len true (.t 9),some (8, false)⟩,⟨some 11,.bin .gtr 3 false true
 (.t 10) (.c (.val (.int .i64 6))),some (8, false)⟩,qo 12 8 11] []) (.cond (.t 12) (.seq (.reg false [qf 2] []) .ret) .skip)) (.seq (.seq (.reg false [qm 13 0,⟨some 14,.slc 0 (.t 13) (some (.c (.val (.int .i64 1)))) none none,none⟩,⟨some 15,.s2b (.t
 14),none⟩,qe 16 15,qi 17 0] []) (.block 0 (.loop L73_0))) (.seq (.reg false [⟨some 2,.mv (.c (.val (.bool true))),none⟩] []) .ret))),[.tmp 2]⟩
def L74_0 : CC := (.seq (.reg false [qz 13 12 11] []) (.seq (.cond (.t 13) .skip (.exit 0)) (.seq (.block 1 (.seq (.reg false [⟨some 14,.ias 2 (.t 10) (.t 12),none⟩,⟨some 15,.ld 2 true (.t 14),none⟩,⟨some 7,.alloc [.val (.string ⟨#[]⟩),.im []
 true],none⟩,qw 2 7 15] []) (.reg false [qm 16 5,qa 17 0 7,ql 18 17,qa 19 1 7,ql 20 19,⟨some 21,.call (.c (.fn 37 [])) [.t 16,.t 18,.t 20],none⟩,qm 5 21] []))) (.reg false [qs 22 12,qm 12 22] []))))
def c74 : CF := ⟨.seq (.reg false [qj 4] []) (.seq (.reg false [qm 8 0,qc 9 79 8,qm 5 9] []) (.seq (.seq (.reg false [qm 10 1,qe 11 10,qi 12 0] []) (.block 0 (.loop L74_0))) (.seq (.reg false [qm 23 5,qm 4 23] []) .ret))),[.tmp 4]⟩
def c78 : CF := ⟨.seq (.reg false [qj 4] []) (.seq (.reg false [qm 6 0,qm 7 1,⟨some 8,.bsl 1 2 [.im [] true,.im [] true] [(0, 1, (.t 6)),(1, 1, (.t 7))],none⟩,qc 9 112 8,qm 5 9] []) (.seq (.reg false [qm 10 5,⟨some 11,.call (.c (.fn 113 [])) [.t
 10,.c (.fn 114 [])],none⟩] []) (.seq (.reg false [qm 12 5,qc 13 115 12,qm 4 13] []) .ret))),[.tmp 4]⟩
def L79_0 : CC := (.seq (.reg false [qz 10 9 8] []) (.seq (.cond (.t 10) .skip (.exit 0)) (.seq (.block 1 (.seq (.reg false [qm 11 9,qm 4 11] []) (.reg false [qm 12 3,qm 13 4,qm 14 3,qm 15 4,⟨some 16,.ias 2 (.t 14) (.t 15),none⟩,qa 17 1 16,ql 18
 17,qc 19 75 18,⟨some 20,.ias 2 (.t 12) (.t 13),none⟩,qa 21 1 20,qw 1 21 19] []))) (.reg false [qs 22 9,qm 9 22] []))))
def c79 : CF := ⟨.seq (.reg false [qj 2] []) (.seq (.reg false [qm 5 0,qc 6 116 5,qm 3 6] []) (.seq (.seq (.reg false [qm 7 3,qe 8 7,qi 9 0] []) (.block 0 (.loop L79_0))) (.seq (.reg false [qm 23 3,qm 2 23] []) .ret))),[.tmp 2]⟩
def c80 : CF := ⟨.seq (.reg false [qi 4 0,qf 5] []) (.seq (.reg false [qm 6 0,qm 7 1,⟨some 8,.build [.val (.string ⟨#[]⟩),.im [] true] [(0, 1, (.t 7))],none⟩,⟨some 9,.call (.c (.fn 117 [])) [.t 6,.t 8,.c (.fn 118 [])],none⟩,⟨some 10,.ext (.t 9)
 0,none⟩,⟨some 11,.ext (.t 9) 1,none⟩,qm 4 10,qm 5 11] []) .ret),[.tmp 4,.tmp 5]⟩
def L81_0 : CC := (.seq (.reg false [qz 13 12 11] []) (.seq (.cond (.t 13) .skip (.exit 0)) (.seq (.block 1 (.seq (.reg false [⟨some 14,.ias 2 (.t 10) (.t 12),none⟩,⟨some 15,.ld 2 true (.t 14),none⟩,⟨some 7,.alloc [.val (.string ⟨#[]⟩),.val (.int
 .i64 0)],none⟩,qw 2 7 15] []) (.reg false [qm 16 5,qa 17 0 7,ql 18 17,qa 19 1 7,ql 20 19,⟨some 21,.call (.c (.fn 83 [])) [.t 16,.t 18,.t 20],none⟩,qm 5 21] []))) (.reg false [qs 22 12,qm 12 22] []))))
def c81 : CF := ⟨.seq (.reg false [qj 4] []) (.seq (.reg false [qm 8 0,qc 9 75 8,qm 5 9] []) (.seq (.seq (.reg false [qm 10 1,qe 11 10,qi 12 0] []) (.block 0 (.loop L81_0))) (.seq (.reg false [qm 23 5,qm 4 23] []) .ret))),[.tmp 4]⟩
def c83 : CF := ⟨.seq (.reg false [qj 6] []) (.seq (.reg false [qm 10 0,qc 11 75 10,qm 7 11] []) (.seq (.seq (.reg false [qm 12 1,qc 13 73 12,qb 14 13,qm 15 14,qmF 16 2 15,⟨some 17,.bin .lss 3 false true (.t 16) (.c (.val (.int .i64 1))),some (15,
 false)⟩,qo 18 15 17] []) (.cond (.t 18) (.seq (.reg false [qm 19 7,qm 6 19] []) .ret) .skip)) (.seq (.reg false [qm 20 2,⟨some 21,.fun_ .min #[3,3] 3 [.t 20,.c (.val (.int .i64 1048576))],none⟩,qm 2 21] []) (.seq (.reg false [qm 23 7,qm 24 1,qk 25
 121 23 24,qm 22 25,⟨some 26,.ext (.t 22) 0,none⟩,⟨some 27,.ext (.t 22) 1,none⟩,qm 8 26,qm 9 27] []) (.seq (.seq (.reg false [qm 28 9,qb 29 28] []) (.cond (.t 29) (.seq (.reg false [qm 30 7,qm 31 8,qm 32 1,qm 33 2,⟨some 34,.build [.val (.string
 ⟨#[]⟩),.val (.int .i64 0)] [(0, 1, (.t 32)),(1, 1, (.t 33))],none⟩,⟨some 35,.bsl 2 1 [.val (.string ⟨#[]⟩),.val (.int .i64 0)] [(0, 2, (.t 34))],none⟩,⟨some 36,.call (.c (.fn 122 [])) [.t 30,.t 31,.t 35],none⟩,qm 6 36] []) .ret) .skip)) (.seq (.reg
 false [qm 37 7,qm 38 8,qm 39 7,qm 40 8,⟨some 41,.ias 2 (.t 39) (.t 40),none⟩,qa 42 1 41,ql 43 42,qm 44 2,⟨some 45,.fun_ .max #[3,3] 3 [.t 43,.t 44],none⟩,⟨some 46,.ias 2 (.t 37) (.t 38),none⟩,qa 47 1 46,qw 1 47 45] []) (.seq (.reg false [qm 48 7,qm
 6 48] []) .ret))))))),[.tmp 6]⟩
def c92 : CF := ⟨.seq (.reg false [⟨some 1,.box (.t 0),none⟩,qf 2] []) (.seq (.seq (.reg false [qa 3 0 1,ql 4 3] []) (.block 0 (.seq (.reg false [qq 6 4 2,qm 5 6] []) (.cond (.t 5) (.seq (.reg false [qa 7 1 1,ql 8 7,qc 9 29 8,qm 10 9,qaT 11 2 1
 10,qlT 12 11 10,⟨some 13,.call (.c (.fn 67 [])) [.t 12,.c (.val (.float .f64 0)),.c (.val (.float .f64 4656510908468559872))],some (10, true)⟩,qp 14 10 13,qm 2 14] []) .ret) (.seq (.reg false [qq 16 4 3,qm 15 16] []) (.cond (.t 15) (.seq (.reg
 false [qa 17 1 1,ql 18 17,qc 19 29 18,qm 20 19,qaT 21 2 1 20,qlT 22 21 20,⟨some 23,.call (.c (.fn 67 [])) [.t 22,.c (.val (.float .f64 13924712783166832640)),.c (.val (.float .f64 4701340746312056832))],some (20, true)⟩,qp 24 20 23,qm 2 24] [])
 .ret) (.seq (.seq (.reg false [qq 26 4 1,qm 25 26] []) (.cond (.t 25) .skip (.seq (.reg false [qq 27 4 4,qm 25 27] []) (.cond (.t 25) .skip (.seq (.reg false [qq 28 4 5,qm 25 28] []) (.cond (.t 25) .skip (.reg false [qq 29 4 6,qm 25 29] [])))))))
 (.cond (.t 25) (.seq (.reg false [qa 30 1 1,ql 31 30,⟨some 32,.bin .eql 50 false true (.t 31) (.c (.val (.complex .f64 0 0))),none⟩,qm 33 32,qaT 34 2 1 33,qlT 35 34 33,⟨some 36,.bin .eql 97 false true (.t 35) (.c (.val (.float .f64 0))),some (33,
 true)⟩,qp 37 33 36,qm 2 37] []) .ret) .skip)))))))) (.seq (.reg false [qf 2] []) .ret)),[.tmp 2]⟩
def c99 : CF := ⟨.seq (.reg false [qi 4 0,qf 5] []) (.seq (.reg false [qm 6 0,qm 7 1,⟨some 8,.build [.val (.int .i64 0),.val (.string ⟨#[]⟩),.val (.int .i64 0),.val (.int .i64 0),.val (.bool false),.val (.complex .f64 0 0),.val (.string ⟨#[]⟩),.val
 (.bool false)] [(0, 1, (.t 7))],none⟩,⟨some 9,.call (.c (.fn 131 [])) [.t 6,.t 8,.c (.fn 132 [])],none⟩,⟨some 10,.ext (.t 9) 0,none⟩,⟨some 11,.ext (.t 9) 1,none⟩,qm 4 10,qm 5 11] []) .ret),[.tmp 4,.tmp 5]⟩
def c100 : CF := ⟨.seq (.reg false [⟨some 2,.box (.t 0),none⟩,⟨some 4,.alloc [.val (.int .i64 0),.im [] true],none⟩] []) (.seq (.seq (.reg false [qm 5 1,⟨some 6,.bin .lss 3 false true (.t 5) (.c (.val (.int .i64 1))),none⟩,qm 7 6,qmF 8 1 7,⟨some
 9,.bin .gtr 3 false true (.t 8) (.c (.val (.int .i64 1048576))),some (7, false)⟩,qo 10 7 9] []) (.cond (.t 10) (.seq (.reg true [qa 11 0 2,ql 12 11,qa 13 1 2,ql 14 13,qc 15 106 14,⟨some 16,.build [.val (.int .i64 0),.im [] true] [(0, 1, (.t
 12)),(1, 1, (.t 15))],none⟩,qw 2 4 16] [(1, 4)]) .ret) .skip)) (.seq (.reg false [⟨some 17,.ld 2 true (.t 2),none⟩,qm 18 1,⟨some 19,.bsl 1 1 [.val (.int .i64 0)] [(0, 1, (.t 18))],none⟩,⟨some 20,.build [.val (.int .i64 0),.im [] true] [(1, 1, (.t
 19))],none⟩,qk 21 110 17 20,qw 2 4 21] []) .ret)),[.cell 4 2 true]⟩
def c102 : CF := ⟨.seq (.reg false [⟨some 2,.box (.t 0),none⟩,⟨some 3,.box (.t 1),none⟩,qf 4] []) (.seq (.seq (.reg false [qa 5 1 2,⟨some 6,.ld 3 true (.t 5),none⟩,qa 7 1 3,⟨some 8,.ld 3 true (.t 7),none⟩,⟨some 9,.bin .eql 89 false false (.t 6) (.t
 8),none⟩] []) (.cond (.t 9) (.seq (.reg false [qa 10 7 3,ql 11 10,qm 12 11,qaT 13 7 2 12,qlT 14 13 12,⟨some 15,.un .not (.t 14),some (12, true)⟩,qp 16 12 15,qm 4 16] []) .ret) .skip)) (.seq (.reg false [qa 17 1 2,⟨some 18,.ld 3 true (.t
 17),none⟩,qa 19 1 3,⟨some 20,.ld 3 true (.t 19),none⟩,qk 21 135 18 20,qb 22 21,qm 4 22] []) .ret)),[.tmp 4]⟩
def c103 : CF := ⟨.seq (.reg false [⟨some 2,.mv (.c (.val (.float .f64 0))),none⟩] []) (.seq (.cond (.c (.val (.bool true))) (.seq (.reg false [qm 3 0,qc 4 136 3,qm 2 4] []) .ret) .skip) (.seq (.reg false [qm 5 0,qc 6 137 5,qm 2 6] []) .ret)),[.tmp 2]⟩
def c104 : CF := ⟨.seq (.reg false [⟨some 4,.mv (.c (.val (.float .f64 0))),none⟩] []) (.seq (.reg false [qm 5 0,qm 6 1,qc 7 138 6,⟨some 8,.bin .mul 50 false false (.t 5) (.t 7),none⟩,⟨some 9,.fun_ .real #[50] 97 [.t 8],none⟩,qm 4 9] []) .ret),[.tmp 4]⟩
def c107 : CF := ⟨.seq (.reg false [⟨some 1,.box (.t 0),none⟩,qi 2 0] []) (.seq (.reg false [qa 3 0 1,ql 4 3,qa 5 1 1,ql 6 5,qe 7 6,⟨some 8,.bin .add 3 false false (.t 4) (.t 7),none⟩,qm 2 8] []) .ret),[.tmp 2]⟩
def c108 : CF := ⟨.seq (.reg false [qi 4 0,qf 5] []) (.seq (.reg false [qm 6 0,qm 7 1,⟨some 8,.build [.val (.string ⟨#[]⟩),.val (.int .i64 0),.im [] true] [(0, 1, (.t 7))],none⟩,⟨some 9,.call (.c (.fn 139 [])) [.t 6,.t 8,.c (.fn 140 [])],none⟩,⟨some
 10,.ext (.t 9) 0,none⟩,⟨some 11,.ext (.t 9) 1,none⟩,qm 4 10,qm 5 11] []) .ret),[.tmp 4,.tmp 5]⟩
def c110 : CF := ⟨.seq (.reg false [⟨some 2,.box (.t 0),none⟩,⟨some 3,.box (.t 1),none⟩,⟨some 4,.alloc [.val (.int .i64 0),.im [] true],none⟩] []) (.seq (.reg false [qa 6 1 2,ql 7 6,qa 8 1 3,ql 9 8,⟨some 10,.bsl 1 2 [.im [] true,.im [] true] [(0, 1,
 (.t 7)),(1, 1, (.t 9))],none⟩,qc 11 143 10,qm 5 11] []) (.seq (.reg false [qm 12 5,qc 13 144 12] []) (.seq (.reg true [qa 14 0 2,ql 15 14,qa 16 0 3,ql 17 16,⟨some 18,.fun_ .max #[3,3] 3 [.t 15,.t 17],none⟩,qm 19 5,qc 20 146 19,qk 21 145 18 20,qw 2
 4 21] [(1, 6),(3, 6)]) .ret))),[.cell 4 2 true]⟩
def c111 : CF := ⟨.seq (.reg false [qf 4] []) (.seq (.reg false [qm 5 0,qm 6 1,qk 7 147 5 6,qm 4 7] []) .ret),[.tmp 4]⟩
def L112_0 : CC := (.seq (.reg false [qz 12 11 10] []) (.seq (.cond (.t 12) .skip (.exit 0)) (.seq (.block 1 (.seq (.reg false [qx 13 9 11,ql 14 13,qm 5 14] []) (.seq (.reg false [qm 15 3,qm 16 5,qe 17 16,⟨some 18,.bin .add 3 false false (.t 15) (.t
 17),none⟩,qm 3 18] []) (.seq (.reg false [qm 19 3,⟨some 20,.bin .lss 3 false true (.t 19) (.c (.val (.int .i64 0))),none⟩] []) (.cond (.t 20) (.reg false [⟨some 21,.bad,none⟩,⟨none,.bad,none⟩] []) .skip))))) (.reg false [qs 22 11,qm 11 22] []))))
def L112_1 : CC := (.seq (.reg false [qz 28 27 26] []) (.seq (.cond (.t 28) .skip (.exit 2)) (.seq (.block 3 (.seq (.reg false [qx 29 25 27,ql 30 29,qm 8 30] []) (.reg false [qm 31 6,qm 32 8,⟨some 33,.app 1 (.t 31) (.t 32),none⟩,qm 6 33] []))) (.reg
 false [qs 34 27,qm 27 34] []))))
def c112 : CF := ⟨.seq (.reg false [qj 2] []) (.seq (.reg false [qi 3 0] []) (.seq (.seq (.reg false [qm 9 0,qe 10 9,qi 11 0] []) (.block 0 (.loop L112_0))) (.seq (.reg false [qm 23 3,⟨some 24,.call (.c (.fn 148 [])) [.c (.im [] true),.t
 23],none⟩,qm 6 24] []) (.seq (.seq (.reg false [qm 25 0,qe 26 25,qi 27 0] []) (.block 2 (.loop L112_1))) (.seq (.reg false [qm 35 6,qm 2 35] []) .ret))))),[.tmp 2]⟩
def c114 : CF := ⟨.seq (.reg false [qi 4 0] []) (.seq (.reg false [qm 5 0,qm 6 1,qk 7 151 5 6,qm 4 7] []) .ret),[.tmp 4]⟩
def L115_0 : CC := (.seq (.seq (.reg false [qm 29 5,qm 30 4,qe 31 30,qz 32 29 31] []) (.cond (.t 32) .skip (.exit 2))) (.seq (.block 3 (.seq (.reg true [qm 35 4,qm 36 5,qx 37 35 36,ql 38 37,qm 39 4,qm 40 5,⟨some 41,.bin .sub 3 false true (.t 40) (.c
 (.val (.int .i64 1))),none⟩,qx 42 39 41,ql 43 42,⟨some 44,.bin .neq 23 false false (.t 38) (.t 43),none⟩] []) (.cond (.t 44) (.seq (.reg false [qm 45 0,qm 46 3,qm 47 4,qm 48 5,qx 49 47 48,ql 50 49,qx 51 45 46,qw 1 51 50] []) (.reg false [qm 52 3,qs
 53 52,qm 3 53] [])) .skip))) (.reg false [qm 33 5,qs 34 33,qm 5 34] [])))
def L115_1 : CC := (.seq (.seq (.reg false [qm 10 3,qm 11 0,qe 12 11,qz 13 10 12] []) (.cond (.t 13) .skip (.exit 0))) (.seq (.block 1 (.seq (.reg true [qm 16 0,qm 17 3,qx 18 16 17,ql 19 18,qm 20 0,qm 21 3,⟨some 22,.bin .sub 3 false true (.t 21) (.c
 (.val (.int .i64 1))),none⟩,qx 23 20 22,ql 24 23,⟨some 25,.bin .eql 23 false false (.t 19) (.t 24),none⟩] []) (.cond (.t 25) (.seq (.reg false [qm 26 0,qm 27 3,⟨some 28,.slc 1 (.t 26) (some (.t 27)) none none,none⟩,qm 4 28] []) (.seq (.seq (.reg
 false [qi 5 1] []) (.block 2 (.loop L115_0))) (.seq (.reg false [qm 54 0,qm 55 3,⟨some 56,.slc 1 (.t 54) (some (.t 55)) none none,none⟩,⟨none,.clr [.val (.string ⟨#[]⟩)] (.t 56),none⟩] []) (.seq (.reg false [qm 57 0,qm 58 3,⟨some 59,.slc 1 (.t 57)
 none (some (.t 58)) none,none⟩,qm 2 59] []) .ret)))) .skip))) (.reg false [qm 14 3,qs 15 14,qm 3 15] [])))
def c115 : CF := ⟨.seq (.reg false [qj 2] []) (.seq (.seq (.reg false [qm 6 0,qe 7 6,⟨some 8,.bin .lss 3 false true (.t 7) (.c (.val (.int .i64 2))),none⟩] []) (.cond (.t 8) (.seq (.reg false [qm 9 0,qm 2 9] []) .ret) .skip)) (.seq (.seq (.reg false
 [qi 3 1] []) (.block 0 (.loop L115_1))) (.seq (.reg false [qm 60 0,qm 2 60] []) .ret))),[.tmp 2]⟩
def L117_0 : CC := (.seq (.seq (.reg false [qm 15 9,qm 16 10,qz 17 15 16] []) (.cond (.t 17) .skip (.exit 0))) (.block 1 (.seq (.reg false [qm 18 9,qm 19 10,⟨some 20,.bin .add 3 false false (.t 18) (.t 19),none⟩,⟨some 21,.cv 3 238 (.t
 20),none⟩,⟨some 22,.bin .shr 238 false true (.t 21) (.c (.val (.int .u64 1))),none⟩,⟨some 23,.cv 238 3 (.t 22),none⟩,qm 11 23] []) (.seq (.reg true [qm 24 2,qm 25 0,qm 26 11,⟨some 27,.ias 2 (.t 25) (.t 26),none⟩,⟨some 28,.ld 2 true (.t
 27),none⟩,⟨some 29,.ld 2 true (.t 4),none⟩,⟨some 30,.call (.t 24) [.t 28,.t 29],none⟩,⟨some 31,.bin .lss 3 false true (.t 30) (.c (.val (.int .i64 0))),none⟩] []) (.cond (.t 31) (.reg false [qm 32 11,qs 33 32,qm 9 33] []) (.reg false [qm 34 11,qm
 10 34] []))))))
def c117 : CF := ⟨.seq (.reg false [⟨some 4,.box (.t 1),none⟩,qi 6 0,qf 7] []) (.seq (.reg false [qm 12 0,qe 13 12,qm 8 13] []) (.seq (.reg false [qm 14 8,qi 9 0,qm 10 14] []) (.seq (.block 0 (.loop L117_0)) (.seq (.reg true [qm 35 9,qm 36 9,qm 37
 8,qz 38 36 37,qm 39 38,qmT 40 2 39,qmT 41 0 39,qmT 42 9 39,⟨some 43,.ias 2 (.t 41) (.t 42),some (39, true)⟩,⟨some 44,.ld 2 true (.t 43),some (39, true)⟩,⟨some 45,.ld 2 true (.t 4),some (39, true)⟩,⟨some 46,.call (.t 40) [.t 44,.t 45],some (39,
 true)⟩,qqT 47 46 0 39,qp 48 39 47,qm 6 35,qm 7 48] []) .ret)))),[.tmp 6,.tmp 7]⟩
def c118 : CF := ⟨.seq (.reg false [⟨some 2,.box (.t 0),none⟩,⟨some 3,.box (.t 1),none⟩,qi 4 0] []) (.seq (.reg false [qa 5 0 2,ql 6 5,qa 7 0 3,ql 8 7,qk 9 114 6 8,qm 4 9] []) .ret),[.tmp 4]⟩
def c121 : CF := ⟨.seq (.reg false [qi 4 0,qf 5] []) (.seq (.reg false [qm 6 0,qm 7 1,⟨some 8,.build [.val (.string ⟨#[]⟩),.val (.int .i64 0)] [(0, 1, (.t 7))],none⟩,⟨some 9,.call (.c (.fn 153 [])) [.t 6,.t 8,.c (.fn 154 [])],none⟩,⟨some 10,.ext (.t
 9) 0,none⟩,⟨some 11,.ext (.t 9) 1,none⟩,qm 4 10,qm 5 11] []) .ret),[.tmp 4,.tmp 5]⟩
def L131_0 : CC := (.seq (.seq (.reg false [qm 15 9,qm 16 10,qz 17 15 16] []) (.cond (.t 17) .skip (.exit 0))) (.block 1 (.seq (.reg false [qm 18 9,qm 19 10,⟨some 20,.bin .add 3 false false (.t 18) (.t 19),none⟩,⟨some 21,.cv 3 238 (.t
 20),none⟩,⟨some 22,.bin .shr 238 false true (.t 21) (.c (.val (.int .u64 1))),none⟩,⟨some 23,.cv 238 3 (.t 22),none⟩,qm 11 23] []) (.seq (.reg true [qm 24 2,qm 25 0,qm 26 11,⟨some 27,.ias 8 (.t 25) (.t 26),none⟩,⟨some 28,.ld 8 true (.t
 27),none⟩,⟨some 29,.ld 8 true (.t 4),none⟩,⟨some 30,.call (.t 24) [.t 28,.t 29],none⟩,⟨some 31,.bin .lss 3 false true (.t 30) (.c (.val (.int .i64 0))),none⟩] []) (.cond (.t 31) (.reg false [qm 32 11,qs 33 32,qm 9 33] []) (.reg false [qm 34 11,qm
 10 34] []))))))
def c131 : CF := ⟨.seq (.reg false [⟨some 4,.box (.t 1),none⟩,qi 6 0,qf 7] []) (.seq (.reg false [qm 12 0,qe 13 12,qm 8 13] []) (.seq (.reg false [qm 14 8,qi 9 0,qm 10 14] []) (.seq (.block 0 (.loop L131_0)) (.seq (.reg true [qm 35 9,qm 36 9,qm 37
 8,qz 38 36 37,qm 39 38,qmT 40 2 39,qmT 41 0 39,qmT 42 9 39,⟨some 43,.ias 8 (.t 41) (.t 42),some (39, true)⟩,⟨some 44,.ld 8 true (.t 43),some (39, true)⟩,⟨some 45,.ld 8 true (.t 4),some (39, true)⟩,⟨some 46,.call (.t 40) [.t 44,.t 45],some (39,
 true)⟩,qqT 47 46 0 39,qp 48 39 47,qm 6 35,qm 7 48] []) .ret)))),[.tmp 6,.tmp 7]⟩
def c132 : CF := ⟨.seq (.reg false [⟨some 2,.box (.t 0),none⟩,⟨some 3,.box (.t 1),none⟩,qi 4 0] []) (.seq (.reg false [qa 5 0 2,ql 6 5,qa 7 0 3,ql 8 7,qk 9 161 6 8,qm 4 9] []) .ret),[.tmp 4]⟩
def c135 : CF := ⟨.seq (.reg false [⟨some 2,.box (.t 0),none⟩,⟨some 3,.box (.t 1),none⟩,qf 4] []) (.seq (.seq (.reg false [qa 5 2 2,ql 6 5,qa 7 2 3,ql 8 7,⟨some 9,.bin .neq 3 false false (.t 6) (.t 8),none⟩] []) (.cond (.t 9) (.seq (.reg false [qa
 10 2 2,ql 11 10,qa 12 2 3,ql 13 12,⟨some 14,.bin .gtr 3 false false (.t 11) (.t 13),none⟩,qm 4 14] []) .ret) .skip)) (.seq (.reg false [qa 15 0 2,ql 16 15,qa 17 0 3,ql 18 17,qk 19 114 16 18,⟨some 20,.bin .gtr 3 false true (.t 19) (.c (.val (.int
 .i64 0))),none⟩,qm 4 20] []) .ret)),[.tmp 4]⟩
def c137 : CF := ⟨.seq (.reg false [⟨some 2,.mv (.c (.val (.float .f64 0))),none⟩] []) (.seq (.seq (.reg false [qm 5 0,qc 6 163 5,⟨some 7,.bin .lss 97 false true (.t 6) (.c (.val (.float .f64 4607182418800017408))),none⟩] []) (.cond (.t 7) (.seq
 (.reg false [qm 8 0,⟨some 9,.call (.c (.fn 164 [])) [.c (.val (.float .f64 0)),.t 8],none⟩,qm 2 9] []) .ret) .skip)) (.seq (.reg false [qm 10 0,qc 11 165 10,qm 3 11] []) (.seq (.reg false [qm 12 3,⟨some 13,.bin .shr 40 false true (.t 12) (.c (.val
 (.int .u64 52))),none⟩,⟨some 14,.bin .and 238 false true (.t 13) (.c (.val (.int .u64 2047))),none⟩,⟨some 15,.bin .sub 238 false true (.t 14) (.c (.val (.int .u64 1023))),none⟩,qm 4 15] []) (.seq (.seq (.reg false [qm 16 4,⟨some 17,.bin .lss 238
 false true (.t 16) (.c (.val (.int .u64 52))),none⟩] []) (.cond (.t 17) (.reg false [qm 18 3,qm 19 4,⟨some 20,.bin .sub 238 true false (.c (.val (.int .u64 52))) (.t 19),none⟩,⟨some 21,.bin .shl 40 true false (.c (.val (.int .u64 1))) (.t
 20),none⟩,⟨some 22,.bin .sub 40 false true (.t 21) (.c (.val (.int .u64 1))),none⟩,⟨some 23,.bin .andNot 40 false false (.t 18) (.t 22),none⟩,qm 3 23] []) .skip)) (.seq (.reg false [qm 24 3,qc 25 166 24,qm 2 25] []) .ret))))),[.tmp 2]⟩
def c138 : CF := ⟨.seq (.reg false [⟨some 2,.mv (.c (.val (.complex .f64 0 0))),none⟩] []) (.seq (.reg false [qm 3 0,⟨some 4,.fun_ .real #[50] 97 [.t 3],none⟩,qm 5 0,⟨some 6,.fun_ .imag #[50] 97 [.t 5],none⟩,⟨some 7,.un .neg (.t 6),none⟩,⟨some
 8,.fun_ .complex #[97,97] 50 [.t 4,.t 7],none⟩,qm 2 8] []) .ret),[.tmp 2]⟩
def L139_0 : CC := (.seq (.seq (.reg false [qm 15 9,qm 16 10,qz 17 15 16] []) (.cond (.t 17) .skip (.exit 0))) (.block 1 (.seq (.reg false [qm 18 9,qm 19 10,⟨some 20,.bin .add 3 false false (.t 18) (.t 19),none⟩,⟨some 21,.cv 3 238 (.t
 20),none⟩,⟨some 22,.bin .shr 238 false true (.t 21) (.c (.val (.int .u64 1))),none⟩,⟨some 23,.cv 238 3 (.t 22),none⟩,qm 11 23] []) (.seq (.reg true [qm 24 2,qm 25 0,qm 26 11,⟨some 27,.ias 3 (.t 25) (.t 26),none⟩,⟨some 28,.ld 3 true (.t
 27),none⟩,⟨some 29,.ld 3 true (.t 4),none⟩,⟨some 30,.call (.t 24) [.t 28,.t 29],none⟩,⟨some 31,.bin .lss 3 false true (.t 30) (.c (.val (.int .i64 0))),none⟩] []) (.cond (.t 31) (.reg false [qm 32 11,qs 33 32,qm 9 33] []) (.reg false [qm 34 11,qm
 10 34] []))))))
def c139 : CF := ⟨.seq (.reg false [⟨some 4,.box (.t 1),none⟩,qi 6 0,qf 7] []) (.seq (.reg false [qm 12 0,qe 13 12,qm 8 13] []) (.seq (.reg false [qm 14 8,qi 9 0,qm 10 14] []) (.seq (.block 0 (.loop L139_0)) (.seq (.reg true [qm 35 9,qm 36 9,qm 37
 8,qz 38 36 37,qm 39 38,qmT 40 2 39,qmT 41 0 39,qmT 42 9 39,⟨some 43,.ias 3 (.t 41) (.t 42),some (39, true)⟩,⟨some 44,.ld 3 true (.t 43),some (39, true)⟩,⟨some 45,.ld 3 true (.t 4),some (39, true)⟩,⟨some 46,.call (.t 40) [.t 44,.t 45],some (39,
 true)⟩,qqT 47 46 0 39,qp 48 39 47,qm 6 35,qm 7 48] []) .ret)))),[.tmp 6,.tmp 7]⟩
def c140 : CF := ⟨.seq (.reg false [⟨some 2,.box (.t 0),none⟩,⟨some 3,.box (.t 1),none⟩,qi 4 0] []) (.seq (.reg false [qa 5 0 2,ql 6 5,qa 7 0 3,ql 8 7,qk 9 114 6 8,qm 4 9] []) .ret),[.tmp 4]⟩
def L143_0 : CC := (.seq (.reg false [qz 12 11 10] []) (.seq (.cond (.t 12) .skip (.exit 0)) (.seq (.block 1 (.seq (.reg false [qx 13 9 11,ql 14 13,qm 5 14] []) (.seq (.reg false [qm 15 3,qm 16 5,qe 17 16,⟨some 18,.bin .add 3 false false (.t 15) (.t
 17),none⟩,qm 3 18] []) (.seq (.reg false [qm 19 3,⟨some 20,.bin .lss 3 false true (.t 19) (.c (.val (.int .i64 0))),none⟩] []) (.cond (.t 20) (.reg false [⟨some 21,.bad,none⟩,⟨none,.bad,none⟩] []) .skip))))) (.reg false [qs 22 11,qm 11 22] []))))
def L143_1 : CC := (.seq (.reg false [qz 28 27 26] []) (.seq (.cond (.t 28) .skip (.exit 2)) (.seq (.block 3 (.seq (.reg false [qx 29 25 27,ql 30 29,qm 8 30] []) (.reg false [qm 31 6,qm 32 8,⟨some 33,.app 1 (.t 31) (.t 32),none⟩,qm 6 33] []))) (.reg
 false [qs 34 27,qm 27 34] []))))
def c143 : CF := ⟨.seq (.reg false [qj 2] []) (.seq (.reg false [qi 3 0] []) (.seq (.seq (.reg false [qm 9 0,qe 10 9,qi 11 0] []) (.block 0 (.loop L143_0))) (.seq (.reg false [qm 23 3,⟨some 24,.call (.c (.fn 168 [])) [.c (.im [] true),.t
 23],none⟩,qm 6 24] []) (.seq (.seq (.reg false [qm 25 0,qe 26 25,qi 27 0] []) (.block 2 (.loop L143_1))) (.seq (.reg false [qm 35 6,qm 2 35] []) .ret))))),[.tmp 2]⟩
def L145_0 : CC := (.seq (.seq (.reg false [qm 6 5,qm 7 1,qe 8 7,qz 9 6 8,qm 10 9,qmT 11 1 10,qmT 12 5 10,⟨some 13,.ias 1 (.t 11) (.t 12),some (10, true)⟩,qlT 14 13 10,qmT 15 0 10,⟨some 16,.bin .add 3 false true (.t 15) (.c (.val (.int .i64
 1))),some (10, true)⟩,⟨some 17,.bin .leq 3 false false (.t 14) (.t 16),some (10, true)⟩,qp 18 10 17] []) (.cond (.t 18) .skip (.exit 0))) (.seq (.block 1 (.reg false [qm 21 0,qm 22 1,qm 23 5,qx 24 22 23,ql 25 24,⟨some 26,.fun_ .max #[3,3] 3 [.t
 21,.t 25],none⟩,qm 0 26] [])) (.reg false [qm 19 5,qs 20 19,qm 5 20] [])))
def c145 : CF := ⟨.seq (.reg false [⟨some 4,.alloc [.val (.int .i64 0),.im [] true],none⟩] []) (.seq (.reg false [qi 5 0] []) (.seq (.block 0 (.loop L145_0)) (.seq (.reg false [qm 27 0,qm 28 1,qm 29 5,⟨some 30,.slc 1 (.t 28) (some (.t 29)) none
 none,none⟩,qc 31 106 30,⟨some 32,.build [.val (.int .i64 0),.im [] true] [(0, 1, (.t 27)),(1, 1, (.t 31))],none⟩,qw 2 4 32] []) .ret))),[.cell 4 2 true]⟩
def L146_0 : CC := (.seq (.seq (.reg false [qm 29 5,qm 30 4,qe 31 30,qz 32 29 31] []) (.cond (.t 32) .skip (.exit 2))) (.seq (.block 3 (.seq (.reg true [qm 35 4,qm 36 5,qx 37 35 36,ql 38 37,qm 39 4,qm 40 5,⟨some 41,.bin .sub 3 false true (.t 40) (.c
 (.val (.int .i64 1))),none⟩,qx 42 39 41,ql 43 42,⟨some 44,.bin .neq 3 false false (.t 38) (.t 43),none⟩] []) (.cond (.t 44) (.seq (.reg false [qm 45 0,qm 46 3,qm 47 4,qm 48 5,qx 49 47 48,ql 50 49,qx 51 45 46,qw 1 51 50] []) (.reg false [qm 52 3,qs
 53 52,qm 3 53] [])) .skip))) (.reg false [qm 33 5,qs 34 33,qm 5 34] [])))
def L146_1 : CC := (.seq (.seq (.reg false [qm 10 3,qm 11 0,qe 12 11,qz 13 10 12] []) (.cond (.t 13) .skip (.exit 0))) (.seq (.block 1 (.seq (.reg true [qm 16 0,qm 17 3,qx 18 16 17,ql 19 18,qm 20 0,qm 21 3,⟨some 22,.bin .sub 3 false true (.t 21) (.c
 (.val (.int .i64 1))),none⟩,qx 23 20 22,ql 24 23,⟨some 25,.bin .eql 3 false false (.t 19) (.t 24),none⟩] []) (.cond (.t 25) (.seq (.reg false [qm 26 0,qm 27 3,⟨some 28,.slc 1 (.t 26) (some (.t 27)) none none,none⟩,qm 4 28] []) (.seq (.seq (.reg
 false [qi 5 1] []) (.block 2 (.loop L146_0))) (.seq (.reg false [qm 54 0,qm 55 3,⟨some 56,.slc 1 (.t 54) (some (.t 55)) none none,none⟩,⟨none,.clr [.val (.int .i64 0)] (.t 56),none⟩] []) (.seq (.reg false [qm 57 0,qm 58 3,⟨some 59,.slc 1 (.t 57)
 none (some (.t 58)) none,none⟩,qm 2 59] []) .ret)))) .skip))) (.reg false [qm 14 3,qs 15 14,qm 3 15] [])))
def c146 : CF := ⟨.seq (.reg false [qj 2] []) (.seq (.seq (.reg false [qm 6 0,qe 7 6,⟨some 8,.bin .lss 3 false true (.t 7) (.c (.val (.int .i64 2))),none⟩] []) (.cond (.t 8) (.seq (.reg false [qm 9 0,qm 2 9] []) .ret) .skip)) (.seq (.seq (.reg false
 [qi 3 1] []) (.block 0 (.loop L146_1))) (.seq (.reg false [qm 60 0,qm 2 60] []) .ret))),[.tmp 2]⟩
def c147 : CF := ⟨.seq (.reg false [qf 4] []) (.seq (.reg false [qm 5 0,⟨some 6,.len true (.t 5),none⟩,qm 7 1,⟨some 8,.len true (.t 7),none⟩,⟨some 9,.bin .geq 3 false false (.t 6) (.t 8),none⟩,qm 10 9,qmT 11 0 10,qmT 12 1 10,⟨some 13,.len true (.t
 12),some (10, true)⟩,⟨some 14,.slc 0 (.t 11) none (some (.t 13)) none,some (10, true)⟩,qmT 15 1 10,⟨some 16,.bin .eql 9 false false (.t 14) (.t 15),some (10, true)⟩,qp 17 10 16,qm 4 17] []) .ret),[.tmp 4]⟩
def L153_0 : CC := (.seq (.seq (.reg false [qm 15 9,qm 16 10,qz 17 15 16] []) (.cond (.t 17) .skip (.exit 0))) (.block 1 (.seq (.reg false [qm 18 9,qm 19 10,⟨some 20,.bin .add 3 false false (.t 18) (.t 19),none⟩,⟨some 21,.cv 3 238 (.t
 20),none⟩,⟨some 22,.bin .shr 238 false true (.t 21) (.c (.val (.int .u64 1))),none⟩,⟨some 23,.cv 238 3 (.t 22),none⟩,qm 11 23] []) (.seq (.reg true [qm 24 2,qm 25 0,qm 26 11,⟨some 27,.ias 2 (.t 25) (.t 26),none⟩,⟨some 28,.ld 2 true (.t
 27),none⟩,⟨some 29,.ld 2 true (.t 4),none⟩,⟨some 30,.call (.t 24) [.t 28,.t 29],none⟩,⟨some 31,.bin .lss 3 false true (.t 30) (.c (.val (.int .i64 0))),none⟩] []) (.cond (.t 31) (.reg false [qm 32 11,qs 33 32,qm 9 33] []) (.reg false [qm 34 11,qm
 10 34] []))))))
def c153 : CF := ⟨.seq (.reg false [⟨some 4,.box (.t 1),none⟩,qi 6 0,qf 7] []) (.seq (.reg false [qm 12 0,qe 13 12,qm 8 13] []) (.seq (.reg false [qm 14 8,qi 9 0,qm 10 14] []) (.seq (.block 0 (.loop L153_0)) (.seq (.reg true [qm 35 9,qm 36 9,qm 37
 8,qz 38 36 37,qm 39 38,qmT 40 2 39,qmT 41 0 39,qmT 42 9 39,⟨some 43,.ias 2 (.t 41) (.t 42),some (39, true)⟩,⟨some 44,.ld 2 true (.t 43),some (39, true)⟩,⟨some 45,.ld 2 true (.t 4),some (39, true)⟩,⟨some 46,.call (.t 40) [.t 44,.t 45],some (39,
 true)⟩,qqT 47 46 0 39,qp 48 39 47,qm 6 35,qm 7 48] []) .ret)))),[.tmp 6,.tmp 7]⟩
def c154 : CF := ⟨.seq (.reg false [⟨some 2,.box (.t 0),none⟩,⟨some 3,.box (.t 1),none⟩,qi 4 0] []) (.seq (.reg false [qa 5 0 2,ql 6 5,qa 7 0 3,ql 8 7,qk 9 114 6 8,qm 4 9] []) .ret),[.tmp 4]⟩
def c161 : CF := ⟨.seq (.reg false [qi 4 0] []) (.seq (.reg false [qm 7 0,qc 8 183 7,qm 5 8] []) (.seq (.reg false [qm 9 1,qc 10 183 9,qm 6 10] []) (.seq (.seq (.reg false [qm 11 5] []) (.cond (.t 11) (.seq (.seq (.reg false [qm 12 6] []) (.cond (.t
 12) (.seq (.reg false [qi 4 0] []) .ret) .skip)) (.seq (.reg false [⟨some 4,.mv (.c (.val (.int .i64 (-1)))),none⟩] []) .ret)) .skip)) (.seq (.seq (.reg false [qm 13 6] []) (.cond (.t 13) (.seq (.reg false [qi 4 1] []) .ret) .skip)) (.seq (.seq
 (.reg false [qm 14 0,qm 15 1,qz 16 14 15] []) (.cond (.t 16) (.seq (.reg false [⟨some 4,.mv (.c (.val (.int .i64 (-1)))),none⟩] []) .ret) .skip)) (.seq (.seq (.reg false [qm 17 0,qm 18 1,⟨some 19,.bin .gtr 3 false false (.t 17) (.t 18),none⟩] [])
 (.cond (.t 19) (.seq (.reg false [qi 4 1] []) .ret) .skip)) (.seq (.reg false [qi 4 0] []) .ret))))))),[.tmp 4]⟩
def c163 : CF := ⟨.seq (.reg false [⟨some 2,.mv (.c (.val (.float .f64 0))),none⟩] []) (.seq (.reg false [qm 3 0,qc 4 165 3,⟨some 5,.bin .andNot 40 false true (.t 4) (.c (.val (.int .u64 9223372036854775808))),none⟩,qc 6 166 5,qm 2 6] []) .ret),[.tmp 2]⟩
def c164 : CF := ⟨.seq (.reg false [⟨some 4,.mv (.c (.val (.float .f64 0))),none⟩] []) (.seq (.reg false [qm 5 0,qc 6 165 5,⟨some 7,.bin .andNot 40 false true (.t 6) (.c (.val (.int .u64 9223372036854775808))),none⟩,qm 8 1,qc 9 165 8,⟨some 10,.bin
 .and 40 false true (.t 9) (.c (.val (.int .u64 9223372036854775808))),none⟩,⟨some 11,.bin .or 40 false false (.t 7) (.t 10),none⟩,qc 12 166 11,qm 4 12] []) .ret),[.tmp 4]⟩
def c183 : CF := ⟨.seq (.reg false [qf 2] []) (.seq (.reg false [qm 3 0,qm 4 0,⟨some 5,.bin .neq 3 false false (.t 3) (.t 4),none⟩,qm 2 5] []) .ret),[.tmp 2]⟩
def tab (f : FuncId) : Option CF := (cond (Nat.blt f 78)  (cond (Nat.blt f 33)   (cond (Nat.blt f 13)    (cond (Nat.blt f 8)     (cond (Nat.blt f 6)      (cond (Nat.blt f 5)       (cond (Nat.beq f 3) (some c3) none)       (cond (Nat.beq f 5) (some
 c5) none))      (cond (Nat.blt f 7)       (cond (Nat.beq f 6) (some c6) none)       (cond (Nat.beq f 7) (some c7) none)))     (cond (Nat.blt f 10)      (cond (Nat.blt f 9)       (cond (Nat.beq f 8) (some c8) none)       (cond (Nat.beq f 9) (some
 c9) none))      (cond (Nat.blt f 11)       (cond (Nat.beq f 10) (some c10) none)       (cond (Nat.blt f 12)        (cond (Nat.beq f 11) (some c11) none)        (cond (Nat.beq f 12) (some c12) none)))))    (cond (Nat.blt f 28)     (cond (Nat.blt f
 26)      (cond (Nat.blt f 15)       (cond (Nat.beq f 13) (some c13) none)       (cond (Nat.beq f 15) (some c15) none))      (cond (Nat.blt f 27)       (cond (Nat.beq f 26) (some c26) none)       (cond (Nat.beq f 27) (some c27) none)))     (cond
 (Nat.blt f 30)      (cond (Nat.blt f 29)       (cond (Nat.beq f 28) (some c28) none)       (cond (Nat.beq f 29) (some c29) none))      (cond (Nat.blt f 31)       (cond (Nat.beq f 30) (some c30) none)       (cond (Nat.blt f 32)        (cond (Nat.beq
 f 31) (some c31) none)        (cond (Nat.beq f 32) (some c32) none))))))   (cond (Nat.blt f 65)    (cond (Nat.blt f 37)     (cond (Nat.blt f 35)      (cond (Nat.blt f 34)       (cond (Nat.beq f 33) (some c33) none)       (cond (Nat.beq f 34) (some
 c34) none))      (cond (Nat.blt f 36)       (cond (Nat.beq f 35) (some c35) none)       (cond (Nat.beq f 36) (some c36) none)))     (cond (Nat.blt f 39)      (cond (Nat.blt f 38)       (cond (Nat.beq f 37) (some c37) none)       (cond (Nat.beq f
 38) (some c38) none))      (cond (Nat.blt f 46)       (cond (Nat.beq f 39) (some c39) none)       (cond (Nat.blt f 64)        (cond (Nat.beq f 46) (some c46) none)        (cond (Nat.beq f 64) (some c64) none)))))    (cond (Nat.blt f 70)     (cond
 (Nat.blt f 67)      (cond (Nat.blt f 66)       (cond (Nat.beq f 65) (some c65) none)       (cond (Nat.beq f 66) (some c66) none))      (cond (Nat.blt f 68)       (cond (Nat.beq f 67) (some c67) none)       (cond (Nat.blt f 69)        (cond (Nat.beq
 f 68) (some c68) none)        (cond (Nat.beq f 69) (some c69) none))))     (cond (Nat.blt f 72)      (cond (Nat.blt f 71)       (cond (Nat.beq f 70) (some c70) none)       (cond (Nat.beq f 71) (some c71) none))      (cond (Nat.blt f 73)       (cond
 (Nat.beq f 72) (some c72) none)       (cond (Nat.blt f 74)        (cond (Nat.beq f 73) (some c73) none)        (cond (Nat.beq f 74) (some c74) none)))))))  (cond (Nat.blt f 118)   (cond (Nat.blt f 103)    (cond (Nat.blt f 83)     (cond (Nat.blt f
 80)      (cond (Nat.blt f 79)       (cond (Nat.beq f 78) (some c78) none)       (cond (Nat.beq f 79) (some c79) none))      (cond (Nat.blt f 81)       (cond (Nat.beq f 80) (some c80) none)       (cond (Nat.beq f 81) (some c81) none)))     (cond
 (Nat.blt f 99)      (cond (Nat.blt f 92)       (cond (Nat.beq f 83) (some c83) none)       (cond (Nat.beq f 92) (some c92) none))      (cond (Nat.blt f 100)       (cond (Nat.beq f 99) (some c99) none)       (cond (Nat.blt f 102)        (cond
 (Nat.beq f 100) (some c100) none)        (cond (Nat.beq f 102) (some c102) none)))))    (cond (Nat.blt f 111)     (cond (Nat.blt f 107)      (cond (Nat.blt f 104)       (cond (Nat.beq f 103) (some c103) none)       (cond (Nat.beq f 104) (some c104)
 none))      (cond (Nat.blt f 108)       (cond (Nat.beq f 107) (some c107) none)       (cond (Nat.blt f 110)        (cond (Nat.beq f 108) (some c108) none)        (cond (Nat.beq f 110) (some c110) none))))     (cond (Nat.blt f 114)      (cond
 (Nat.blt f 112)       (cond (Nat.beq f 111) (some c111) none)       (cond (Nat.beq f 112) (some c112) none))      (cond (Nat.blt f 115)       (cond (Nat.beq f 114) (some c114) none)       (cond (Nat.blt f 117)        (cond (Nat.beq f 115) (some
 c115) none)        (cond (Nat.beq f 117) (some c117) none))))))   (cond (Nat.blt f 143)    (cond (Nat.blt f 135)     (cond (Nat.blt f 131)      (cond (Nat.blt f 121)       (cond (Nat.beq f 118) (some c118) none)       (cond (Nat.beq f 121) (some
 c121) none))      (cond (Nat.blt f 132)       (cond (Nat.beq f 131) (some c131) none)       (cond (Nat.beq f 132) (some c132) none)))     (cond (Nat.blt f 138)      (cond (Nat.blt f 137)       (cond (Nat.beq f 135) (some c135) none)       (cond
 (Nat.beq f 137) (some c137) none))      (cond (Nat.blt f 139)       (cond (Nat.beq f 138) (some c138) none)       (cond (Nat.blt f 140)        (cond (Nat.beq f 139) (some c139) none)        (cond (Nat.beq f 140) (some c140) none)))))    (cond
 (Nat.blt f 154)     (cond (Nat.blt f 146)      (cond (Nat.blt f 145)       (cond (Nat.beq f 143) (some c143) none)       (cond (Nat.beq f 145) (some c145) none))      (cond (Nat.blt f 147)       (cond (Nat.beq f 146) (some c146) none)       (cond
 (Nat.blt f 153)        (cond (Nat.beq f 147) (some c147) none)        (cond (Nat.beq f 153) (some c153) none))))     (cond (Nat.blt f 163)      (cond (Nat.blt f 161)       (cond (Nat.beq f 154) (some c154) none)       (cond (Nat.beq f 161) (some
 c161) none))      (cond (Nat.blt f 164)       (cond (Nat.beq f 163) (some c163) none)       (cond (Nat.blt f 183)        (cond (Nat.beq f 164) (some c164) none)        (cond (Nat.beq f 183) (some c183) none))))))))
end Go.Evl.Zone

namespace Go.Evl.Zone
open Go Go.Evl
def splitL (c : UInt8) : List UInt8 → List (List UInt8)
  | [] => [[]]
  | b :: l => if b = c then [] :: splitL c l else match splitL c l with
    | x :: xs => (b :: x) :: xs
    | [] => [[b]]
def joinL (sep : List UInt8) : List (List UInt8) → List UInt8
  | [] => []
  | [x] => x
  | x :: y :: r => x ++ sep ++ joinL sep (y :: r)
def digL : Nat → Nat → List UInt8 → List UInt8
  | 0, _, acc => acc
  | f + 1, n, acc => if n < 10 then UInt8.ofNat (48 + n) :: acc else digL f (n / 10) (UInt8.ofNat (48 + n % 10) :: acc)
def itoaL (n : Int) : List UInt8 := if n < 0 then 45 :: digL 20 n.natAbs [] else digL 20 n.natAbs []
def strOf (l : List UInt8) : PV := .val (.string ⟨l.toArray⟩)
def strs : List (List PV) → Option (List (List UInt8))
  | [] => some []
  | [.val (.string s)] :: r => (strs r).map fun l => s.data.toList :: l
  | _ :: _ => none
def pSplit (args : List PV) (H : Heap) : Option ORes :=
  match args with
  | [.val (.string s), .val (.string p)] => match p.data.toList with
    | [c] => if s.size < 4294967281 then some ⟨.im ((splitL c s.data.toList).map fun x => [strOf x]) false, H, [], some []⟩ else none
    | _ => none
  | _ => none
def pJoin (args : List PV) (H : Heap) : Option ORes :=
  match args with
  | [.val _, _] => none
  | [x, .val (.string p)] => match elems H 1 x with
    | some (xs, is) => match strs xs with
      | some l => if l.length ≤ 140737488355328 ∧ (joinL p.data.toList l).length ≤ 140737488355328 then some ⟨strOf (joinL p.data.toList l), H, [], some is⟩ else none
      | none => none
    | none => none
  | _ => none
def pItoa (args : List PV) (H : Heap) : Option ORes :=
  match args with
  | [.val (.int .i64 n)] => if -9223372036854775808 ≤ n ∧ n ≤ 9223372036854775807 then some ⟨strOf (itoaL n), H, [], some []⟩ else none
  | _ => none
def pAtoi (args : List PV) (H : Heap) : Option ORes :=
  match args with
  | [.val (.string s)] => if s.size ≤ 281474976710656 then
      match Lib.atoiAll s.data.toList with
      | .ok v => some ⟨.tup [.val (.int .i64 v), .val .nilIface], H, [], some []⟩
      | .range => some ⟨.tup [.val (.int .i64 (Lib.atoiSat s.data.toList)), .ifc], H, [], some []⟩
      | _ => some ⟨.tup [.val (.int .i64 0), .ifc], H, [], some []⟩
    else none
  | _ => none
def pTrunc (args : List PV) (H : Heap) : Option ORes :=
  match args with
  | [.val (.float .f64 b)] => match FloatKind.f64.decode b with
    | .nan _ _ => none
    | d => some ⟨.val (.float .f64 (FloatKind.f64.encode (d.integral .zero))), H, [], some []⟩
  | _ => none
def pCompare (args : List PV) (H : Heap) : Option ORes :=
  match args with
  | [.val (.string a), .val (.string b)] => some ⟨.val (.int .i64 (Lib.compareBytes a.data.toList b.data.toList)), H, [], some []⟩
  | _ => none
def isStr : PV → Bool
  | .val (.string _) => true
  | _ => false
def pClone (k : Nat) (args : List PV) (H : Heap) : Option ORes :=
  match args with
  | [x] => if isStr x then none else match elems H k x with
    | some (ys, is) => if ys.length = 0 then some ⟨.im [] true, H.grow 1, [], some is⟩
      else if ys.length ≤ most then some ⟨.sl H.n k ys.length 0 ys.length, (H.grow 1).put H.n (.row k ys true), [H.n], some is⟩ else none
    | none => none
  | _ => none
def pCloneF (k : Nat) (args : List PV) (H : Heap) : Option ORes :=
  match args with
  | [.im xs fl] => if allLen k xs ∧ xs.length ≤ most then match plainss xs with
      | some ys => some ⟨.im ys false, H, [], some []⟩
      | none => none
    else none
  | _ => none
def pGrow (k : Nat) (args : List PV) (H : Heap) : Option ORes :=
  match args with
  | [.im [] true, .val (.int .i64 n)] => if n = 0 then some ⟨.im [] true, H.grow 1, [], some []⟩
    else if 0 < n ∧ n ≤ most then some ⟨.sl H.n k 0 0 0, (H.grow 1).put H.n (.row k [] true), [H.n], some []⟩ else none
  | _ => none
def pIns (k : Nat) (args : List PV) (H : Heap) : Option ORes :=
  match args with
  | [x, .val (.int .i64 i), .im [y] true] => if y.length = k ∧ 0 < k then
      match x with
      | .im [] true => if i = 0 then some ⟨.sl H.n k 1 0 1, (H.grow 1).put H.n (.row k [y] true), [H.n], none⟩ else none
      | .sl r k1 g 0 n => match H.at_ r with
        | .row k4 xs true => if k = k1 ∧ k = k4 ∧ n = g ∧ xs.length = n ∧ 0 ≤ i ∧ i ≤ n ∧ n + 1 ≤ most then
            some ⟨.sl r k (n + 1) 0 (n + 1), (H.grow 1).put r (.row k (xs.take i.toNat ++ y :: xs.drop i.toNat) true), [r], none⟩ else none
        | _ => none
      | _ => none
    else none
  | _ => none
def insB (a : List UInt8) : List (List UInt8) → List (List UInt8)
  | [] => [a]
  | b :: l => if Lib.compareBytes b a < 0 then b :: insB a l else a :: b :: l
def sortB : List (List UInt8) → List (List UInt8)
  | [] => []
  | a :: l => insB a (sortB l)
def insZ (a : Int) : List Int → List Int
  | [] => [a]
  | b :: l => if b < a then b :: insZ a l else a :: b :: l
def sortZ : List Int → List Int
  | [] => []
  | a :: l => insZ a (sortZ l)
def ints : List (List PV) → Option (List Int)
  | [] => some []
  | [.val (.int .i64 n)] :: r => (ints r).map fun l => n :: l
  | _ :: _ => none
def sortRow (f : List (List PV) → Option (List (List PV))) (x : PV) (H : Heap) : Option ORes :=
  match x with
  | .im [] _ => some ⟨uv, H.grow 1, [], none⟩
  | .sl r 1 g 0 n => match H.at_ r with
    | .row 1 xs true => if g = n ∧ xs.length = n ∧ n ≤ most then match f xs with
        | some ys => some ⟨uv, (H.grow 1).put r (.row 1 ys true), [r], none⟩
        | none => none
      else none
    | _ => none
  | _ => none
def pSortS (f : FuncId) (args : List PV) (H : Heap) : Option ORes :=
  match args with
  | [x, .fn g []] => if g = f then sortRow (fun xs => (strs xs).map fun l => (sortB l).map fun s => [strOf s]) x H else none
  | _ => none
def pSortI (args : List PV) (H : Heap) : Option ORes :=
  match args with
  | [x] => sortRow (fun xs => (ints xs).map fun l => (sortZ l).map fun n => [.val (.int .i64 n)]) x H
  | _ => none
def frozF : FuncId → FuncId → Bool
  | 35, 75 => true
  | 35, 76 => true
  | 35, 47 => true
  | 35, 77 => true
  | 18, 47 => true
  | 70, 106 => true
  | 145, 106 => true
  | 79, 75 => true
  | 37, 75 => true
  | _, _ => false
def prim (c : FuncId) : FuncId → Option (List PV → Heap → Option ORes)
  | 136 => some pTrunc
  | 151 => some pCompare
  | 47 => cond (frozF c 47) (some (pCloneF 3)) (some (pClone 3))
  | 75 => cond (frozF c 75) (some (pCloneF 2)) (some (pClone 2))
  | 76 => cond (frozF c 76) (some (pCloneF 8)) (some (pClone 8))
  | 77 => cond (frozF c 77) (some (pCloneF 1)) (some (pClone 1))
  | 105 => some (pClone 3)
  | 116 => some (pClone 2)
  | 106 => cond (frozF c 106) (some (pCloneF 1)) (some (pClone 1))
  | 101 => some (pIns 8)
  | 109 => some (pIns 3)
  | 122 => some (pIns 2)
  | 82 => some (pIns 2)
  | 113 => some (pSortS 114)
  | 144 => some pSortI
  | 148 => some (pGrow 1)
  | 168 => some (pGrow 1)
  | _ => none
def inlF : FuncId → Bool
  | 115 => true
  | 146 => true
  | _ => false
def keepF : FuncId → FuncId → Bool
  | 123, 157 => true
  | 125, 158 => true
  | 42, 89 => true
  | _, 70 => true
  | _, 71 => true
  | _, 79 => true
  | _, 112 => true
  | _, 143 => true
  | _, 130 => true
  | _, _ => false
def howF (f g : FuncId) : How := if inlF g then .inl else if keepF f g then .keep else .own
def env (P : Program) : Env := ⟨P, howF, tab, prim⟩
end Go.Evl.Zone
