/- The evaluator's texts DTab to ZG7, joined. -/
import Derived.Test.YtjpbnkiifhfofaaGreatEv2
import Derived.Lib.AtoiAll
import Derived.Lib.Bytealg
import Derived.Laws.BitsLemmas
set_option maxHeartbeats 1000000
set_option linter.all false
set_option linter.deprecated false
set_option linter.unusedVariables false
set_option linter.unusedSimpArgs false
set_option linter.unnecessarySimpa false
set_option maxRecDepth 100000
namespace Go.Evl.Zone
open Go Go.Evl
@[reducible] def qm (d:Nat) (a:Nat):CI:=⟨some d,.mv (.t a),none⟩
@[reducible] def qmT (d:Nat) (a:Nat) (g:Nat):CI:=⟨some d,.mv (.t a),some (g,true)⟩
@[reducible] def qmF (d:Nat) (a:Nat) (g:Nat):CI:=⟨some d,.mv (.t a),some (g,false)⟩
@[reducible] def ql (d:Nat) (a:Nat):CI:=⟨some d,.ld 1 false (.t a),none⟩
@[reducible] def qlT (d:Nat) (a:Nat) (g:Nat):CI:=⟨some d,.ld 1 false (.t a),some (g,true)⟩
@[reducible] def qlF (d:Nat) (a:Nat) (g:Nat):CI:=⟨some d,.ld 1 false (.t a),some (g,false)⟩
@[reducible] def qa (d:Nat) (a:Nat) (b:Nat):CI:=⟨some d,.fad a (.t b),none⟩
@[reducible] def qaT (d:Nat) (a:Nat) (b:Nat) (g:Nat):CI:=⟨some d,.fad a (.t b),some (g,true)⟩
@[reducible] def qaF (d:Nat) (a:Nat) (b:Nat) (g:Nat):CI:=⟨some d,.fad a (.t b),some (g,false)⟩
@[reducible] def qf (d:Nat):CI:=⟨some d,.mv (.c (.val (.bool false))),none⟩
@[reducible] def qt (d:Nat):CI:=⟨some d,.mv (.c (.val (.bool true))),none⟩
@[reducible] def qi (d:Nat) (a:Int):CI:=⟨some d,.mv (.c (.val (.int .i64 a))),none⟩
@[reducible] def qp (d:Nat) (a:Nat) (b:Nat):CI:=⟨some d,.pick (.t a) (.t b) (.c (.val (.bool false))),none⟩
@[reducible] def qpF (d:Nat) (a:Nat) (b:Nat) (g:Nat):CI:=⟨some d,.pick (.t a) (.t b) (.c (.val (.bool false))),some (g,false)⟩
@[reducible] def qo (d:Nat) (a:Nat) (b:Nat):CI:=⟨some d,.pick (.t a) (.c (.val (.bool true))) (.t b),none⟩
@[reducible] def qn (d:Nat) (a:Nat):CI:=⟨some d,.nck (.t a),none⟩
@[reducible] def qc (d:Nat) (a:Nat) (b:Nat):CI:=⟨some d,.call (.c (.fn a [])) [.t b],none⟩
@[reducible] def qcF (d:Nat) (a:Nat) (b:Nat) (g:Nat):CI:=⟨some d,.call (.c (.fn a [])) [.t b],some (g,false)⟩
@[reducible] def qe (d:Nat) (a:Nat):CI:=⟨some d,.len false (.t a),none⟩
@[reducible] def qeF (d:Nat) (a:Nat) (g:Nat):CI:=⟨some d,.len false (.t a),some (g,false)⟩
@[reducible] def qs (d:Nat) (a:Nat):CI:=⟨some d,.bin .add 3 false true (.t a) (.c (.val (.int .i64 1))),none⟩
@[reducible] def qq (d:Nat) (a:Nat) (b:Int):CI:=⟨some d,.bin .eql 3 false true (.t a) (.c (.val (.int .i64 b))),none⟩
@[reducible] def qqT (d:Nat) (a:Nat) (b:Int) (g:Nat):CI:=⟨some d,.bin .eql 3 false true (.t a) (.c (.val (.int .i64 b))),some (g,true)⟩
@[reducible] def qz (d:Nat) (a:Nat) (b:Nat):CI:=⟨some d,.bin .lss 3 false false (.t a) (.t b),none⟩
@[reducible] def qx (d:Nat) (a:Nat) (b:Nat):CI:=⟨some d,.ias 1 (.t a) (.t b),none⟩
@[reducible] def qxT (d:Nat) (a:Nat) (b:Nat) (g:Nat):CI:=⟨some d,.ias 1 (.t a) (.t b),some (g,true)⟩
@[reducible] def qb (d:Nat) (a:Nat):CI:=⟨some d,.un .not (.t a),none⟩
@[reducible] def qbT (d:Nat) (a:Nat) (g:Nat):CI:=⟨some d,.un .not (.t a),some (g,true)⟩
@[reducible] def qbF (d:Nat) (a:Nat) (g:Nat):CI:=⟨some d,.un .not (.t a),some (g,false)⟩
@[reducible] def qj (d:Nat):CI:=⟨some d,.mv (.c (.im [] true)),none⟩
@[reducible] def qk (d:Nat) (a:Nat) (b:Nat) (c:Nat):CI:=⟨some d,.call (.c (.fn a [])) [.t b,.t c],none⟩
@[reducible] def qkT (d:Nat) (a:Nat) (b:Nat) (c:Nat) (g:Nat):CI:=⟨some d,.call (.c (.fn a [])) [.t b,.t c],some (g,true)⟩
@[reducible] def qkF (d:Nat) (a:Nat) (b:Nat) (c:Nat) (g:Nat):CI:=⟨some d,.call (.c (.fn a [])) [.t b,.t c],some (g,false)⟩
@[reducible] def qL (d:Nat) (a:Nat) (b:Nat):CI:=⟨some d,.ld a true (.t b),none⟩
@[reducible] def qLT (d:Nat) (a:Nat) (b:Nat) (g:Nat):CI:=⟨some d,.ld a true (.t b),some (g,true)⟩
@[reducible] def qLF (d:Nat) (a:Nat) (b:Nat) (g:Nat):CI:=⟨some d,.ld a true (.t b),some (g,false)⟩
@[reducible] def qX (d:Nat) (a:Nat) (b:Nat) (c:Nat):CI:=⟨some d,.ias a (.t b) (.t c),none⟩
@[reducible] def qXT (d:Nat) (a:Nat) (b:Nat) (c:Nat) (g:Nat):CI:=⟨some d,.ias a (.t b) (.t c),some (g,true)⟩
@[reducible] def qXF (d:Nat) (a:Nat) (b:Nat) (c:Nat) (g:Nat):CI:=⟨some d,.ias a (.t b) (.t c),some (g,false)⟩
@[reducible] def qE (d:Nat) (a:Nat) (b:Nat):CI:=⟨some d,.ext (.t a) b,none⟩
@[reducible] def qB (d:Nat) (a:Nat):CI:=⟨some d,.box (.t a),none⟩
@[reducible] def qS (d:Nat) (a:Nat) (b:Int):CI:=⟨some d,.bin .sub 3 false true (.t a) (.c (.val (.int .i64 b))),none⟩
@[reducible] def qST (d:Nat) (a:Nat) (b:Int) (g:Nat):CI:=⟨some d,.bin .sub 3 false true (.t a) (.c (.val (.int .i64 b))),some (g,true)⟩
@[reducible] def qK (d:Nat) (a:Nat) (b:Nat) (c:Nat) (e:Nat):CI:=⟨some d,.call (.c (.fn a [])) [.t b,.t c,.t e],none⟩
@[reducible] def qA (d:Nat) (a:Nat) (b:Nat) (c:Nat):CI:=⟨some d,.app a (.t b) (.t c),none⟩
@[reducible] def qU (d:Nat) (a:Nat) (b:Int):CI:=⟨some d,.bin .lss 3 false true (.t a) (.c (.val (.int .i64 b))),none⟩
@[reducible] def qUT (d:Nat) (a:Nat) (b:Int) (g:Nat):CI:=⟨some d,.bin .lss 3 false true (.t a) (.c (.val (.int .i64 b))),some (g,true)⟩
@[reducible] def qN (d:Nat) (a:Nat) (b:Nat) (c:Nat):CI:=⟨some d,.bin .neq a false false (.t b) (.t c),none⟩
@[reducible] def qNF (d:Nat) (a:Nat) (b:Nat) (c:Nat) (g:Nat):CI:=⟨some d,.bin .neq a false false (.t b) (.t c),some (g,false)⟩
@[reducible] def qG (d:Nat) (a:Nat) (b:Int):CI:=⟨some d,.bin .gtr 3 false true (.t a) (.c (.val (.int .i64 b))),none⟩
@[reducible] def qGT (d:Nat) (a:Nat) (b:Int) (g:Nat):CI:=⟨some d,.bin .gtr 3 false true (.t a) (.c (.val (.int .i64 b))),some (g,true)⟩
@[reducible] def qGF (d:Nat) (a:Nat) (b:Int) (g:Nat):CI:=⟨some d,.bin .gtr 3 false true (.t a) (.c (.val (.int .i64 b))),some (g,false)⟩
@[reducible] def qM (d:Nat) (a:Nat) (b:Nat) (c:Int):CI:=⟨some d,.bin .neq a false true (.t b) (.c (.val (.int .i64 c))),none⟩
@[reducible] def qQ (d:Nat) (a:Nat) (b:Nat) (c:Nat):CI:=⟨some d,.bin .eql a false false (.t b) (.t c),none⟩
@[reducible] def qQT (d:Nat) (a:Nat) (b:Nat) (c:Nat) (g:Nat):CI:=⟨some d,.bin .eql a false false (.t b) (.t c),some (g,true)⟩
@[reducible] def qV (d:Nat) (a:Nat) (b:Nat) (c:Nat):CI:=⟨some d,.cv a b (.t c),none⟩
@[reducible] def qD (d:Nat) (a:Nat) (b:Nat) (c:Nat):CI:=⟨some d,.bin .add a false false (.t b) (.t c),none⟩
@[reducible] def z13:List PV:=[.val (.string ⟨#[]⟩),.val (.int .i64 0),.val (.int .i64 0),.val (.int .i64 0),.val (.int .i64 0),.im [] true,.im [] true,.im [] true,.im [] true,.im [] true,.im [] true,.im [] true,.im [] true]
@[reducible] def z8:List PV:=[.val (.int .i64 0),.val (.string ⟨#[]⟩),.val (.int .i64 0),.val (.int .i64 0),.val (.bool false),.val (.complex .f64 0 0),.val (.string ⟨#[]⟩),.val (.bool false)]
@[reducible] def z9:List PV:=[.val (.int .i64 0),.val (.string ⟨#[]⟩),.val (.int .i64 0),.val (.int .i64 0),.val (.bool false),.val (.int .i64 0),.val (.int .i64 0),.val (.string ⟨#[]⟩),.val (.bool false)]
@[reducible] def sR (l:List CI) (b:CC):CC:=.seq (.reg false l []) b
@[reducible] def qw (n a b:Nat):CI:=⟨none,.st n (.t a) (.t b),none⟩
def L3_0:CC:=(.seq (sR [qm 13 4,qm 14 0,qe 15 14,qz 16 13 15,qm 17 16,qmT 18 4 17,qUT 19 18 40 17,qp 20 17 19] (.cond (.t 20) .skip (.exit 0))) (.seq (.block 1 (.seq (sR [qm 23 0,qm 24 4,qX 25 8 23 24,qL 26 8 25,qc 27 12 26,qb 28 27] (.cond (.t
 28) (sR [qt 2] .ret) .skip)) (sR [qm 29 3,qm 30 0,qm 31 4,qX 32 8 30 31,qL 33 8 32,qk 34 13 29 33,qb 35 34] (.cond (.t 35) (sR [qf 2] .ret) .skip)))) (.reg false [qm 21 4,qs 22 21,qm 4 22] [])))
def c3:CF:=⟨sR [qf 2] (sR [⟨some 5,.call (.c (.fn 9 [])) [],none⟩,qm 3 5] (.seq (sR [⟨some 6,.call (.c (.fn 10 [])) [],none⟩,qb 7 6,qm 8 7,qmF 9 3 8,qcF 10 11 9 8,qbF 11 10 8,qo 12 8 11] (.cond (.t 12) (sR [qf 2] .ret) .skip)) (.seq (sR [qi 4 0]
 (.block 0 (.loop L3_0))) (sR [qt 2] .ret)))),[.tmp 2]⟩
def L5_0:CC:=(.seq (sR [qm 16 6,qm 17 0,qe 18 17,qz 19 16 18,qm 20 19,qmT 21 6 20,qUT 22 21 25 20,qp 23 20 22] (.cond (.t 23) .skip (.exit 0))) (.seq (.block 1 (sR [qm 26 0,qm 27 6,qX 28 8 26 27,qL 29 8 28,qc 30 12 29,qb 31 30,qm 32 31,qmF 33 5
 32,qmF 34 0 32,qmF 35 6 32,qXF 36 8 34 35 32,qLF 37 8 36 32,qkF 38 13 33 37 32,qbF 39 38 32,qo 40 32 39] (.cond (.t 40) (sR [qm 41 0,qm 42 6,qX 43 8 41 42,qL 44 8 43,qc 45 12 44,qb 46 45,qm 47 46,⟨some 48,.call (.c (.fn 10 [])) [],some (47,
 true)⟩,qp 49 47 48,qm 4 49] .ret) .skip))) (.reg false [qm 24 6,qs 25 24,qm 6 25] [])))
def L5_1:CC:=(.seq (sR [qm 94 10,qa 95 8 8,ql 96 95,qe 97 96,qz 98 94 97] (.cond (.t 98) .skip (.exit 2))) (.seq (.block 3 (sR [qa 101 8 8,ql 102 101,qm 103 10,qX 104 8 102 103,qL 105 8 104,⟨some 11,.alloc z8,none⟩,qw 8 11 105] (sR [qL 107 13
 8,qa 108 0 11,ql 109 108,qk 110 28 107 109,qm 106 110,qE 111 106 0,qE 112 106 1,qm 12 111,qm 13 112] (.seq (.reg true [qm 113 1,qc 114 27 113,qa 115 5 11,ql 116 115,qc 117 30 116,qk 118 29 114 117,qm 14 118] [(1,3)]) (.seq (.reg true [qL 119 8
 11,qa 120 8 7,ql 121 120,qm 122 10,qX 123 8 121 122,qL 124 8 123,qN 125 75 119 124,qm 126 125,qaF 127 4 11 126,qlF 128 127 126,qmF 129 128 126,qmT 130 13 129,⟨some 131,.bin .neq 53 false true (.t 130) (.c (.val (.int .i64 11))),some (129,
 true)⟩,qpF 132 129 131 126,qo 133 126 132,qm 134 133,qaF 135 4 11 134,qlF 136 135 134,qbF 137 136 134,qmF 138 137 134,qmT 139 14 138,qbT 140 139 138,qpF 141 138 140 134,qmF 142 141 134,qmT 143 13 142,⟨some 144,.bin .neq 53 false true (.t 143) (.c
 (.val (.int .i64 12))),some (142,true)⟩,qpF 145 142 144 134,qo 146 134 145,qm 147 146,qaF 148 4 11 147,qlF 149 148 147,qbF 150 149 147,qmF 151 150 147,qmT 152 14 151,qpF 153 151 152 147,qmF 154 153 147,qaT 155 7 11 154,qlT 156 155 154,qpF 157 154
 156 147,qmF 158 157 147,qmT 159 13 158,⟨some 160,.bin .neq 53 false true (.t 159) (.c (.val (.int .i64 0))),some (158,true)⟩,qmT 161 160 158,qmF 162 12 161,qaF 163 6 11 161,qlF 164 163 161,qNF 165 9 162 164 161,⟨some 166,.pick (.t 161) (.c (.val
 (.bool true))) (.t 165),some (158,true)⟩,qpF 167 158 166 147,qo 168 147 167,qm 169 168,qaF 170 4 11 169,qlF 171 170 169,qbF 172 171 169,qmF 173 172 169,qmT 174 14 173,qpF 175 173 174 169,qmF 176 175 169,qaT 177 7 11 176,qlT 178 177 176,qbT 179 178
 176,qpF 180 176 179 169,qmF 181 180 169,qmT 182 13 181,⟨some 183,.bin .neq 53 false true (.t 182) (.c (.val (.int .i64 13))),some (181,true)⟩,qpF 184 181 183 169,qo 185 169 184] []) (.cond (.t 185) (sR [qf 4] .ret) .skip)))))) (.reg false [qm 99
 10,qs 100 99,qm 10 100] [])))
def c5:CF:=⟨sR [qf 4] (sR [⟨some 15,.call (.c (.fn 9 [])) [],none⟩,qm 5 15] (.seq (sR [qi 6 0] (.block 0 (.loop L5_0))) (.seq (.reg true [qm 50 5,qn 51 50,qa 52 0 51,ql 53 52,qm 54 5,qn 55 54,qa 56 0 55,ql 57 56,qe 58 57,qS 59 58 1,qX 60 13 53
 59,qL 61 13 60,⟨some 7,.alloc z13,none⟩,qw 13 7 61] [(3,12),(7,12),(11,12)]) (.seq (.reg true [qL 63 13 7,qm 64 1,qc 65 27 64,qc 66 26 65,qk 67 25 63 66,qm 62 67,qE 68 62 0,qE 69 62 1,⟨some 8,.alloc z13,none⟩,qw 13 8 68,qm 9 69] [(0,2),(0,
 3),(0,8),(2,8),(3,8),(4,8)]) (.seq (sR [qa 70 1 7,ql 71 70,qM 72 3 71 0,qm 73 72,qaF 74 0 7 73,qlF 75 74 73,⟨some 76,.bin .eql 39 false true (.t 75) (.c (.val (.string ⟨#[48]⟩))),some (73,false)⟩,qo 77 73 76] (.cond (.t 77) (sR [⟨some 78,.call
 (.c (.fn 10 [])) [],none⟩,qm 79 78,qmT 80 9 79,⟨some 81,.bin .neq 53 false true (.t 80) (.c (.val (.int .i64 0))),some (79,true)⟩,qp 82 79 81,qm 4 82] .ret) .skip)) (.seq (sR [qm 83 9,qM 84 53 83 0,qm 85 84,qaF 86 8 8 85,qlF 87 86 85,qeF 88 87
 85,qaF 89 8 7 85,qlF 90 89 85,qeF 91 90 85,qNF 92 3 88 91 85,qo 93 85 92] (.cond (.t 93) (sR [qf 4] .ret) .skip)) (.seq (sR [qi 10 0] (.block 2 (.loop L5_1))) (sR [⟨some 186,.call (.c (.fn 10 [])) [],none⟩,qm 4 186] .ret)))))))),[.tmp 4]⟩
def L8_0:CC:=(.seq (sR [qm 14 4,qm 15 0,qe 16 15,qz 17 14 16,qm 18 17,qmT 19 4 18,qUT 20 19 40 18,qp 21 18 20] (.cond (.t 21) .skip (.exit 0))) (.seq (.block 1 (sR [qm 24 0,qm 25 4,qX 26 8 24 25,qL 27 8 26,qc 28 12 27,qb 29 28,qm 30 29,qmF 31 3
 30,qmF 32 0 30,qmF 33 4 30,qXF 34 8 32 33 30,qLF 35 8 34 30,qkF 36 13 31 35 30,qbF 37 36 30,qo 38 30 37] (.cond (.t 38) (sR [qm 39 0,qm 40 4,qX 41 8 39 40,qL 42 8 41,qc 43 12 42,qb 44 43,qm 45 44,⟨some 46,.call (.c (.fn 10 [])) [],some (45,
 true)⟩,qp 47 45 46,qm 2 47] .ret) .skip))) (.reg false [qm 22 4,qs 23 22,qm 4 23] [])))
def L8_1:CC:=(.seq (sR [qm 64 7,qm 65 5,qz 66 64 65] (.cond (.t 66) .skip (.exit 4))) (.seq (.block 5 (.seq (.reg true [qm 69 3,qn 70 69,qa 71 0 70,ql 72 71,qm 73 7,qX 74 13 72 73,qa 75 0 74,ql 76 75,qa 77 0 6,ql 78 77,qQ 79 39 76 78] []) (.cond
 (.t 79) (sR [qf 2] .ret) .skip))) (.reg false [qm 67 7,qs 68 67,qm 7 68] [])))
def L8_2:CC:=(.seq (sR [qm 107 10,qa 108 2 6,ql 109 108,⟨some 110,.bin .leq 3 false false (.t 107) (.t 109),none⟩] (.cond (.t 110) .skip (.exit 6))) (.seq (.block 7 (sR [qa 114 0 6,ql 115 114,qm 116 10,qk 117 55 115 116,qm 113 117,qE 118 113
 0,qE 119 113 1,qm 11 118,qm 12 119] (sR [qa 120 10 6,ql 121 120,qm 122 11,qk 123 52 121 122,qb 124 123] (.cond (.t 124) (sR [qf 2] .ret) .skip)))) (.reg false [qm 111 10,qs 112 111,qm 10 112] [])))
def L8_3:CC:= (.seq (sR [qm 48 5,qm 49 3,qn 50 49,qa 51 0 50,ql 52 51,qe 53 52,qz 54 48 53] (.cond (.t 54) .skip (.exit 2))) (.seq (.block 3 (sR [qm 57 3,qn 58 57,qa 59 0 58,ql 60 59,qm 61 5,qX 62 13 60 61,qL 63 13 62,⟨some 6,.alloc z13,none⟩,qw
 13 6 63] (.seq (sR [qi 7 0] (.block 4 (.loop L8_1))) (.seq (sR [qa 80 10 6,ql 81 80,qa 82 0 6,ql 83 82,qk 84 52 81 83,qb 85 84,qm 86 85,qaF 87 0 6 86,qlF 88 87 86,qcF 89 53 88 86,qbF 90 89 86,qo 91 86 90] (.cond (.t 91) (sR [qf 2] .ret) .skip)) (sR
 [qa 93 0 6,ql 94 93,qc 95 54 94,qm 92 95,qE 96 92 0,qE 97 92 1,qm 8 96,qm 9 97] (.seq (sR [qm 98 9,⟨some 99,.bin .eql 53 false true (.t 98) (.c (.val (.int .i64 0))),none⟩,qm 100 99,qaT 101 10 6 100,qlT 102 101 100,qmT 103 8 100,qkT 104 52 102 103
 100,qbT 105 104 100,qp 106 100 105] (.cond (.t 106) (sR [qf 2] .ret) .skip)) (sR [qi 10 1] (.block 6 (.loop L8_2))))))))) (.reg false [qm 55 5,qs 56 55,qm 5 56] [])))
def c8:CF:=⟨sR [qf 2] (sR [⟨some 13,.call (.c (.fn 9 [])) [],none⟩,qm 3 13] (.seq (sR [qi 4 0] (.block 0 (.loop L8_0))) (.seq (sR [qi 5 0] (.block 2 (.loop L8_3))) (sR [⟨some 125,.call (.c (.fn 10 [])) [],none⟩,qm 2 125] .ret)))),[.tmp 2]⟩
def c9:CF:=⟨sR [⟨some 0,.mv (.c (.val (.pointer none))),none⟩] (sR [⟨some 1,.call (.c (.fn 56 [])) [],none⟩,⟨some 2,.brow 13 1 z13 [(0,13,(.t 1))],none⟩,⟨some 3,.call (.c (.fn 57 [])) [],none⟩,⟨some 4,.brow 13 1 z13 [(0,13,(.t
 3))],none⟩,⟨some 5,.build [.im [] true,.im [] true] [(0,1,(.t 2)),(1,1,(.t 4))],none⟩,qB 6 5,qm 0 6] .ret),[.tmp 0]⟩
def c10:CF:=⟨sR [qf 0] (sR [⟨some 13,.call (.c (.fn 56 [])) [],none⟩,⟨some 14,.call (.c (.fn 17 [])) [.t 13,.c (.val (.int .i64 3)),.c (.val (.complex .f64 4607182418800017408 4611686018427387904)),.c (.val (.string ⟨#[120]⟩))],none⟩,qm 12 14,qE
 15 12 0,qE 16 12 1,⟨some 1,.alloc z13,none⟩,qw 13 1 15,qm 2 16] (sR [qL 18 13 1,qc 19 18 18,qm 17 19,qE 20 17 0,qE 21 17 1,qE 22 17 2,⟨some 3,.alloc z13,none⟩,qw 13 1 20,qw 13 3 21,qm 4 22] (sR [qL 24 13 3,⟨some 25,.call (.c (.fn 28 [])) [.t 24,.c
 (.val (.int .i64 3))],none⟩,qm 23 25,qE 26 23 0,qE 27 23 1,qm 5 26,qm 6 27] (sR [qL 29 13 3,⟨some 30,.call (.c (.fn 58 [])) [.t 29,.c (.val (.int .i64 3))],none⟩,qm 28 30,qE 31 28 0,qE 32 28 1,qw 13 3 31,qm 7 32] (sR [qL 34 13 3,⟨some 35,.call (.c
 (.fn 28 [])) [.t 34,.c (.val (.int .i64 3))],none⟩,qm 33 35,qE 36 33 0,qE 37 33 1,qm 8 36,qm 9 37] (sR [qL 39 13 1,⟨some 40,.call (.c (.fn 28 [])) [.t 39,.c (.val (.int .i64 3))],none⟩,qm 38 40,qE 41 38 0,qE 42 38 1,qm 10 41,qm 11 42] (sR [qm 43
 2,⟨some 44,.bin .eql 53 false true (.t 43) (.c (.val (.int .i64 0))),none⟩,qm 45 44,qmT 46 4 45,⟨some 47,.bin .eql 53 false true (.t 46) (.c (.val (.int .i64 0))),some (45,true)⟩,qp 48 45 47,qm 49 48,qmT 50 5 49,⟨some 51,.bin .eql 9 false true (.t
 50) (.c (.val (.string ⟨#[120]⟩))),some (49,true)⟩,qp 52 49 51,qm 53 52,qmT 54 6 53,⟨some 55,.bin .eql 53 false true (.t 54) (.c (.val (.int .i64 0))),some (53,true)⟩,qp 56 53 55,qm 57 56,qmT 58 7 57,⟨some 59,.bin .eql 53 false true (.t 58) (.c
 (.val (.int .i64 0))),some (57,true)⟩,qp 60 57 59,qm 61 60,qmT 62 9 61,⟨some 63,.bin .eql 53 false true (.t 62) (.c (.val (.int .i64 11))),some (61,true)⟩,qp 64 61 63,qm 65 64,qmT 66 10 65,⟨some 67,.bin .eql 9 false true (.t 66) (.c (.val
 (.string ⟨#[120]⟩))),some (65,true)⟩,qp 68 65 67,qm 69 68,qmT 70 11 69,⟨some 71,.bin .eql 53 false true (.t 70) (.c (.val (.int .i64 0))),some (69,true)⟩,qp 72 69 71,qm 73 72,qaT 74 0 3 73,qlT 75 74 73,⟨some 76,.bin .eql 39 false true (.t 75) (.c
 (.val (.string ⟨#[48,49]⟩))),some (73,true)⟩,qp 77 73 76,qm 78 77,qaT 79 0 1 78,qlT 80 79 78,⟨some 81,.bin .eql 39 false true (.t 80) (.c (.val (.string ⟨#[48]⟩))),some (78,true)⟩,qp 82 78 81,qm 83 82,qaT 84 10 1 83,qlT 85 84 83,⟨some 86,.len
 false (.t 85),some (83,true)⟩,qqT 87 86 2 83,qp 88 83 87,qm 0 88] .ret))))))),[.tmp 0]⟩
def L11_0:CC:= (.seq (sR [qm 15 3,qm 16 0,qn 17 16,qa 18 0 17,ql 19 18,qe 20 19,qz 21 15 20] (.cond (.t 21) .skip (.exit 0))) (.seq (.block 1 (.seq (.reg true [qm 24 0,qn 25 24,qa 26 0 25,ql 27 26,qm 28 3,qX 29 13 27 28,qL 30 13 29,qc 31 16
 30,qm 32 0,qn 33 32,qa 34 1 33,ql 35 34,qm 36 3,qX 37 13 35 36,qL 38 13 37,qk 39 15 31 38,qb 40 39] [(7,11),(7,14)]) (.cond (.t 40) (sR [qf 2] .ret) .skip))) (.reg false [qm 22 3,qs 23 22,qm 3 23] [])))
def c11:CF:=⟨sR [qf 2] (.seq (.seq (.reg true [qm 4 0,qn 5 4,qa 6 0 5,ql 7 6,qe 8 7,qm 9 0,qn 10 9,qa 11 1 10,ql 12 11,qe 13 12,qN 14 3 8 13] []) (.cond (.t 14) (sR [qf 2] .ret) .skip)) (.seq (sR [qi 3 0] (.block 0 (.loop L11_0))) (sR [qt 2]
 .ret))),[.tmp 2]⟩
def L12_0:CC:=(.seq (sR [qm 39 3,qa 40 7 1,ql 41 40,qe 42 41,qz 43 39 42] (.cond (.t 43) .skip (.exit 0))) (.seq (.block 1 (sR [qa 46 7 1,ql 47 46,qm 48 3,qX 49 4 47 48,qL 50 4 49,⟨some 4,.alloc [.val (.int .i64 0),.val (.int .i64 0),.val (.int
 .i64 0),.val (.int .i64 0)],none⟩,qw 4 4 50] (sR [qa 51 1 4,ql 52 51,qG 53 52 1099511627776,qm 54 53,qaF 55 1 4 54,qlF 56 55 54,⟨some 57,.bin .lss 3 false true (.t 56) (.c (.val (.int .i64 (-1099511627776)))),some (54,false)⟩,qo 58 54 57,qm 59
 58,qaF 60 2 4 59,qlF 61 60 59,qGF 62 61 1099511627776 59,qo 63 59 62,qm 64 63,qaF 65 2 4 64,qlF 66 65 64,⟨some 67,.bin .lss 3 false true (.t 66) (.c (.val (.int .i64 (-1099511627776)))),some (64,false)⟩,qo 68 64 67,qm 69 68,qaF 70 3 4 69,qlF 71 70
 69,qGF 72 71 1099511627776 69,qo 73 69 72,qm 74 73,qaF 75 3 4 74,qlF 76 75 74,⟨some 77,.bin .lss 3 false true (.t 76) (.c (.val (.int .i64 (-1099511627776)))),some (74,false)⟩,qo 78 74 77] (.cond (.t 78) (sR [qf 2] .ret) .skip)))) (.reg false [qm
 44 3,qs 45 44,qm 3 45] [])))
def c12:CF:=⟨sR [qB 1 0,qf 2] (.seq (sR [qa 5 6 1,ql 6 5,⟨some 7,.len true (.t 6),none⟩,qG 8 7 100,qm 9 8,qaF 10 7 1 9,qlF 11 10 9,qeF 12 11 9,qGF 13 12 40 9,qo 14 9 13,qm 15 14,qaF 16 4 1 15,qaF 17 0 16 15,qlF 18 17 15,qGF 19 18 1099511627776
 15,qo 20 15 19,qm 21 20,qaF 22 4 1 21,qaF 23 0 22 21,qlF 24 23 21,⟨some 25,.bin .lss 3 false true (.t 24) (.c (.val (.int .i64 (-1099511627776)))),some (21,false)⟩,qo 26 21 25,qm 27 26,qaF 28 4 1 27,qaF 29 1 28 27,qlF 30 29 27,qGF 31 30
 1099511627776 27,qo 32 27 31,qm 33 32,qaF 34 4 1 33,qaF 35 1 34 33,qlF 36 35 33,⟨some 37,.bin .lss 3 false true (.t 36) (.c (.val (.int .i64 (-1099511627776)))),some (33,false)⟩,qo 38 33 37] (.cond (.t 38) (sR [qf 2] .ret) .skip)) (.seq (sR [qi 3
 0] (.block 0 (.loop L12_0))) (sR [qt 2] .ret))),[.tmp 2]⟩
def c13:CF:=⟨sR [qB 3 1,qf 4] (.seq (.reg true [qa 38 1 3,ql 39 38,qV 40 3 34 39,qm 41 0,qn 42 41,qa 43 0 42,ql 44 43,qe 45 44,qV 46 3 34 45,⟨some 47,.bin .rem 34 false false (.t 40) (.t 46),none⟩,qV 48 34 3 47,qa 49 2 3,ql 50 49,qV 51 3 34
 50,qm 52 0,qn 53 52,qa 54 0 53,ql 55 54,qe 56 55,qV 57 3 34 56,⟨some 58,.bin .rem 34 false false (.t 51) (.t 57),none⟩,qV 59 34 3 58,qm 5 48,qm 6 59] []) (sR [qi 7 0,qi 8 0] (.seq (sR [qa 60 0 3,ql 61 60,qV 62 3 34 61,⟨some 63,.bin .rem 34 false
 true (.t 62) (.c (.val (.int .u64 8))),none⟩,qV 64 34 3 63] (.block 0 (sR [qq 117 64 3,qm 116 117] (.cond (.t 116) (.seq (.reg true [qm 119 0,qn 120 119,qa 121 0 120,ql 122 121,qm 123 5,qX 124 13 122 123,qL 125 13 124,qa 126 3 3,ql 127 126,qk 128
 58 125 127,qm 118 128,qE 129 118 0,qE 130 118 1,⟨some 9,.alloc z13,none⟩,qw 13 9 129,qm 10 130] [(3,13),(6,13),(8,13),(9,13)]) (.seq (.reg true [qm 132 0,qn 133 132,qa 134 1 133,ql 135 134,qm 136 5,qX 137 13 135 136,qL 138 13 137,qa 139 3 3,ql
 140 139,qk 141 59 138 140,qm 131 141,qE 142 131 0,qE 143 131 1,⟨some 11,.alloc z13,none⟩,qw 13 11 142,qm 12 143] [(3,13),(6,13),(8,13),(9,13)]) (.reg true [qm 144 0,qn 145 144,qa 146 0 145,ql 147 146,qm 148 5,qm 149 0,qn 150 149,qa 151 1 150,ql
 152 151,qm 153 5,qL 154 13 9,qL 155 13 11,qm 156 10,qm 157 12,qX 158 13 147 148,qw 13 158 154,qX 159 13 152 153,qw 13 159 155,qm 7 156,qm 8 157] [(11,15)]))) (sR [qq 161 64 4,qm 160 161] (.cond (.t 160) (.seq (.reg true [qm 163 0,qn 164 163,qa 165
 0 164,ql 166 165,qm 167 5,qX 168 13 166 167,qL 169 13 168,qa 170 7 3,ql 171 170,qc 172 26 171,qk 173 25 169 172,qm 162 173,qE 174 162 0,qE 175 162 1,⟨some 13,.alloc z13,none⟩,qw 13 13 174,qm 14 175] [(3,9),(6,9),(3,14),(6,14),(8,14),(9,
 14),(10,14)]) (.seq (.reg true [qm 177 0,qn 178 177,qa 179 1 178,ql 180 179,qm 181 5,qX 182 13 180 181,qL 183 13 182,qa 184 7 3,ql 185 184,qk 186 60 183 185,qm 176 186,qE 187 176 0,qE 188 176 1,⟨some 15,.alloc z13,none⟩,qw 13 15 187,qm 16 188]
 [(3,13),(6,13),(8,13),(9,13)]) (.reg true [qm 189 0,qn 190 189,qa 191 0 190,ql 192 191,qm 193 5,qm 194 0,qn 195 194,qa 196 1 195,ql 197 196,qm 198 5,qL 199 13 13,qL 200 13 15,qm 201 14,qm 202 16,qX 203 13 192 193,qw 13 203 199,qX 204 13 197
 198,qw 13 204 200,qm 7 201,qm 8 202] [(11,15)]))) (sR [qq 206 64 5,qm 205 206] (.cond (.t 205) (sR [qm 208 0,qn 209 208,qa 210 0 209,ql 211 210,qm 212 5,qX 213 13 211 212,qL 214 13 213,qc 215 18 214,qm 207 215,qE 216 207 0,qE 217 207 1,qE 218 207
 2,⟨some 17,.alloc z13,none⟩,⟨some 18,.alloc z13,none⟩,qw 13 17 216,qw 13 18 217,qm 19 218] (sR [qm 220 0,qn 221 220,qa 222 1 221,ql 223 222,qm 224 5,qX 225 13 223 224,qL 226 13 225,qc 227 61 226,qm 219 227,qE 228 219 0,qE 229 219 1,qE 230 219
 2,⟨some 20,.alloc z13,none⟩,⟨some 21,.alloc z13,none⟩,qw 13 20 228,qw 13 21 229,qm 22 230] (sR [qm 231 0,qn 232 231,qa 233 0 232,ql 234 233,qe 235 234,qU 236 235 8] (.cond (.t 236) (.seq (.reg true [qm 237 0,qn 238 237,qa 239 0 238,ql 240 239,qm
 241 5,qm 242 0,qn 243 242,qa 244 1 243,ql 245 244,qm 246 5,qL 247 13 17,qL 248 13 20,qm 249 19,qm 250 22,qX 251 13 240 241,qw 13 251 247,qX 252 13 245 246,qw 13 252 248,qm 7 249,qm 8 250] [(11,15)]) (sR [qm 253 19,⟨some 254,.bin .eql 53 false true
 (.t 253) (.c (.val (.int .i64 0))),none⟩,qm 255 254,qmT 256 22 255,qqT 257 256 0 255,qp 258 255 257] (.cond (.t 258) (.reg true [qm 259 0,qm 260 0,qm 261 0,qn 262 261,qa 263 0 262,ql 264 263,qL 265 13 18,⟨some 266,.brow 13 1 z13 [(0,13,(.t
 265))],none⟩,qA 267 13 264 266,qm 268 0,qn 269 268,qa 270 1 269,ql 271 270,qL 272 13 21,⟨some 273,.brow 13 1 z13 [(0,13,(.t 272))],none⟩,qA 274 13 271 273,qn 275 259,qa 276 0 275,qw 1 276 267,qn 277 260,qa 278 1 277,qw 1 278 274] [(5,7),(7,
 12),(8,12),(7,13),(8,13),(5,14),(6,14),(7,14),(8,14),(12,14)]) .skip))) .skip)))) (sR [qq 280 64 6,qm 279 280] (.cond (.t 279) (.seq (.reg true [qm 282 0,qn 283 282,qa 284 0 283,ql 285 284,qm 286 5,qX 287 13 285 286,qL 288 13 287,qm 289
 0,qn 290 289,qa 291 0 290,ql 292 291,qm 293 6,qX 294 13 292 293,qL 295 13 294,qk 296 14 288 295,qm 281 296,qE 297 281 0,qE 298 281 1,qE 299 281 2,⟨some 23,.alloc z13,none⟩,⟨some 24,.alloc z13,none⟩,qw 13 23 297,qw 13 24 298,qm 25 299] [(3,19),(6,
 19),(10,19),(13,19),(14,19),(3,20),(6,20),(10,20),(13,20),(14,20),(19,20)]) (.seq (.reg true [qm 301 0,qn 302 301,qa 303 1 302,ql 304 303,qm 305 5,qX 306 13 304 305,qL 307 13 306,qm 308 0,qn 309 308,qa 310 1 309,ql 311 310,qm 312 6,qX 313
 13 311 312,qL 314 13 313,qk 315 62 307 314,qm 300 315,qE 316 300 0,qE 317 300 1,qE 318 300 2,⟨some 26,.alloc z13,none⟩,⟨some 27,.alloc z13,none⟩,qw 13 26 316,qw 13 27 317,qm 28 318] [(3,19),(6,19),(10,19),(13,19),(14,19),(3,20),(6,20),(10,
 20),(13,20),(14,20),(19,20)]) (sR [qm 319 25,qm 320 28,qm 7 319,qm 8 320] (sR [qm 321 5,qm 322 6,qN 323 3 321 322] (.cond (.t 323) (.reg true [qm 324 0,qn 325 324,qa 326 0 325,ql 327 326,qm 328 5,qm 329 0,qn 330 329,qa 331 0 330,ql 332 331,qm
 333 6,qm 334 0,qn 335 334,qa 336 1 335,ql 337 336,qm 338 5,qm 339 0,qn 340 339,qa 341 1 340,ql 342 341,qm 343 6,qL 344 13 23,qL 345 13 24,qL 346 13 26,qL 347 13 27,qX 348 13 327 328,qw 13 348 344,qX 349 13 332 333,qw 13 349 345,qX 350 13 337 338,qw
 13 350 346,qX 351 13 342 343,qw 13 351 347] [(21,25),(22,25),(23,25),(22,27),(23,27),(23,29)]) .skip))))) (sR [qq 353 64 7,qm 352 353] (.cond (.t 352) (sR [qm 354 0,qn 355 354,qa 356 1 355,ql 357 356,qm 358 6,qX 359 13 357 358,qa 360 0 359,ql
 361 360,qm 29 361] (sR [qm 363 0,qn 364 363,qa 365 0 364,ql 366 365,qm 367 5,qX 368 13 366 367,qL 369 13 368,qm 370 29,qk 371 63 369 370,qm 362 371,qE 372 362 0,qE 373 362 1,⟨some 30,.alloc z13,none⟩,qw 13 30 372,qm 31 373] (sR [qm 375 0,qn 376
 375,qa 377 1 376,ql 378 377,qm 379 5,qX 380 13 378 379,qL 381 13 380,qm 382 29,qk 383 64 381 382,qm 374 383,qE 384 374 0,qE 385 374 1,⟨some 32,.alloc z13,none⟩,qw 13 32 384,qm 33 385] (.reg true [qm 386 0,qn 387 386,qa 388 0 387,ql 389 388,qm 390
 5,qm 391 0,qn 392 391,qa 393 1 392,ql 394 393,qm 395 5,qL 396 13 30,qL 397 13 32,qm 398 31,qm 399 33,qX 400 13 389 390,qw 13 400 396,qX 401 13 394 395,qw 13 401 397,qm 7 398,qm 8 399] [(11,15)])))) (.seq (.reg true [qm 66 0,qn 67 66,qa 68 0 67,ql
 69 68,qm 70 5,qX 71 13 69 70,qL 72 13 71,qa 73 3 3,ql 74 73,qa 75 4 3,qL 76 2 75,qc 77 65 76,qa 78 6 3,ql 79 78,⟨some 80,.call (.c (.fn 17 [])) [.t 72,.t 74,.t 77,.t 79],none⟩,qm 65 80,qE 81 65 0,qE 82 65 1,⟨some 34,.alloc z13,none⟩,qw 13 34 81,qm
 35 82] [(3,11),(6,11),(8,11),(11,13),(3,18),(6,18),(8,18),(10,18),(11,18),(13,18),(14,18)]) (.seq (.reg true [qm 84 0,qn 85 84,qa 86 1 85,ql 87 86,qm 88 5,qX 89 13 87 88,qL 90 13 89,qa 91 3 3,ql 92 91,qa 93 4 3,qL 94 2 93,qa 95 6 3,ql 96
 95,⟨some 97,.call (.c (.fn 66 [])) [.t 90,.t 92,.t 94,.t 96],none⟩,qm 83 97,qE 98 83 0,qE 99 83 1,⟨some 36,.alloc z13,none⟩,qw 13 36 98,qm 37 99] [(3,17),(6,17),(8,17),(10,17),(12,17),(13,17)]) (.reg true [qm 100 0,qn 101 100,qa 102 0 101,ql
 103 102,qm 104 5,qm 105 0,qn 106 105,qa 107 1 106,ql 108 107,qm 109 5,qL 110 13 34,qL 111 13 36,qm 112 35,qm 113 37,qX 114 13 103 104,qw 13 114 110,qX 115 13 108 109,qw 13 115 111,qm 7 112,qm 8 113] [(11,15)]))))))))))))))) (sR [qm 402 7,qm 403
 8,qQ 404 3 402 403,qm 405 404,qmT 406 0 405,⟨some 407,.call (.c (.fn 11 [])) [.t 406],some (405,true)⟩,qp 408 405 407,qm 4 408] .ret)))),[.tmp 4]⟩
def L14_0:CC:=(sR [qz 33 32 31] (.seq (.cond (.t 33) .skip (.exit 0)) (.seq (.block 1 (sR [qX 34 8 30 32,qL 35 8 34,⟨some 11,.alloc z8,none⟩,qw 8 11 35] (sR [qa 37 8 9,ql 38 37,qa 39 0 11,ql 40 39,qk 41 68 38 40,qm 36 41,qE 42 36 0,qE 43 36
 1,⟨some 12,.alloc z8,none⟩,qw 8 12 42,qm 13 43] (sR [qm 44 7,qa 45 1 11,qa 46 0 45,ql 47 46,qa 48 1 11,qa 49 1 48,ql 50 49,qK 51 69 44 47 50,qb 52 51,qm 53 52,qmF 54 13 53,qmF 55 54 53,qaT 56 7 11 55,qlT 57 56 55,qpF 58 55 57 53,qmF 59 58 53,qaT 60
 1 12 59,qLT 61 3 60 59,qaT 62 1 11 59,qLT 63 3 62 59,qQT 64 73 61 63 59,qpF 65 59 64 53,qo 66 53 65] (.cond (.t 66) (.reg false [qa 68 8 9,ql 69 68,qL 70 8 11,qk 71 70 69 70,qm 67 71,qE 72 67 0,qE 73 67 1,qa 74 8 9,qw 1 74 72] []) .skip))))) (.reg
 false [qs 75 32,qm 32 75] []))))
def c14:CF:=⟨sR [qB 2 0,qB 3 1,⟨some 4,.alloc z13,none⟩,⟨some 5,.alloc z13,none⟩,qi 6 0] (sR [qL 14 13 3,qc 15 21 14,qm 7 15] (.seq (sR [qL 16 13 2,qL 17 13 3,qm 18 7,qK 19 67 16 17 18,qm 8 19] (sR [qm 20 8,qM 21 53 20 0] (.cond (.t 21) (.seq
 (.reg true [qL 22 13 2,qL 23 13 3,qm 24 8,qw 13 4 22,qw 13 5 23,qm 6 24] [(1,3)]) .ret) .skip))) (.seq (.reg true [qL 25 13 3,qL 26 13 2,qc 27 21 26,qk 28 35 25 27,⟨some 9,.alloc z13,none⟩,qw 13 9 28] [(0,2),(0,4),(1,4),(2,4),(3,4)]) (.seq
 (sR [qa 29 8 2,ql 30 29,qe 31 30,qi 32 0] (.block 0 (.loop L14_0))) (sR [qa 76 4 9,ql 77 76,qa 78 4 2,ql 79 78,⟨some 80,.fun_ .max #[3,3] 3 [.t 77,.t 79],none⟩,qa 81 4 9,qw 1 81 80] (sR [qL 82 13 9,qa 83 10 2,ql 84 83,qa 85 11 2,ql 86 85,qa 87 12
 2,ql 88 87,⟨some 89,.call (.c (.fn 37 [])) [.t 82,.t 84,.t 86,.t 88],none⟩,qw 13 9 89] (sR [qa 90 11 9,ql 91 90,qa 92 0 2,ql 93 92,qa 94 3 2,ql 95 94,qK 96 71 91 93 95,qa 97 11 9,qw 1 97 96] (sR [qa 98 1 2,⟨none,.st 1 (.t 98) (.c (.val (.int .i64
 1))),none⟩] (.seq (.reg true [qL 99 13 2,qc 100 41 99,qL 101 13 9,qc 102 41 101,qw 13 4 100,qw 13 5 102,qi 6 0] [(1,2)]) .ret))))))))),[.cell 4 13 true,.cell 5 13 true,.tmp 6]⟩
def c15:CF:=⟨sR [qB 2 0,qB 3 1,qf 4] (.seq (sR [qa 5 0 2,ql 6 5,qa 7 0 3,ql 8 7,qN 9 9 6 8,qm 10 9,qaF 11 1 2 10,qlF 12 11 10,qaF 13 1 3 10,qlF 14 13 10,qNF 15 3 12 14 10,qo 16 10 15,qm 17 16,qaF 18 2 2 17,qlF 19 18 17,qaF 20 2 3 17,qlF 21 20
 17,qNF 22 3 19 21 17,qo 23 17 22,qm 24 23,qaF 25 3 2 24,qlF 26 25 24,qaF 27 3 3 24,qlF 28 27 24,qNF 29 3 26 28 24,qo 30 24 29,qm 31 30,qaF 32 4 2 31,qlF 33 32 31,qaF 34 4 3 31,qlF 35 34 31,qNF 36 3 33 35 31,qo 37 31 36] (.cond (.t 37) (sR [qf 4]
 .ret) .skip)) (sR [qa 38 5 2,ql 39 38,qa 40 5 3,ql 41 40,qk 42 42 39 41,qm 43 42,qaT 44 6 2 43,qlT 45 44 43,qaT 46 6 3 43,qlT 47 46 43,qkT 48 72 45 47 43,qp 49 43 48,qm 50 49,qaT 51 7 2 50,qlT 52 51 50,qaT 53 7 3 50,qlT 54 53 50,qkT 55 72 52 54
 50,qp 56 50 55,qm 57 56,qaT 58 8 2 57,qlT 59 58 57,qaT 60 8 3 57,qlT 61 60 57,qkT 62 49 59 61 57,qp 63 57 62,qm 64 63,qaT 65 9 2 64,qlT 66 65 64,qaT 67 9 3 64,qlT 68 67 64,qkT 69 73 66 68 64,qp 70 64 69,qm 71 70,qaT 72 10 2 71,qlT 73 72 71,qaT 74
 10 3 71,qlT 75 74 71,qkT 76 74 73 75 71,qp 77 71 76,qm 78 77,qaT 79 11 2 78,qlT 80 79 78,qaT 81 11 3 78,qlT 82 81 78,qkT 83 72 80 82 78,qp 84 78 83,qm 85 84,qaT 86 12 2 85,qlT 87 86 85,qaT 88 12 3 85,qlT 89 88 85,qkT 90 75 87 89 85,qp 91 85 90,qm 4
 91] .ret)),[.tmp 4]⟩
def L16_0:CC:=(.seq (sR [qm 5 4,qa 6 8 1,ql 7 6,qe 8 7,qz 9 5 8] (.cond (.t 9) .skip (.exit 0))) (.seq (.block 1 (.reg false [qm 12 3,qa 13 8 1,ql 14 13,qm 15 4,qX 16 8 14 15,qL 17 8 16,⟨some 18,.bsl 8 1 z8 [(0,8,(.t 17))],none⟩,qA 19 8 12
 18,qm 3 19] [])) (.reg false [qm 10 4,qs 11 10,qm 4 11] [])))
def c16:CF:=⟨sR [qB 1 0,⟨some 2,.alloc z13,none⟩] (sR [qj 3] (.seq (sR [qi 4 0] (.block 0 (.loop L16_0))) (.seq (.reg true [qa 20 0 1,ql 21 20,qa 22 1 1,ql 23 22,qa 24 2 1,ql 25 24,qa 26 3 1,ql 27 26,qa 28 4 1,ql 29 28,qa 30 5 1,ql 31 30,qc 32
 20 31,qa 33 6 1,ql 34 33,qc 35 76 34,qa 36 7 1,ql 37 36,qc 38 76 37,qm 39 3,qc 40 50 39,qa 41 9 1,ql 42 41,qc 43 77 42,qa 44 10 1,ql 45 44,qc 46 78 45,qa 47 11 1,ql 48 47,qc 49 76 48,qa 50 12 1,ql 51 50,qc 52 79 51,⟨some 53,.build z13 [(0,1,(.t
 21)),(1,1,(.t 23)),(2,1,(.t 25)),(3,1,(.t 27)),(4,1,(.t 29)),(5,1,(.t 32)),(6,1,(.t 35)),(7,1,(.t 38)),(8,1,(.t 40)),(9,1,(.t 43)),(10,1,(.t 46)),(11,1,(.t 49)),(12,1,(.t 52))],none⟩,qw 13 2 53] [(1,12),(3,12),(5,12),(7,
 12),(9,12),(12,14),(1,15),(3,15),(5,15),(7,15),(9,15),(12,17),(15,17),(1,18),(3,18),(5,18),(7,18),(9,18),(1,20),(3,20),(5,20),(7,20),(9,20),(12,22),(15,22),(18,22),(20,22),(1,23),(3,23),(5,23),(7,23),(9,23),(12,25),(15,
 25),(18,25),(20,25),(23,25),(1,26),(3,26),(5,26),(7,26),(9,26),(12,28),(15,28),(18,28),(20,28),(23,28),(26,28),(1,29),(3,29),(5,29),(7,29),(9,29),(12,31),(15,31),(18,31),(20,31),(23,31),(26,31),(29,31),(1,32),(3,32),(5,
 32),(7,32),(9,32)]) .ret))),[.cell 2 13 true]⟩
def c17:CF:=⟨sR [qB 4 0,⟨some 8,.alloc z13,none⟩,qi 9 0] (.seq (.block 0 (sR [qa 11 1 4,ql 12 11,qM 13 3 12 0,qm 10 13] (.cond (.t 10) (sR [qL 14 13 4,qw 13 8 14,qi 9 5] .ret) (sR [qm 16 1,qU 17 16 0,qm 18 17,qmF 19 1 18,⟨some 20,.bin .geq 3
 false true (.t 19) (.c (.val (.int .i64 32))),some (18,false)⟩,qo 21 18 20,qm 15 21] (.cond (.t 15) (sR [qL 22 13 4,qw 13 8 22,qi 9 6] .ret) (sR [qm 24 2,qc 25 80 24,qb 26 25,qm 23 26] (.cond (.t 23) (sR [qL 27 13 4,qw 13 8 27,qi 9 8] .ret) (sR
 [qa 29 9 4,ql 30 29,qm 31 2,qk 32 81 30 31,qb 33 32,qm 28 33] (.cond (.t 28) (sR [qL 34 13 4,qw 13 8 34,qi 9 9] .ret) (sR [qm 36 3,⟨some 37,.len true (.t 36),none⟩,qG 38 37 16,qm 35 38] (.cond (.t 35) (sR [qL 39 13 4,qw 13 8 39,qi 9 7] .ret)
 .skip))))))))))) (sR [qL 40 13 4,qm 41 1,qm 42 2,qm 43 3,⟨some 44,.build z8 [(0,1,(.t 41)),(5,1,(.t 42)),(6,1,(.t 43)),(7,1,(.c (.val (.bool true))))],none⟩,qk 45 82 40 44,qE 46 45 0,qE 47 45 1,qw 13 8 46,qm 9 47] .ret)),[.cell 8 13 true,.tmp 9]⟩
def c18:CF:=⟨sR [qB 1 0,⟨some 2,.alloc z13,none⟩,⟨some 3,.alloc z13,none⟩,qi 4 0] (.seq (sR [qa 8 1 1,ql 9 8,qM 10 3 9 0] (.cond (.t 10) (sR [qL 11 13 1,⟨some 12,.build z13 [],none⟩,qw 13 2 11,qw 13 3 12,qi 4 5] .ret) .skip)) (sR [qa 14 0 1,ql
 15 14,qa 16 2 1,ql 17 16,qs 18 17,qk 19 55 15 18,qm 13 19,qE 20 13 0,qE 21 13 1,qm 5 20,qm 6 21] (.seq (sR [qm 22 6,qM 23 53 22 0] (.cond (.t 23) (sR [qL 24 13 1,⟨some 25,.build z13 [],none⟩,qw 13 2 24,qw 13 3 25,qi 4 18] .ret) .skip)) (sR [qL 26
 13 1,qc 27 83 26,qw 13 1 27] (sR [qa 28 2 1,ql 29 28,qs 30 29,qa 31 2 1,qw 1 31 30] (sR [qa 32 10 1,ql 33 32,qm 34 5,qk 35 84 33 34,qa 36 10 1,qw 1 36 35] (.seq (.reg true [qa 37 12 1,ql 38 37,qm 39 5,qL 40 13 1,qc 41 21 40,qc 42 86 41,qK 43 85 38
 39 42,qa 44 12 1,qw 1 44 43] [(1,4),(1,5)]) (sR [qL 45 13 1,qc 46 41 45,qw 13 1 46] (sR [qL 47 13 1,⟨some 7,.alloc z13,none⟩,qw 13 7 47] (sR [qm 48 5,qa 49 0 7,qw 1 49 48,qa 50 2 7,⟨none,.st 1 (.t 50) (.c (.val (.int .i64 0))),none⟩,qa 51 3
 7,⟨none,.st 1 (.t 51) (.c (.val (.int .i64 0))),none⟩] (.seq (.reg true [qL 52 13 1,qL 53 13 7,qc 54 41 53,qw 13 2 52,qw 13 3 54,qi 4 0] [(0,2)]) .ret))))))))))),[.cell 2 13 true,.cell 3 13 true,.tmp 4]⟩
def L19_0:CC:=(.seq (sR [qm 6 5,qm 7 0,qe 8 7,qz 9 6 8] (.cond (.t 9) .skip (.exit 0))) (.seq (.block 1 (.seq (.reg true [qm 12 0,qm 13 5,qX 14 3 12 13,qa 15 1 14,qL 16 2 15,qm 17 1,qm 18 0,qm 19 5,qX 20 3 18 19,qa 21 0 20,ql 22 21,qk 23 88 17
 22,qk 24 87 16 23,qb 25 24] [(4,11)]) (.cond (.t 25) (sR [qf 4] .ret) .skip))) (.reg false [qm 10 5,qs 11 10,qm 5 11] [])))
def c19:CF:=⟨sR [qf 4] (.seq (sR [qi 5 0] (.block 0 (.loop L19_0))) (sR [qt 4] .ret)),[.tmp 4]⟩
def L20_0:CC:=(.seq (sR [qm 5 4,qm 6 0,qe 7 6,qz 8 5 7] (.cond (.t 8) .skip (.exit 0))) (.seq (.block 1 (.reg true [qm 11 3,qm 12 0,qm 13 4,qX 14 3 12 13,qa 15 0 14,ql 16 15,qm 17 0,qm 18 4,qX 19 3 17 18,qa 20 1 19,qL 21 2 20,qc 22 89 21,⟨some
 23,.build [.val (.string ⟨#[]⟩),.val (.int .i64 0),.im [] true] [(0,1,(.t 16)),(1,2,(.t 22))],none⟩,⟨some 24,.bsl 3 1 [.val (.string ⟨#[]⟩),.val (.int .i64 0),.im [] true] [(0,3,(.t 23))],none⟩,qA 25 3 11 24,qm 3 25] [(5,11)])) (.reg false
 [qm 9 4,qs 10 9,qm 4 10] [])))
def c20:CF:=⟨sR [qj 2] (sR [qj 3] (.seq (sR [qi 4 0] (.block 0 (.loop L20_0))) (sR [qm 26 3,qm 2 26] .ret))),[.tmp 2]⟩
def c21:CF:=⟨sR [qB 1 0,qj 2] (.seq (.reg true [qa 3 5 1,ql 4 3,qa 5 6 1,ql 6 5,qc 7 91 6,qk 8 90 4 7,qm 2 8] [(1,4)]) .ret),[.tmp 2]⟩
def L22_0:CC:=(.seq (sR [qm 7 6,qm 8 0,qe 9 8,qz 10 7 9] (.cond (.t 10) .skip (.exit 0))) (.seq (.block 1 (sR [qm 13 0,qm 14 6,qX 15 9 13 14,qa 16 0 15,ql 17 16,qm 18 1,qQ 19 3 17 18] (.cond (.t 19) (sR [qm 20 0,qm 21 6,qX 22 9 20 21,qL 23 9
 22,qw 9 4 23,qt 5] .ret) .skip))) (.reg false [qm 11 6,qs 12 11,qm 6 12] [])))
def c22:CF:= ⟨sR [⟨some 4,.alloc z9,none⟩,qf 5] (.seq (sR [qi 6 0] (.block 0 (.loop L22_0))) (sR [⟨some 24,.build z9 [],none⟩,qw 9 4 24,qf 5] .ret)),[.cell 4 9 true,.tmp 5]⟩
def c23:CF:=⟨sR [qB 2 0,qB 3 1,qf 4] (.seq (sR [qa 5 2 2,ql 6 5,qa 7 2 3,ql 8 7,qN 9 3 6 8] (.cond (.t 9) (sR [qa 10 2 2,ql 11 10,qa 12 2 3,ql 13 12,⟨some 14,.bin .gtr 3 false false (.t 11) (.t 13),none⟩,qm 4 14] .ret) .skip)) (sR [qa 15 0 2,ql
 16 15,qa 17 0 3,ql 18 17,qk 19 92 16 18,qG 20 19 0,qm 4 20] .ret)),[.tmp 4]⟩
def c25:CF:=⟨sR [qB 2 0,⟨some 4,.alloc z13,none⟩,qi 5 0] (.seq (.block 0 (sR [qa 7 1 2,ql 8 7,qM 9 3 8 0,qm 6 9] (.cond (.t 6) (sR [qL 10 13 2,qw 13 4 10,qi 5 5] .ret) (sR [qa 12 0 2,ql 13 12,⟨some 14,.bin .eql 39 false true (.t 13) (.c (.val
 (.string ⟨#[48]⟩))),none⟩,qm 11 14] (.cond (.t 11) (sR [qL 15 13 2,qw 13 4 15,qi 5 14] .ret) (sR [qm 17 1,qc 18 94 17,qb 19 18,qm 16 19] (.cond (.t 16) (sR [qL 20 13 2,qw 13 4 20,qi 5 9] .ret) .skip))))))) (sR [qm 21 1,qc 22 95 21,qa 23 9 2,qw 1 23
 22] (sR [qL 24 13 2,qc 25 41 24,qw 13 4 25,qi 5 0] .ret))),[.cell 4 13 true,.tmp 5]⟩
def L26_0:CC:=(.seq (sR [qm 5 4,qm 6 0,qe 7 6,qz 8 5 7] (.cond (.t 8) .skip (.exit 0))) (.seq (.block 1 (.reg true [qm 11 3,qm 12 0,qm 13 4,qX 14 4 12 13,qa 15 0 14,ql 16 15,qm 17 0,qm 18 4,qX 19 4 17 18,qa 20 1 19,ql 21 20,qm 22 0,qm 23 4,qX 24
 4 22 23,qa 25 2 24,ql 26 25,⟨some 27,.build [.val (.int .i64 0),.val (.int .i64 0)] [(0,1,(.t 21)),(1,1,(.t 26))],none⟩,qc 28 65 27,qm 29 0,qm 30 4,qX 31 4 29 30,qa 32 3 31,ql 33 32,qV 34 3 176 33,⟨some 35,.build [.val (.int .i64 0),.val
 (.complex .f64 0 0),.val (.float .f64 0)] [(0,1,(.t 16)),(1,1,(.t 28)),(2,1,(.t 34))],none⟩,⟨some 36,.bsl 3 1 [.val (.int .i64 0),.val (.complex .f64 0 0),.val (.float .f64 0)] [(0,3,(.t 35))],none⟩,qA 37 3 11 36,qm 3 37] [(5,17),(17,
 22)])) (.reg false [qm 9 4,qs 10 9,qm 4 10] [])))
def c26:CF:=⟨sR [qj 2] (sR [qj 3] (.seq (sR [qi 4 0] (.block 0 (.loop L26_0))) (sR [qm 38 3,qm 2 38] .ret))),[.tmp 2]⟩
def L27_0:CC:=(.seq (sR [qm 9 5,qm 10 0,qe 11 10,qz 12 9 11,qm 13 12,qmT 14 5 13,qUT 15 14 12 13,qp 16 13 15] (.cond (.t 16) .skip (.exit 0))) (.seq (.block 1 (sR [qm 19 0,qm 20 5,qX 21 4 19 20,qa 22 0 21,ql 23 22,qV 24 3 34 23,⟨some 25,.bin
 .rem 34 false true (.t 24) (.c (.val (.int .u64 6))),none⟩,qV 26 34 3 25,⟨some 27,.bin .add 3 true false (.c (.val (.int .i64 1))) (.t 26),none⟩,qm 6 27] (.seq (.reg true [qm 28 0,qm 29 5,qX 30 4 28 29,qa 31 1 30,ql 32 31,qm 33 0,qm 34 5,qX 35 4 33
 34,qa 36 2 35,ql 37 36,⟨some 38,.build [.val (.int .i64 0),.val (.int .i64 0)] [(0,1,(.t 32)),(1,1,(.t 37))],none⟩,qc 39 96 38,⟨some 7,.alloc [.val (.int .i64 0),.val (.int .i64 0)],none⟩,qw 2 7 39] [(4,12),(9,12),(11,12)]) (.seq (sR [qm 40
 6,qq 41 40 4,qm 42 41,qmT 43 4 42,qUT 44 43 1 42,qp 45 42 44,qm 46 45,qmF 47 6 46,qGF 48 47 4 46,qmF 49 48 46,qmT 50 4 49,qUT 51 50 2 49,qpF 52 49 51 46,qo 53 46 52] (.cond (.t 53) (.reg false [qi 6 2] []) .skip)) (sR [qm 54 6,⟨some 55,.build [.val
 (.int .i64 0),.val (.int .i64 0),.val (.int .i64 0),.val (.int .i64 0)] [(0,1,(.t 54))],none⟩,⟨some 8,.alloc [.val (.int .i64 0),.val (.int .i64 0),.val (.int .i64 0),.val (.int .i64 0)],none⟩,qw 4 8 55] (.seq (sR [qm 56 6,qq 57 56 2] (.cond (.t
 57) (.reg true [qa 58 0 7,ql 59 58,qa 60 1 7,ql 61 60,qm 62 0,qm 63 5,qX 64 4 62 63,qa 65 3 64,ql 66 65,qV 67 3 34 66,⟨some 68,.bin .rem 34 false true (.t 67) (.c (.val (.int .u64 2001))),none⟩,qV 69 34 3 68,⟨some 70,.build [.val (.int .i64 0),.val
 (.int .i64 0),.val (.int .i64 0),.val (.int .i64 0)] [(0,1,(.c (.val (.int .i64 2)))),(1,1,(.t 59)),(2,1,(.t 61)),(3,1,(.t 69))],none⟩,qw 4 8 70] []) .skip)) (.seq (sR [qm 71 6,qq 72 71 3] (.cond (.t 72) (.reg true [qa 73 0 7,ql 74 73,qa 75
 1 7,ql 76 75,qm 77 0,qm 78 5,qX 79 4 77 78,qa 80 3 79,ql 81 80,qV 82 3 34 81,⟨some 83,.bin .rem 34 false true (.t 82) (.c (.val (.int .u64 4000001))),none⟩,qV 84 34 3 83,qS 85 84 2000000,⟨some 86,.build [.val (.int .i64 0),.val (.int .i64 0),.val
 (.int .i64 0),.val (.int .i64 0)] [(0,1,(.c (.val (.int .i64 3)))),(1,1,(.t 74)),(2,1,(.t 76)),(3,1,(.t 85))],none⟩,qw 4 8 86] []) .skip)) (.seq (sR [qm 87 6,⟨some 88,.bin .leq 3 false true (.t 87) (.c (.val (.int .i64 3))),none⟩] (.cond
 (.t 88) (.reg false [qm 89 4,qs 90 89,qm 4 90] []) .skip)) (.seq (sR [qm 91 6,qG 92 91 4] (.cond (.t 92) (.reg false [qm 93 4,qS 94 93 1,qm 4 94] []) .skip)) (.reg false [qm 95 3,qL 96 4 8,⟨some 97,.bsl 4 1 [.val (.int .i64 0),.val (.int .i64
 0),.val (.int .i64 0),.val (.int .i64 0)] [(0,4,(.t 96))],none⟩,qA 98 4 95 97,qm 3 98] [])))))))))) (.reg false [qm 17 5,qs 18 17,qm 5 18] [])))
def L27_1:CC:=(.seq (sR [qm 103 4,qG 104 103 1] (.cond (.t 104) .skip (.exit 2))) (.seq (.block 3 (.reg false [qm 107 3,⟨some 108,.build [.val (.int .i64 0),.val (.int .i64 0),.val (.int .i64 0),.val (.int .i64 0)] [(0,1,(.c (.val (.int .i64
 6))))],none⟩,⟨some 109,.bsl 4 1 [.val (.int .i64 0),.val (.int .i64 0),.val (.int .i64 0),.val (.int .i64 0)] [(0,4,(.t 108))],none⟩,qA 110 4 107 109,qm 3 110] [])) (.reg false [qm 105 4,qS 106 105 1,qm 4 106] [])))
def c27:CF:=⟨sR [qj 2] (sR [qj 3] (sR [qi 4 0] (.seq (sR [qi 5 0] (.block 0 (.loop L27_0))) (.seq (sR [qm 99 4,qq 100 99 0] (.cond (.t 100) (sR [⟨some 101,.build [.val (.int .i64 0),.val (.int .i64 0),.val (.int .i64 0),.val (.int .i64 0)] [(0,
 1,(.c (.val (.int .i64 1))))],none⟩,⟨some 102,.bsl 4 1 [.val (.int .i64 0),.val (.int .i64 0),.val (.int .i64 0),.val (.int .i64 0)] [(0,4,(.t 101))],none⟩,qm 2 102] .ret) .skip)) (.seq (.block 2 (.loop L27_1)) (sR [qm 111 3,qm 2 111] .ret)))))),[.tmp 2]⟩
def c28:CF:=⟨sR [qB 2 0,⟨some 4,.mv (.c (.val (.string ⟨#[]⟩))),none⟩,qi 5 0] (sR [qL 9 13 2,qm 10 1,qk 11 97 9 10,qm 8 11,qE 12 8 0,qE 13 8 1,⟨some 6,.alloc z8,none⟩,qw 8 6 12,qm 7 13] (.seq (.block 0 (sR [qm 15 7,qM 16 53 15 0,qm 14 16] (.cond
 (.t 14) (sR [qm 17 7,⟨some 4,.mv (.c (.val (.string ⟨#[]⟩))),none⟩,qm 5 17] .ret) (sR [qa 19 9 2,ql 20 19,qa 21 5 6,ql 22 21,qk 23 81 20 22,qb 24 23,qm 18 24] (.cond (.t 18) (sR [⟨some 4,.mv (.c (.val (.string ⟨#[]⟩))),none⟩,qi 5 12] .ret) (sR [qa
 26 7 6,ql 27 26,qb 28 27,qm 25 28] (.cond (.t 25) (sR [⟨some 4,.mv (.c (.val (.string ⟨#[]⟩))),none⟩,qi 5 13] .ret) .skip))))))) (sR [qa 29 6 6,ql 30 29,qm 4 30,qi 5 0] .ret))),[.tmp 4,.tmp 5]⟩
def L29_0:CC:=(.seq (sR [qm 17 6,qm 18 0,qe 19 18,qz 20 17 19] (.cond (.t 20) .skip (.exit 0))) (.seq (.block 1 (sR [qm 23 0,qm 24 6,qX 25 4 23 24,qL 26 4 25,⟨some 7,.alloc [.val (.int .i64 0),.val (.int .i64 0),.val (.int .i64 0),.val (.int
 .i64 0)],none⟩,qw 4 7 26] (sR [qm 27 5,qe 28 27,qm 8 28] (sR [qa 29 0 7,ql 30 29] (.block 2 (sR [qq 32 30 1,qm 31 32] (.cond (.t 31) (.reg false [qm 33 5,⟨some 34,.bsl 1 1 [.val (.bool false)] [(0,1,(.c (.val (.bool true))))],none⟩,qA 35 1 33
 34,qm 5 35] []) (sR [qq 37 30 2,qm 36 37] (.cond (.t 36) (.reg false [qm 38 5,qa 39 0 3,ql 40 39,qa 41 1 7,ql 42 41,⟨some 43,.bin .sub 3 false false (.t 40) (.t 42),none⟩,qa 44 0 3,ql 45 44,qa 46 1 7,ql 47 46,⟨some 48,.bin .sub 3 false false (.t
 45) (.t 47),none⟩,⟨some 49,.bin .mul 3 false false (.t 43) (.t 48),none⟩,qa 50 1 3,ql 51 50,qa 52 2 7,ql 53 52,⟨some 54,.bin .sub 3 false false (.t 51) (.t 53),none⟩,qa 55 1 3,ql 56 55,qa 57 2 7,ql 58 57,⟨some 59,.bin .sub 3 false false (.t 56) (.t
 58),none⟩,⟨some 60,.bin .mul 3 false false (.t 54) (.t 59),none⟩,qD 61 3 49 60,qa 62 3 7,ql 63 62,qa 64 3 7,ql 65 64,⟨some 66,.bin .mul 3 false false (.t 63) (.t 65),none⟩,⟨some 67,.bin .leq 3 false false (.t 61) (.t 66),none⟩,⟨some 68,.bsl 1 1
 [.val (.bool false)] [(0,1,(.t 67))],none⟩,qA 69 1 38 68,qm 5 69] []) (sR [qq 71 30 3,qm 70 71] (.cond (.t 70) (.reg false [qm 72 5,qa 73 0 3,ql 74 73,qa 75 1 7,ql 76 75,⟨some 77,.bin .mul 3 false false (.t 74) (.t 76),none⟩,qa 78 1 3,ql 79 78,qa
 80 2 7,ql 81 80,⟨some 82,.bin .mul 3 false false (.t 79) (.t 81),none⟩,qD 83 3 77 82,qa 84 3 7,ql 85 84,⟨some 86,.bin .geq 3 false false (.t 83) (.t 85),none⟩,⟨some 87,.bsl 1 1 [.val (.bool false)] [(0,1,(.t 86))],none⟩,qA 88 1 72 87,qm 5 88] [])
 (sR [qq 90 30 4,qm 89 90] (.cond (.t 89) (.reg false [qm 91 5,qm 92 8,qS 93 92 1,qm 94 5,qm 95 8,qS 96 95 1,qx 97 94 96,ql 98 97,qb 99 98,qx 100 91 93,qw 1 100 99] []) (sR [qq 102 30 5,qm 101 102] (.cond (.t 101) (.reg true [qm 103 5,qm 104 8,qS
 105 104 2,⟨some 106,.slc 1 (.t 103) none (some (.t 105)) none,none⟩,qm 107 5,qm 108 8,qS 109 108 2,qx 110 107 109,ql 111 110,qm 112 111,qmT 113 5 112,qmT 114 8 112,qST 115 114 1 112,qxT 116 113 115 112,qlT 117 116 112,qp 118 112 117,⟨some 119,.bsl
 1 1 [.val (.bool false)] [(0,1,(.t 118))],none⟩,qA 120 1 106 119,qm 5 120] [(3,16)]) (sR [qq 122 30 6,qm 121 122] (.cond (.t 121) (.reg true [qm 123 5,qm 124 8,qS 125 124 2,⟨some 126,.slc 1 (.t 123) none (some (.t 125)) none,none⟩,qm 127 5,qm
 128 8,qS 129 128 2,qx 130 127 129,ql 131 130,qm 132 131,qmF 133 5 132,qmF 134 8 132,⟨some 135,.bin .sub 3 false true (.t 134) (.c (.val (.int .i64 1))),some (132,false)⟩,qXF 136 1 133 135 132,qlF 137 136 132,qo 138 132 137,⟨some 139,.bsl 1 1 [.val
 (.bool false)] [(0,1,(.t 138))],none⟩,qA 140 1 126 139,qm 5 140] [(3,16)]) .skip))))))))))))))))) (.reg false [qm 21 6,qs 22 21,qm 6 22] [])))
def c29:CF:=⟨sR [qB 3 1,qf 4] (.seq (sR [qm 9 0,qc 10 98 9,qb 11 10,qm 12 11,qLF 13 2 3 12,qcF 14 99 13 12,qbF 15 14 12,qo 16 12 15] (.cond (.t 16) (sR [qf 4] .ret) .skip)) (sR [qj 5] (.seq (sR [qi 6 0] (.block 0 (.loop L29_0))) (sR [qm 141
 5,⟨some 142,.ias 1 (.t 141) (.c (.val (.int .i64 0))),none⟩,ql 143 142,qm 4 143] .ret)))),[.tmp 4]⟩
def c30:CF:=⟨sR [⟨some 2,.alloc [.val (.int .i64 0),.val (.int .i64 0)],none⟩] (sR [qm 3 0,⟨some 4,.fun_ .real #[67] 176 [.t 3],none⟩,qV 5 176 3 4,qm 6 0,⟨some 7,.fun_ .imag #[67] 176 [.t 6],none⟩,qV 8 176 3 7,⟨some 9,.build [.val (.int .i64
 0),.val (.int .i64 0)] [(0,1,(.t 5)),(1,1,(.t 8))],none⟩,qw 2 2 9] .ret),[.cell 2 2 true]⟩
def L34_0:CC:=(.seq (.seq (.reg true [qm 36 8,qG 37 36 0,qm 38 37,qmT 39 5 38,qmT 40 8 38,qST 41 40 1 38,qxT 42 39 41 38,qlT 43 42 38,qmT 44 5 38,qmT 45 8 38,qxT 46 44 45 38,qlT 47 46 38,qkT 48 106 43 47 38,qGT 49 48 0 38,qp 50 38 49] []) (.cond
 (.t 50) .skip (.exit 2))) (.seq (.block 3 (.reg true [qm 53 5,qm 54 8,qS 55 54 1,qm 56 5,qm 57 8,qm 58 5,qm 59 8,qx 60 58 59,ql 61 60,qm 62 5,qm 63 8,qS 64 63 1,qx 65 62 64,ql 66 65,qx 67 53 55,qw 1 67 61,qx 68 56 57,qw 1 68 66] [])) (.reg false
 [qm 51 8,qS 52 51 1,qm 8 52] [])))
def L34_1:CC:=(.seq (sR [qm 14 7,qm 15 6,qe 16 15,qz 17 14 16] (.cond (.t 17) .skip (.exit 0))) (.seq (.block 1 (.seq (sR [qm 20 5,qm 21 6,qm 22 7,qx 23 21 22,ql 24 23,qk 25 105 20 24] (.cond (.t 25) (.exit 1) .skip)) (sR [qm 26 5,qm 27 6,qm 28
 7,qx 29 27 28,ql 30 29,⟨some 31,.bsl 1 1 [.val (.string ⟨#[]⟩)] [(0,1,(.t 30))],none⟩,qA 32 1 26 31,qm 5 32] (sR [qm 33 5,qe 34 33,qS 35 34 1,qm 8 35] (.block 2 (.loop L34_0)))))) (.reg false [qm 18 7,qs 19 18,qm 7 19] [])))
def c34:CF:=⟨sR [qj 4] (sR [qj 5] (sR [⟨some 9,.bsl 1 0 [] [],none⟩,qm 10 0,qA 11 1 9 10,qm 12 1,qA 13 1 11 12,qm 6 13] (.seq (sR [qi 7 0] (.block 0 (.loop L34_1))) (sR [qm 69 5,qm 4 69] .ret)))),[.tmp 4]⟩
def L35_0:CC:=(sR [qz 13 12 11] (.seq (.cond (.t 13) .skip (.exit 0)) (.seq (.block 1 (sR [qX 14 3 10 12,qL 15 3 14,⟨some 6,.alloc [.val (.string ⟨#[]⟩),.val (.int .i64 0),.im [] true],none⟩,qw 3 6 15] (sR [qa 16 6 2,ql 17 16,qa 18 0 6,ql 19
 18,qk 20 108 17 19,qc 21 107 20,⟨some 7,.alloc [.val (.int .i64 0),.im [] true],none⟩,qw 2 7 21] (.seq (sR [qa 22 0 7,ql 23 22,qG 24 23 0,qm 25 24,qaT 26 1 6 25,qLT 27 2 26 25,qLT 28 2 7 25,qkT 29 109 27 28 25,qp 30 25 29] (.cond (.t 30) (.exit 1)
 .skip)) (.seq (sR [qa 31 0 7,ql 32 31,qG 33 32 0] (.cond (.t 33) (sR [qa 34 6 2,ql 35 34,qa 36 0 6,ql 37 36,qk 38 110 35 37,qa 39 6 2,qw 1 39 38] (.reg false [qa 40 5 2,ql 41 40,qa 42 0 6,ql 43 42,qL 44 2 7,⟨some 45,.build [.val (.string
 ⟨#[]⟩),.val (.int .i64 0),.im [] true] [(0,1,(.t 43)),(1,2,(.t 44))],none⟩,⟨some 46,.bsl 3 1 [.val (.string ⟨#[]⟩),.val (.int .i64 0),.im [] true] [(0,3,(.t 45))],none⟩,qk 47 90 41 46,qa 48 5 2,qw 1 48 47] [])) .skip)) (.reg false [qa 49 5
 2,ql 50 49,qL 51 3 6,⟨some 52,.bsl 3 1 [.val (.string ⟨#[]⟩),.val (.int .i64 0),.im [] true] [(0,3,(.t 51))],none⟩,qk 53 90 50 52,qa 54 5 2,qw 1 54 53] [])))))) (.reg false [qs 55 12,qm 12 55] []))))
def c35:CF:=⟨sR [qB 2 0,⟨some 4,.alloc z13,none⟩] (sR [qL 8 13 2,qc 9 83 8,qw 13 2 9] (.seq (sR [qm 10 1,qe 11 10,qi 12 0] (.block 0 (.loop L35_0))) (sR [qL 56 13 2,qw 13 4 56] .ret))),[.cell 4 13 true]⟩
def c37:CF:=⟨sR [qB 4 0,⟨some 8,.alloc z13,none⟩] (sR [qL 9 13 4,qc 10 83 9,qw 13 4 10] (sR [qa 11 10 4,ql 12 11,qm 13 1,qk 14 112 12 13,qa 15 10 4,qw 1 15 14] (sR [qa 16 11 4,ql 17 16,qm 18 2,qk 19 113 17 18,qa 20 11 4,qw 1 20 19] (sR [qa 21 12
 4,ql 22 21,qm 23 3,qk 24 114 22 23,qa 25 12 4,qw 1 25 24] (.seq (sR [qa 26 1 4,ql 27 26,qq 28 27 0,qm 29 28,qaT 30 11 4 29,qlT 31 30 29,qaT 32 0 4 29,qlT 33 32 29,qkT 34 115 31 33 29,qp 35 29 34] (.cond (.t 35) (.reg false [qa 36 1 4,⟨none,.st 1
 (.t 36) (.c (.val (.int .i64 1))),none⟩] []) .skip)) (sR [qL 37 13 4,qw 13 8 37] .ret)))))),[.cell 8 13 true]⟩
def c41:CF:=⟨sR [qB 1 0,⟨some 2,.alloc z13,none⟩] (sR [qL 3 13 1,qc 4 83 3,qw 13 1 4] (.seq (.reg true [qa 5 12 1,ql 6 5,qa 7 0 1,ql 8 7,qL 9 13 1,qc 10 21 9,qc 11 86 10,qK 12 85 6 8 11,qa 13 12 1,qw 1 13 12] [(1,5),(3,5),(1,6),(3,6)]) (sR
 [qL 14 13 1,qw 13 2 14] .ret))),[.cell 2 13 true]⟩
def L42_0:CC:=(.seq (sR [qm 11 5,qm 12 0,qe 13 12,qz 14 11 13] (.cond (.t 14) .skip (.exit 0))) (.seq (.block 1 (.seq (.reg true [qm 17 0,qm 18 5,qX 19 3 17 18,qa 20 0 19,ql 21 20,qm 22 1,qm 23 5,qX 24 3 22 23,qa 25 0 24,ql 26 25,qN 27 9 21
 26,qm 28 27,qmF 29 0 28,qmF 30 5 28,qXF 31 3 29 30 28,qaF 32 1 31 28,qLF 33 2 32 28,qmF 34 1 28,qmF 35 5 28,qXF 36 3 34 35 28,qaF 37 1 36 28,qLF 38 2 37 28,qkF 39 116 33 38 28,qbF 40 39 28,qo 41 28 40] []) (.cond (.t 41) (sR [qf 4] .ret) .skip)))
 (.reg false [qm 15 5,qs 16 15,qm 5 16] [])))
def c42:CF:=⟨sR [qf 4] (.seq (sR [qm 6 0,qe 7 6,qm 8 1,qe 9 8,qN 10 3 7 9] (.cond (.t 10) (sR [qf 4] .ret) .skip)) (.seq (sR [qi 5 0] (.block 0 (.loop L42_0))) (sR [qt 4] .ret))),[.tmp 4]⟩
def c43:CF:=⟨sR [qB 1 0,qj 2] (.seq (.reg true [qa 3 5 1,ql 4 3,qa 5 6 1,ql 6 5,qc 7 118 6,qk 8 117 4 7,qm 2 8] [(1,4)]) .ret),[.tmp 2]⟩
def L44_0:CC:=(.seq (sR [qm 9 5,qm 10 1,qe 11 10,qz 12 9 11] (.cond (.t 12) .skip (.exit 0))) (.seq (.block 1 (sR [qm 15 1,qm 16 5,qX 17 3 15 16,qa 18 0 17,ql 19 18,qm 6 19] (sR [qa 20 6 2,ql 21 20,qm 22 6,qk 23 119 21 22,qm 7 23] (sR [qm 24
 7,⟨some 25,.build [.val (.int .i64 0),.im [] true] [(0,1,(.t 24))],none⟩,⟨some 8,.alloc [.val (.int .i64 0),.im [] true],none⟩,qw 2 8 25] (.seq (.seq (.reg true [qm 26 7,qG 27 26 0,qm 28 27,qmT 29 1 28,qmT 30 5 28,qXT 31 3 29 30 28,qaT 32 1 31
 28,qLT 33 2 32 28,qLT 34 2 8 28,qkT 35 87 33 34 28,qp 36 28 35] []) (.cond (.t 36) (.exit 1) .skip)) (.seq (sR [qm 37 7,qG 38 37 0] (.cond (.t 38) (sR [qa 39 6 2,ql 40 39,qm 41 6,qk 42 120 40 41,qa 43 6 2,qw 1 43 42] (.reg false [qa 44 5 2,ql 45
 44,qm 46 6,qL 47 2 8,⟨some 48,.build [.val (.string ⟨#[]⟩),.val (.int .i64 0),.im [] true] [(0,1,(.t 46)),(1,2,(.t 47))],none⟩,⟨some 49,.bsl 3 1 [.val (.string ⟨#[]⟩),.val (.int .i64 0),.im [] true] [(0,3,(.t 48))],none⟩,qk 50 117 45 49,qa 51
 5 2,qw 1 51 50] [])) .skip)) (.reg true [qa 52 5 2,ql 53 52,qm 54 1,qm 55 5,qX 56 3 54 55,qL 57 3 56,⟨some 58,.bsl 3 1 [.val (.string ⟨#[]⟩),.val (.int .i64 0),.im [] true] [(0,3,(.t 57))],none⟩,qk 59 117 53 58,qa 60 5 2,qw 1 60 59] [(1,
 6)]))))))) (.reg false [qm 13 5,qs 14 13,qm 5 14] [])))
def c44:CF:=⟨sR [qB 2 0,⟨some 4,.alloc z13,none⟩] (.seq (sR [qi 5 0] (.block 0 (.loop L44_0))) (sR [qL 61 13 2,qw 13 4 61] .ret)),[.cell 4 13 true]⟩
def c45:CF:=⟨sR [qB 1 0,⟨some 2,.alloc z13,none⟩] (.seq (.reg true [qa 3 12 1,ql 4 3,qa 5 0 1,ql 6 5,qL 7 13 1,qc 8 43 7,qc 9 121 8,qK 10 104 4 6 9,qa 11 12 1,qw 1 11 10] [(1,5),(3,5),(1,6),(3,6)]) (sR [qL 12 13 1,qw 13 2 12] .ret)),[.cell 2 13 true]⟩
def c46:CF:=⟨sR [qB 4 0,⟨some 8,.alloc z13,none⟩] (sR [qa 9 10 4,ql 10 9,qm 11 1,qk 12 34 10 11,qa 13 10 4,qw 1 13 12] (sR [qa 14 11 4,ql 15 14,qm 16 2,qk 17 122 15 16,qa 18 11 4,qw 1 18 17] (sR [qa 19 12 4,ql 20 19,qm 21 3,qk 22 123 20 21,qa 23
 12 4,qw 1 23 22] (.seq (sR [qa 24 1 4,ql 25 24,qq 26 25 0,qm 27 26,qaT 28 11 4 27,qlT 29 28 27,qaT 30 0 4 27,qlT 31 30 27,qkT 32 124 29 31 27,qp 33 27 32] (.cond (.t 33) (.reg false [qa 34 1 4,⟨none,.st 1 (.t 34) (.c (.val (.int .i64 1))),none⟩]
 []) .skip)) (sR [qL 35 13 4,qw 13 8 35] .ret))))),[.cell 8 13 true]⟩
def L49_0:CC:=(.seq (sR [qm 11 5,qm 12 0,qe 13 12,qz 14 11 13] (.cond (.t 14) .skip (.exit 0))) (.seq (.block 1 (.seq (.reg true [qm 17 0,qm 18 5,qX 19 9 17 18,qL 20 9 19,qm 21 1,qm 22 5,qX 23 9 21 22,qL 24 9 23,qN 25 79 20 24] []) (.cond (.t
 25) (sR [qf 4] .ret) .skip))) (.reg false [qm 15 5,qs 16 15,qm 5 16] [])))
def c49:CF:=⟨sR [qf 4] (.seq (sR [qm 6 0,qe 7 6,qm 8 1,qe 9 8,qN 10 3 7 9] (.cond (.t 10) (sR [qf 4] .ret) .skip)) (.seq (sR [qi 5 0] (.block 0 (.loop L49_0))) (sR [qt 4] .ret))),[.tmp 4]⟩
def L50_0:CC:=(.seq (sR [qm 5 4,qm 6 0,qe 7 6,qz 8 5 7] (.cond (.t 8) .skip (.exit 0))) (.seq (.block 1 (.reg false [qm 11 3,qm 12 0,qm 13 4,qX 14 8 12 13,qL 15 8 14,qc 16 125 15,⟨some 17,.bsl 9 1 z9 [(0,9,(.t 16))],none⟩,qA 18 9 11 17,qm 3
 18] [])) (.reg false [qm 9 4,qs 10 9,qm 4 10] [])))
def c50:CF:=⟨sR [qj 2] (sR [qj 3] (.seq (sR [qi 4 0] (.block 0 (.loop L50_0))) (sR [qm 19 3,qm 2 19] .ret))),[.tmp 2]⟩
def c52:CF:=⟨sR [qf 4] (sR [qm 8 0,qm 9 1,⟨some 10,.call (.c (.fn 126 [])) [.t 8,.t 9,.c (.fn 92 [])],none⟩,qm 7 10,qE 11 7 0,qE 12 7 1,qm 5 11,qm 6 12] (sR [qm 13 6,qm 4 13] .ret)),[.tmp 4]⟩
def L53_0:CC:=(sR [qz 18 17 16] (.seq (.cond (.t 18) .skip (.exit 0)) (.seq (.block 1 (sR [qx 19 15 17,ql 20 19,qm 4 20] (sR [qm 21 4,⟨some 22,.bin .leq 5 false true (.t 21) (.c (.val (.int .u8 48))),none⟩,qm 23 22,qmF 24 4 23,⟨some 25,.bin .gtr
 5 false true (.t 24) (.c (.val (.int .u8 57))),some (23,false)⟩,qo 26 23 25] (.cond (.t 26) (sR [qf 2] .ret) .skip)))) (.reg false [qs 27 17,qm 17 27] []))))
def c53:CF:=⟨sR [qf 2] (.seq (sR [qm 5 0,⟨some 6,.call (.c (.fn 127 [])) [.t 5,.c (.val (.string ⟨#[48]⟩))],none⟩,qb 7 6,qm 8 7,qmF 9 0 8,⟨some 10,.len true (.t 9),some (8,false)⟩,qGF 11 10 6 8,qo 12 8 11] (.cond (.t 12) (sR [qf 2] .ret)
 .skip)) (.seq (sR [qm 13 0,⟨some 14,.slc 0 (.t 13) (some (.c (.val (.int .i64 1)))) none none,none⟩,⟨some 15,.s2b (.t 14),none⟩,qe 16 15,qi 17 0] (.block 0 (.loop L53_0))) (sR [qt 2] .ret))),[.tmp 2]⟩
def c54:CF:=⟨sR [⟨some 2,.mv (.c (.val (.string ⟨#[]⟩))),none⟩,qi 3 0] (.seq (.block 0 (sR [qm 5 0,qc 6 53 5,qb 7 6,qm 4 7] (.cond (.t 4) (sR [⟨some 2,.mv (.c (.val (.string ⟨#[]⟩))),none⟩,qi 3 4] .ret) (sR [qm 9 0,⟨some 10,.bin .eql 39 false
 true (.t 9) (.c (.val (.string ⟨#[48]⟩))),none⟩,qm 8 10] (.cond (.t 8) (sR [⟨some 2,.mv (.c (.val (.string ⟨#[]⟩))),none⟩,qi 3 14] .ret) .skip))))) (sR [qm 11 0,qm 12 0,⟨some 13,.len true (.t 12),none⟩,qS 14 13 1,⟨some 15,.slc 0 (.t 11) none (some
 (.t 14)) none,none⟩,qm 2 15,qi 3 0] .ret)),[.tmp 2,.tmp 3]⟩
def c55:CF:=⟨sR [⟨some 4,.mv (.c (.val (.string ⟨#[]⟩))),none⟩,qi 5 0] (.seq (.block 0 (sR [qm 7 0,qc 8 53 7,qb 9 8,qm 6 9] (.cond (.t 6) (sR [⟨some 4,.mv (.c (.val (.string ⟨#[]⟩))),none⟩,qi 5 4] .ret) (sR [qm 11 1,qU 12 11 1,qm 13 12,qmF 14 1
 13,qGF 15 14 9 13,qo 16 13 15,qm 10 16] (.cond (.t 10) (sR [⟨some 4,.mv (.c (.val (.string ⟨#[]⟩))),none⟩,qi 5 1] .ret) (sR [qm 18 0,⟨some 19,.len true (.t 18),none⟩,qq 20 19 6,qm 17 20] (.cond (.t 17) (sR [⟨some 4,.mv (.c (.val (.string
 ⟨#[]⟩))),none⟩,qi 5 18] .ret) .skip))))))) (sR [qm 21 0,qm 22 1,⟨some 23,.bin .add 3 true false (.c (.val (.int .i64 48))) (.t 22),none⟩,qV 24 3 5 23,⟨some 25,.bsl 1 1 [.val (.int .u8 0)] [(0,1,(.t 24))],none⟩,⟨some 26,.b2s (.t 25),none⟩,qD 27 39
 21 26,qm 4 27,qi 5 0] .ret)),[.tmp 4,.tmp 5]⟩
def c56:CF:=⟨sR [⟨some 0,.alloc z13,none⟩] (sR [⟨some 1,.call (.c (.fn 128 [])) [],none⟩,⟨some 2,.bsl 1 1 [.val (.string ⟨#[]⟩)] [(0,1,(.c (.val (.string ⟨#[48]⟩))))],none⟩,⟨some 3,.build z13 [(0,1,(.c (.val (.string ⟨#[48]⟩)))),(9,1,(.t
 1)),(10,1,(.t 2))],none⟩,qw 13 0 3] .ret),[.cell 0 13 true]⟩
def c57:CF:=⟨sR [⟨some 0,.alloc z13,none⟩] (sR [⟨some 1,.build [.val (.int .i64 0),.val (.int .i64 0),.val (.int .i64 0),.val (.int .i64 0)] [(0,1,(.c (.val (.int .i64 1))))],none⟩,⟨some 2,.bsl 4 1 [.val (.int .i64 0),.val (.int .i64 0),.val
 (.int .i64 0),.val (.int .i64 0)] [(0,4,(.t 1))],none⟩,⟨some 3,.bsl 1 1 [.val (.string ⟨#[]⟩)] [(0,1,(.c (.val (.string ⟨#[48]⟩))))],none⟩,⟨some 4,.build z13 [(0,1,(.c (.val (.string ⟨#[48]⟩)))),(9,1,(.t 2)),(10,1,(.t 3))],none⟩,qw 13 0
 4] .ret),[.cell 0 13 true]⟩
def c58:CF:=⟨sR [qB 2 0,⟨some 4,.alloc z13,none⟩,qi 5 0] (.seq (sR [qL 9 13 2,qm 10 1,qk 11 97 9 10,qm 8 11,qE 12 8 0,qE 13 8 1,⟨some 6,.alloc z8,none⟩,qw 8 6 12,qm 7 13] (sR [qm 14 7,qM 15 53 14 0] (.cond (.t 15) (sR [qL 16 13 2,qm 17 7,qw 13 4
 16,qm 5 17] .ret) .skip))) (sR [qL 18 13 2,qm 19 1,⟨some 20,.build z8 [(0,1,(.t 19)),(4,1,(.c (.val (.bool true))))],none⟩,qk 21 82 18 20,qE 22 21 0,qE 23 21 1,qw 13 4 22,qm 5 23] .ret)),[.cell 4 13 true,.tmp 5]⟩
def c59:CF:=⟨sR [qB 2 0,⟨some 4,.alloc z13,none⟩,qi 5 0] (.seq (sR [qa 8 1 2,ql 9 8,qM 10 3 9 0] (.cond (.t 10) (sR [qL 11 13 2,qw 13 4 11,qi 5 5] .ret) .skip)) (.seq (sR [qm 12 1,qU 13 12 0,qm 14 13,qmF 15 1 14,qGF 16 15 31 14,qo 17 14 16]
 (.cond (.t 17) (sR [qL 18 13 2,qw 13 4 18,qi 5 6] .ret) .skip)) (sR [qa 20 8 2,ql 21 20,qm 22 1,qk 23 22 21 22,qm 19 23,qE 24 19 0,qE 25 19 1,⟨some 6,.alloc z9,none⟩,qw 9 6 24,qm 7 25] (.seq (sR [qm 26 7,qb 27 26,qm 28 27,qaF 29 4 6 28,qlF 30 29
 28,qo 31 28 30] (.cond (.t 31) (sR [qL 32 13 2,qw 13 4 32,qi 5 11] .ret) .skip)) (.seq (sR [qa 33 3 2,ql 34 33,⟨some 35,.bin .geq 3 false true (.t 34) (.c (.val (.int .i64 1048575))),none⟩,qm 36 35,qaF 37 4 2 36,qlF 38 37 36,⟨some 39,.bin .geq 3
 false true (.t 38) (.c (.val (.int .i64 1048575))),some (36,false)⟩,qo 40 36 39] (.cond (.t 40) (sR [qL 41 13 2,qw 13 4 41,qi 5 10] .ret) .skip)) (sR [qL 42 13 2,qm 43 1,⟨some 44,.build z9 [(0,1,(.t 43)),(4,1,(.c (.val (.bool
 true))))],none⟩,qk 45 129 42 44,qw 13 4 45,qi 5 0] .ret)))))),[.cell 4 13 true,.tmp 5]⟩
def c60:CF:=⟨sR [qB 2 0,⟨some 4,.alloc z13,none⟩,qi 5 0] (.seq (sR [qa 6 1 2,ql 7 6,qM 8 3 7 0] (.cond (.t 8) (sR [qL 9 13 2,qw 13 4 9,qi 5 5] .ret) .skip)) (.seq (sR [qa 10 0 2,ql 11 10,⟨some 12,.bin .eql 9 false true (.t 11) (.c (.val (.string
 ⟨#[48]⟩))),none⟩] (.cond (.t 12) (sR [qL 13 13 2,qw 13 4 13,qi 5 14] .ret) .skip)) (.seq (sR [qm 14 1,qc 15 98 14,qb 16 15] (.cond (.t 16) (sR [qL 17 13 2,qw 13 4 17,qi 5 9] .ret) .skip)) (sR [⟨some 18,.bsl 4 0 [] [],none⟩,qm 19 1,qA 20 4 18 19,qa
 21 9 2,qw 1 21 20] (sR [qL 22 13 2,qc 23 45 22,qw 13 4 23,qi 5 0] .ret))))),[.cell 4 13 true,.tmp 5]⟩
def c61:CF:=⟨sR [qB 1 0,⟨some 2,.alloc z13,none⟩,⟨some 3,.alloc z13,none⟩,qi 4 0] (.seq (sR [qa 8 1 1,ql 9 8,qM 10 3 9 0] (.cond (.t 10) (sR [qL 11 13 1,⟨some 12,.build z13 [],none⟩,qw 13 2 11,qw 13 3 12,qi 4 5] .ret) .skip)) (.seq (sR [qa 13 2
 1,ql 14 13,⟨some 15,.bin .geq 3 false true (.t 14) (.c (.val (.int .i64 9))),none⟩,qm 16 15,qaF 17 0 1 16,qlF 18 17 16,⟨some 19,.len true (.t 18),some (16,false)⟩,⟨some 20,.bin .geq 3 false true (.t 19) (.c (.val (.int .i64 6))),some (16,
 false)⟩,qo 21 16 20] (.cond (.t 21) (sR [qL 22 13 1,⟨some 23,.build z13 [],none⟩,qw 13 2 22,qw 13 3 23,qi 4 18] .ret) .skip)) (sR [qa 24 2 1,ql 25 24,qs 26 25,qa 27 2 1,qw 1 27 26] (sR [qa 29 0 1,ql 30 29,qa 31 2 1,ql 32 31,qk 33 130 30 32,qm 28
 33,qE 34 28 0,qE 35 28 1,qm 5 34,qm 6 35] (sR [qa 36 10 1,ql 37 36,qm 38 5,⟨some 39,.bsl 1 1 [.val (.string ⟨#[]⟩)] [(0,1,(.t 38))],none⟩,qk 40 34 37 39,qa 41 10 1,qw 1 41 40] (.seq (.reg true [qa 42 12 1,ql 43 42,qm 44 5,qL 45 13 1,qc 46 43
 45,qc 47 121 46,qK 48 104 43 44 47,qa 49 12 1,qw 1 49 48] [(1,4),(1,5)]) (sR [qL 50 13 1,qc 51 45 50,qw 13 1 51] (sR [qL 52 13 1,⟨some 7,.alloc z13,none⟩,qw 13 7 52] (sR [qm 53 5,qa 54 0 7,qw 1 54 53,qa 55 2 7,⟨none,.st 1 (.t 55) (.c (.val (.int
 .i64 0))),none⟩,qa 56 3 7,⟨none,.st 1 (.t 56) (.c (.val (.int .i64 0))),none⟩] (.seq (.reg true [qL 57 13 1,qL 58 13 7,qc 59 45 58,qw 13 2 57,qw 13 3 59,qi 4 0] [(0,2)]) .ret)))))))))),[.cell 2 13 true,.cell 3 13 true,.tmp 4]⟩
def L62_0:CC:=(.seq (sR [qm 53 8,qa 54 8 2,ql 55 54,qe 56 55,qz 57 53 56] (.cond (.t 57) .skip (.exit 0))) (.seq (.block 1 (sR [qa 60 8 2,ql 61 60,qm 62 8,qX 63 9 61 62,qL 64 9 63,⟨some 9,.alloc z9,none⟩,qw 9 9 64] (sR [qa 65 4 9,ql 66 65,qb 67
 66,qm 68 67,qaT 69 8 9 68,qlT 70 69 68,qbT 71 70 68,qp 72 68 71,qm 73 72,qmT 74 7 73,qaT 75 1 9 73,qaT 76 0 75 73,qlT 77 76 73,qaT 78 1 9 73,qaT 79 1 78 73,qlT 80 79 73,⟨some 81,.call (.c (.fn 132 [])) [.t 74,.t 77,.t 80],some (73,true)⟩,qbT 82 81
 73,qp 83 73 82,qm 84 83,qaT 85 9 3 84,qlT 86 85 84,qaT 87 5 9 84,qLT 88 2 87 84,qkT 89 29 86 88 84,qp 90 84 89] (.cond (.t 90) (.seq (.reg true [qL 91 13 2,qL 92 13 3,qw 13 4 91,qw 13 5 92,qi 6 15] [(1,2)]) .ret) .skip)))) (.reg false [qm 58 8,qs
 59 58,qm 8 59] [])))
def L62_1:CC:=(.seq (sR [qm 93 10,qa 94 8 2,ql 95 94,qe 96 95,qz 97 93 96] (.cond (.t 97) .skip (.exit 2))) (.seq (.block 3 (sR [qa 100 8 2,ql 101 100,qm 102 10,qX 103 9 101 102,qL 104 9 103,⟨some 11,.alloc z9,none⟩,qw 9 11 104] (sR [qa 106 8
 3,ql 107 106,qa 108 0 11,ql 109 108,qk 110 22 107 109,qm 105 110,qE 111 105 0,qE 112 105 1,⟨some 12,.alloc z9,none⟩,qw 9 12 111,qm 13 112] (sR [qm 113 7,qa 114 1 11,qa 115 0 114,ql 116 115,qa 117 1 11,qa 118 1 117,ql 119 118,qK 120 132 113 116
 119,qb 121 120,qm 122 121,qmF 123 13 122,qmF 124 123 122,qaT 125 8 11 124,qlT 126 125 124,qpF 127 124 126 122,qmF 128 127 122,qaT 129 1 12 128,qLT 130 3 129 128,qaT 131 1 11 128,qLT 132 3 131 128,qQT 133 77 130 132 128,qpF 134 128 133 122,qo 135
 122 134] (.cond (.t 135) (.reg false [qa 137 8 3,ql 138 137,qL 139 9 11,qk 140 133 138 139,qm 136 140,qE 141 136 0,qE 142 136 1,qa 143 8 3,qw 1 143 141] []) .skip))))) (.reg false [qm 98 10,qs 99 98,qm 10 99] [])))
def c62:CF:=⟨sR [qB 2 0,qB 3 1,⟨some 4,.alloc z13,none⟩,⟨some 5,.alloc z13,none⟩,qi 6 0] (.seq (sR [qa 14 1 2,ql 15 14,qM 16 3 15 0,qm 17 16,qaF 18 1 3 17,qlF 19 18 17,⟨some 20,.bin .neq 3 false true (.t 19) (.c (.val (.int .i64 0))),some (17,
 false)⟩,qo 21 17 20] (.cond (.t 21) (.seq (.reg true [qL 22 13 2,qL 23 13 3,qw 13 4 22,qw 13 5 23,qi 6 5] [(1,2)]) .ret) .skip)) (.seq (sR [qa 24 0 2,ql 25 24,qa 26 0 3,ql 27 26,qQ 28 9 25 27] (.cond (.t 28) (.seq (.reg true [qL 29 13 2,qL 30 13
 3,qw 13 4 29,qw 13 5 30,qi 6 1] [(1,2)]) .ret) .skip)) (.seq (sR [qa 31 0 2,ql 32 31,⟨some 33,.bin .eql 9 false true (.t 32) (.c (.val (.string ⟨#[48]⟩))),none⟩] (.cond (.t 33) (.seq (.reg true [qL 34 13 2,qL 35 13 3,qw 13 4 34,qw 13 5 35,qi 6 14]
 [(1,2)]) .ret) .skip)) (sR [qL 36 13 3,qc 37 43 36,qm 7 37] (.seq (.seq (.reg true [qa 38 7 2,ql 39 38,qm 40 7,qk 41 131 39 40,qb 42 41,qm 43 42,qaF 44 7 3 43,qlF 45 44 43,qLF 46 13 2 43,qcF 47 43 46 43,qkF 48 131 45 47 43,qbF 49 48 43,qo 50 43
 49] [(7,9)]) (.cond (.t 50) (.seq (.reg true [qL 51 13 2,qL 52 13 3,qw 13 4 51,qw 13 5 52,qi 6 16] [(1,2)]) .ret) .skip)) (.seq (sR [qi 8 0] (.block 0 (.loop L62_0))) (.seq (sR [qi 10 0] (.block 2 (.loop L62_1))) (.seq (.reg true [qL 144 13 3,qL
 145 13 2,qc 146 43 145,qk 147 44 144 146,qw 13 3 147] [(0,2)]) (sR [qa 148 4 3,ql 149 148,qa 150 4 2,ql 151 150,⟨some 152,.fun_ .max #[3,3] 3 [.t 149,.t 151],none⟩,qa 153 4 3,qw 1 153 152] (sR [qL 154 13 3,qa 155 10 2,ql 156 155,qa 157 11 2,ql 158
 157,qa 159 12 2,ql 160 159,⟨some 161,.call (.c (.fn 46 [])) [.t 154,.t 156,.t 158,.t 160],none⟩,qw 13 3 161] (sR [qa 162 11 3,ql 163 162,qa 164 0 2,ql 165 164,qa 166 3 2,ql 167 166,qK 168 134 163 165 167,qa 169 11 3,qw 1 169 168] (sR [qa 170 1
 2,⟨none,.st 1 (.t 170) (.c (.val (.int .i64 1))),none⟩] (.seq (.reg true [qL 171 13 2,qc 172 45 171,qL 173 13 3,qc 174 45 173,qw 13 4 172,qw 13 5 174,qi 6 0] [(1,2)]) .ret))))))))))))),[.cell 4 13 true,.cell 5 13 true,.tmp 6]⟩
def c63:CF:=⟨sR [qB 2 0,⟨some 4,.alloc z13,none⟩,qi 5 0] (.seq (.block 0 (sR [qa 7 1 2,ql 8 7,qM 9 3 8 0,qm 6 9] (.cond (.t 6) (sR [qL 10 13 2,qw 13 4 10,qi 5 5] .ret) (sR [qm 12 1,⟨some 13,.bin .eql 39 false true (.t 12) (.c (.val (.string
 ⟨#[48]⟩))),none⟩,qm 11 13] (.cond (.t 11) (sR [qL 14 13 2,qw 13 4 14,qi 5 14] .ret) (sR [qm 16 1,qa 17 0 2,ql 18 17,qQ 19 39 16 18,qm 15 19] (.cond (.t 15) (sR [qL 20 13 2,qw 13 4 20,qi 5 1] .ret) (sR [qa 22 10 2,ql 23 22,qm 24 1,qk 25 52 23 24,qb
 26 25,qm 21 26] (.cond (.t 21) (sR [qL 27 13 2,qw 13 4 27,qi 5 4] .ret) (sR [qa 29 11 2,ql 30 29,qm 31 1,qk 32 115 30 31,qm 28 32] (.cond (.t 28) (sR [qL 33 13 2,qw 13 4 33,qi 5 19] .ret) .skip))))))))))) (sR [qL 34 13 2,qc 35 83 34,qw 13 2 35]
 (.seq (.reg true [qa 36 11 2,ql 37 36,qm 38 1,qL 39 13 2,qc 40 21 39,qm 41 1,qk 42 135 40 41,⟨some 43,.fld 0 1 false (.t 42),none⟩,qK 44 71 37 38 43,qa 45 11 2,qw 1 45 44] [(1,4),(1,6)]) (sR [qL 46 13 2,qc 47 41 46,qw 13 4 47,qi 5 0]
 .ret)))),[.cell 4 13 true,.tmp 5]⟩
def c64:CF:=⟨sR [qB 2 0,⟨some 4,.alloc z13,none⟩,qi 5 0] (.seq (sR [qa 6 1 2,ql 7 6,qM 8 3 7 0] (.cond (.t 8) (sR [qL 9 13 2,qw 13 4 9,qi 5 5] .ret) .skip)) (.seq (sR [qm 10 1,⟨some 11,.bin .eql 9 false true (.t 10) (.c (.val (.string
 ⟨#[48]⟩))),none⟩] (.cond (.t 11) (sR [qL 12 13 2,qw 13 4 12,qi 5 14] .ret) .skip)) (.seq (sR [qm 13 1,qa 14 0 2,ql 15 14,qQ 16 9 13 15] (.cond (.t 16) (sR [qL 17 13 2,qw 13 4 17,qi 5 1] .ret) .skip)) (.seq (sR [qa 18 10 2,ql 19 18,qm 20 1,qk 21 105
 19 20,qb 22 21] (.cond (.t 22) (sR [qL 23 13 2,qw 13 4 23,qi 5 4] .ret) .skip)) (.seq (sR [qa 24 11 2,ql 25 24,qm 26 1,qk 27 124 25 26] (.cond (.t 27) (sR [qL 28 13 2,qw 13 4 28,qi 5 19] .ret) .skip)) (.seq (.reg true [qa 29 11 2,ql 30 29,qm 31
 1,qL 32 13 2,qc 33 43 32,qm 34 1,qk 35 88 33 34,⟨some 36,.fld 0 1 false (.t 35),none⟩,qK 37 134 30 31 36,qa 38 11 2,qw 1 38 37] [(1,4),(1,6)]) (sR [qL 39 13 2,qc 40 45 39,qw 13 4 40,qi 5 0] .ret))))))),[.cell 4 13 true,.tmp 5]⟩
def c65:CF:=⟨sR [qB 1 0,⟨some 2,.mv (.c (.val (.complex .f64 0 0))),none⟩] (sR [qa 3 0 1,ql 4 3,qV 5 3 176 4,qa 6 1 1,ql 7 6,qV 8 3 176 7,⟨some 9,.fun_ .complex #[176,176] 67 [.t 5,.t 8],none⟩,qm 2 9] .ret),[.tmp 2]⟩
def c66:CF:=⟨sR [qB 4 0,qB 6 2,⟨some 8,.alloc z13,none⟩,qi 9 0] (.seq (sR [qa 10 1 4,ql 11 10,qM 12 3 11 0] (.cond (.t 12) (sR [qL 13 13 4,qw 13 8 13,qi 9 5] .ret) .skip)) (.seq (sR [qm 14 1,qU 15 14 0,qm 16 15,qmF 17 1 16,qGF 18 17 31 16,qo 19
 16 18] (.cond (.t 19) (sR [qL 20 13 4,qw 13 8 20,qi 9 6] .ret) .skip)) (.seq (sR [qL 21 2 6,qc 22 99 21,qb 23 22] (.cond (.t 23) (sR [qL 24 13 4,qw 13 8 24,qi 9 8] .ret) .skip)) (.seq (sR [qa 25 9 4,ql 26 25,qL 27 2 6,qk 28 29 26 27,qb 29 28]
 (.cond (.t 29) (sR [qL 30 13 4,qw 13 8 30,qi 9 9] .ret) .skip)) (.seq (sR [qm 31 3,⟨some 32,.len true (.t 31),none⟩,qG 33 32 16] (.cond (.t 33) (sR [qL 34 13 4,qw 13 8 34,qi 9 7] .ret) .skip)) (.seq (sR [qa 35 3 4,ql 36 35,⟨some 37,.bin .geq 3
 false true (.t 36) (.c (.val (.int .i64 1048575))),none⟩,qm 38 37,qaF 39 4 4 38,qlF 40 39 38,⟨some 41,.bin .geq 3 false true (.t 40) (.c (.val (.int .i64 1048575))),some (38,false)⟩,qo 42 38 41] (.cond (.t 42) (sR [qL 43 13 4,qw 13 8 43,qi 9 10]
 .ret) .skip)) (sR [qL 44 13 4,qm 45 1,qL 46 2 6,qm 47 3,⟨some 48,.build z9 [(0,1,(.t 45)),(5,2,(.t 46)),(7,1,(.t 47)),(8,1,(.c (.val (.bool true))))],none⟩,qk 49 129 44 48,qw 13 8 49,qi 9 0] .ret))))))),[.cell 8 13 true,.tmp 9]⟩
def c67:CF:=⟨sR [qB 3 0,qB 4 1,qi 6 0] (.seq (.block 0 (sR [qa 8 1 3,ql 9 8,qM 10 3 9 0,qm 11 10,qaF 12 1 4 11,qlF 13 12 11,⟨some 14,.bin .neq 3 false true (.t 13) (.c (.val (.int .i64 0))),some (11,false)⟩,qo 15 11 14,qm 7 15] (.cond (.t 7)
 (sR [qi 6 5] .ret) (sR [qa 17 0 3,ql 18 17,qa 19 0 4,ql 20 19,qQ 21 39 18 20,qm 16 21] (.cond (.t 16) (sR [qi 6 1] .ret) (sR [qa 23 0 3,ql 24 23,⟨some 25,.bin .eql 39 false true (.t 24) (.c (.val (.string ⟨#[48]⟩))),none⟩,qm 22 25] (.cond (.t 22)
 (sR [qi 6 14] .ret) (.seq (.reg true [qm 27 2,qa 28 7 3,ql 29 28,qk 30 136 27 29,qb 31 30,qm 32 31,qLF 33 13 3 32,qcF 34 21 33 32,qaF 35 7 4 32,qlF 36 35 32,qkF 37 136 34 36 32,qbF 38 37 32,qo 39 32 38,qm 26 39] [(7,9)]) (.cond (.t 26) (sR [qi 6
 16] .ret) (sR [qL 41 13 3,qL 42 13 4,qm 43 2,qK 44 137 41 42 43,qm 40 44] (.cond (.t 40) (sR [qi 6 15] .ret) .skip))))))))))) (sR [qi 6 0] .ret)),[.tmp 6]⟩
def c68:CF:= ⟨sR [⟨some 4,.alloc z8,none⟩,qf 5] (sR [qm 9 0,qm 10 1,qk 11 138 9 10,qm 8 11,qE 12 8 0,qE 13 8 1,qm 6 12,qm 7 13] (.seq (sR [qm 14 7,qb 15 14] (.cond (.t 15) (sR [⟨some 16,.build z8 [],none⟩,qw 8 4 16,qf 5] .ret) .skip)) (sR [qm 17
 0,qm 18 6,qX 19 8 17 18,qL 20 8 19,qw 8 4 20,qt 5] .ret))),[.cell 4 8 true,.tmp 5]⟩
def c69:CF:=⟨sR [qf 6] (sR [qm 10 0,qm 11 1,qk 12 139 10 11,qm 9 12,qE 13 9 0,qE 14 9 1,qm 7 13,qm 8 14] (sR [qm 15 8,qm 16 15,qmT 17 0 16,qmT 18 7 16,qXT 19 3 17 18 16,qaT 20 1 19 16,qLT 21 2 20 16,qmT 22 2 16,qkT 23 140 21 22 16,qp 24 16 23,qm
 6 24] .ret)),[.tmp 6]⟩
def c70:CF:=⟨sR [qB 3 1,qj 4,qf 5] (sR [qm 9 0,qc 10 141 9,qm 6 10] (sR [qm 12 6,qa 13 0 3,ql 14 13,qk 15 138 12 14,qm 11 15,qE 16 11 0,qE 17 11 1,qm 7 16,qm 8 17] (.seq (.block 0 (sR [qm 19 8,qb 20 19,qm 18 20] (.cond (.t 18) (sR [qm 21 6,qm 22
 7,qL 23 8 3,⟨some 24,.bsl 8 1 z8 [(0,8,(.t 23))],none⟩,qK 25 142 21 22 24,qm 4 25,qt 5] .ret) (.seq (.reg true [qm 27 6,qm 28 7,qX 29 8 27 28,qL 30 8 29,qL 31 8 3,qk 32 143 30 31,qm 26 32] []) (.cond (.t 26) (sR [qm 33 6,qm 34 7,qL 35 8 3,qX 36 8
 33 34,qw 8 36 35] (sR [qm 37 6,qm 4 37,qt 5] .ret)) .skip))))) (sR [qm 38 6,qm 4 38,qf 5] .ret)))),[.tmp 4,.tmp 5]⟩
def c71:CF:=⟨sR [qj 6] (sR [qm 7 0,qm 8 1,qm 9 2,⟨some 10,.fun_ .min #[3,3] 3 [.t 9,.c (.val (.int .i64 1048575))],none⟩,⟨some 11,.fun_ .max #[3,3] 3 [.c (.val (.int .i64 0)),.t 10],none⟩,⟨some 12,.bin .add 3 true false (.c (.val (.int .i64 1)))
 (.t 11),none⟩,qK 13 144 7 8 12,qm 6 13] .ret),[.tmp 6]⟩
def L72_0:CC:=(.seq (sR [qm 11 5,qm 12 0,qe 13 12,qz 14 11 13] (.cond (.t 14) .skip (.exit 0))) (.seq (.block 1 (.seq (.reg true [qm 17 0,qm 18 5,qX 19 2 17 18,qL 20 2 19,qm 21 1,qm 22 5,qX 23 2 21 22,qL 24 2 23,qN 25 190 20 24] []) (.cond (.t
 25) (sR [qf 4] .ret) .skip))) (.reg false [qm 15 5,qs 16 15,qm 5 16] [])))
def c72:CF:=⟨sR [qf 4] (.seq (sR [qm 6 0,qe 7 6,qm 8 1,qe 9 8,qN 10 3 7 9] (.cond (.t 10) (sR [qf 4] .ret) .skip)) (.seq (sR [qi 5 0] (.block 0 (.loop L72_0))) (sR [qt 4] .ret))),[.tmp 4]⟩
def L73_0:CC:=(.seq (sR [qm 11 5,qm 12 0,qe 13 12,qz 14 11 13] (.cond (.t 14) .skip (.exit 0))) (.seq (.block 1 (.seq (.reg true [qm 17 0,qm 18 5,qX 19 4 17 18,qL 20 4 19,qm 21 1,qm 22 5,qX 23 4 21 22,qL 24 4 23,qN 25 127 20 24] []) (.cond (.t
 25) (sR [qf 4] .ret) .skip))) (.reg false [qm 15 5,qs 16 15,qm 5 16] [])))
def c73:CF:=⟨sR [qf 4] (.seq (sR [qm 6 0,qe 7 6,qm 8 1,qe 9 8,qN 10 3 7 9] (.cond (.t 10) (sR [qf 4] .ret) .skip)) (.seq (sR [qi 5 0] (.block 0 (.loop L73_0))) (sR [qt 4] .ret))),[.tmp 4]⟩
def L74_0:CC:=(.seq (sR [qm 11 5,qm 12 0,qe 13 12,qz 14 11 13] (.cond (.t 14) .skip (.exit 0))) (.seq (.block 1 (.seq (.reg true [qm 17 0,qm 18 5,qx 19 17 18,ql 20 19,qm 21 1,qm 22 5,qx 23 21 22,ql 24 23,qN 25 9 20 24] []) (.cond (.t 25) (sR [qf
 4] .ret) .skip))) (.reg false [qm 15 5,qs 16 15,qm 5 16] [])))
def c74:CF:=⟨sR [qf 4] (.seq (sR [qm 6 0,qe 7 6,qm 8 1,qe 9 8,qN 10 3 7 9] (.cond (.t 10) (sR [qf 4] .ret) .skip)) (.seq (sR [qi 5 0] (.block 0 (.loop L74_0))) (sR [qt 4] .ret))),[.tmp 4]⟩
def L75_0:CC:=(.seq (sR [qm 11 5,qm 12 0,qe 13 12,qz 14 11 13] (.cond (.t 14) .skip (.exit 0))) (.seq (.block 1 (.seq (.reg true [qm 17 0,qm 18 5,qX 19 2 17 18,qa 20 0 19,ql 21 20,qm 22 1,qm 23 5,qX 24 2 22 23,qa 25 0 24,ql 26 25,qN 27 9 21
 26,qm 28 27,qmF 29 0 28,qmF 30 5 28,qXF 31 2 29 30 28,qaF 32 1 31 28,qlF 33 32 28,qmF 34 1 28,qmF 35 5 28,qXF 36 2 34 35 28,qaF 37 1 36 28,qlF 38 37 28,qkF 39 72 33 38 28,qbF 40 39 28,qo 41 28 40] []) (.cond (.t 41) (sR [qf 4] .ret) .skip))) (.reg
 false [qm 15 5,qs 16 15,qm 5 16] [])))
def c75:CF:=⟨sR [qf 4] (.seq (sR [qm 6 0,qe 7 6,qm 8 1,qe 9 8,qN 10 3 7 9] (.cond (.t 10) (sR [qf 4] .ret) .skip)) (.seq (sR [qi 5 0] (.block 0 (.loop L75_0))) (sR [qt 4] .ret))),[.tmp 4]⟩
def L76_0:CC:=(.seq (sR [qm 5 4,qm 6 0,qe 7 6,qz 8 5 7] (.cond (.t 8) .skip (.exit 0))) (.seq (.block 1 (.reg true [qm 11 3,qm 12 0,qm 13 4,qX 14 2 12 13,qa 15 0 14,ql 16 15,qm 17 0,qm 18 4,qX 19 2 17 18,qa 20 1 19,ql 21 20,⟨some 22,.build [.val
 (.string ⟨#[]⟩),.val (.int .i64 0)] [(0,1,(.t 16)),(1,1,(.t 21))],none⟩,⟨some 23,.bsl 2 1 [.val (.string ⟨#[]⟩),.val (.int .i64 0)] [(0,2,(.t 22))],none⟩,qA 24 2 11 23,qm 3 24] [])) (.reg false [qm 9 4,qs 10 9,qm 4 10] [])))
def c76:CF:=⟨sR [qj 2] (sR [qj 3] (.seq (sR [qi 4 0] (.block 0 (.loop L76_0))) (sR [qm 25 3,qm 2 25] .ret))),[.tmp 2]⟩
def L77_0:CC:=(.seq (sR [qm 6 4,qm 7 0,qe 8 7,qz 9 6 8] (.cond (.t 9) .skip (.exit 0))) (.seq (.block 1 (sR [qm 12 0,qm 13 4,qX 14 3 12 13,qa 15 1 14,ql 16 15,qc 17 30 16,⟨some 5,.alloc [.val (.int .i64 0),.val (.int .i64 0)],none⟩,qw 2 5 17]
 (.reg true [qm 18 3,qm 19 0,qm 20 4,qX 21 3 19 20,qa 22 0 21,ql 23 22,qa 24 0 5,ql 25 24,qa 26 1 5,ql 27 26,qm 28 0,qm 29 4,qX 30 3 28 29,qa 31 2 30,ql 32 31,qV 33 176 3 32,⟨some 34,.build [.val (.int .i64 0),.val (.int .i64 0),.val (.int .i64
 0),.val (.int .i64 0)] [(0,1,(.t 23)),(1,1,(.t 25)),(2,1,(.t 27)),(3,1,(.t 33))],none⟩,⟨some 35,.bsl 4 1 [.val (.int .i64 0),.val (.int .i64 0),.val (.int .i64 0),.val (.int .i64 0)] [(0,4,(.t 34))],none⟩,qA 36 4 18 35,qm 3 36] [])))
 (.reg false [qm 10 4,qs 11 10,qm 4 11] [])))
def c77:CF:=⟨sR [qj 2] (sR [qj 3] (.seq (sR [qi 4 0] (.block 0 (.loop L77_0))) (sR [qm 37 3,qm 2 37] .ret))),[.tmp 2]⟩
def L78_0:CC:=(.seq (sR [qm 5 4,qm 6 0,qe 7 6,qz 8 5 7] (.cond (.t 8) .skip (.exit 0))) (.seq (.block 1 (.reg false [qm 11 3,qm 12 0,qm 13 4,qx 14 12 13,ql 15 14,⟨some 16,.bsl 1 1 [.val (.string ⟨#[]⟩)] [(0,1,(.t 15))],none⟩,qA 17 1 11 16,qm 3
 17] [])) (.reg false [qm 9 4,qs 10 9,qm 4 10] [])))
def c78:CF:=⟨sR [qj 2] (sR [qj 3] (.seq (sR [qi 4 0] (.block 0 (.loop L78_0))) (sR [qm 18 3,qm 2 18] .ret))),[.tmp 2]⟩
def L79_0:CC:=(.seq (sR [qm 5 4,qm 6 0,qe 7 6,qz 8 5 7] (.cond (.t 8) .skip (.exit 0))) (.seq (.block 1 (.reg true [qm 11 3,qm 12 0,qm 13 4,qX 14 2 12 13,qa 15 0 14,ql 16 15,qm 17 0,qm 18 4,qX 19 2 17 18,qa 20 1 19,ql 21 20,qc 22 76 21,⟨some
 23,.build [.val (.string ⟨#[]⟩),.im [] true] [(0,1,(.t 16)),(1,1,(.t 22))],none⟩,⟨some 24,.bsl 2 1 [.val (.string ⟨#[]⟩),.im [] true] [(0,2,(.t 23))],none⟩,qA 25 2 11 24,qm 3 25] [(5,11)])) (.reg false [qm 9 4,qs 10 9,qm 4 10] [])))
def c79:CF:=⟨sR [qj 2] (sR [qj 3] (.seq (sR [qi 4 0] (.block 0 (.loop L79_0))) (sR [qm 26 3,qm 2 26] .ret))),[.tmp 2]⟩
def c80:CF:=⟨sR [qf 2] (sR [qm 3 0,⟨some 4,.fun_ .real #[67] 176 [.t 3],none⟩,⟨some 5,.call (.c (.fn 145 [])) [.t 4,.c (.val (.float .f64 13875379345695965184)),.c (.val (.float .f64 4652007308841189376))],none⟩,qm 6 5,qmT 7 0 6,⟨some 8,.fun_
 .imag #[67] 176 [.t 7],some (6,true)⟩,⟨some 9,.call (.c (.fn 145 [])) [.t 8,.c (.val (.float .f64 13875379345695965184)),.c (.val (.float .f64 4652007308841189376))],some (6,true)⟩,qp 10 6 9,qm 2 10] .ret),[.tmp 2]⟩
def L81_0:CC:=(sR [qz 20 19 18] (.seq (.cond (.t 20) .skip (.exit 0)) (.seq (.block 1 (sR [qX 21 3 17 19,qL 22 3 21,⟨some 7,.alloc [.val (.int .i64 0),.val (.complex .f64 0 0),.val (.float .f64 0)],none⟩,qw 3 7 22] (sR [qm 23 5,qe 24 23,qL 25 3
 7,qc 26 146 25,⟨some 27,.bin .sub 3 false false (.t 24) (.t 26),none⟩,qm 8 27] (.reg true [qm 28 5,qm 29 8,⟨some 30,.slc 1 (.t 28) none (some (.t 29)) none,none⟩,qL 31 3 7,qm 32 1,qm 33 5,qm 34 8,⟨some 35,.slc 1 (.t 33) (some (.t 34)) none
 none,none⟩,qK 36 147 31 32 35,⟨some 37,.bsl 1 1 [.val (.bool false)] [(0,1,(.t 36))],none⟩,qA 38 1 30 37,qm 5 38] [(2,8),(2,9)])))) (.reg false [qs 39 19,qm 19 39] []))))
def c81:CF:=⟨sR [qf 4] (.seq (sR [qm 9 0,qc 10 94 9,qb 11 10,qm 12 11,qmF 13 1 12,qcF 14 80 13 12,qbF 15 14 12,qo 16 12 15] (.cond (.t 16) (sR [qf 4] .ret) .skip)) (sR [qj 5] (.seq (sR [qm 17 0,qe 18 17,qi 19 0] (.block 0 (.loop L81_0))) (sR [qm
 40 5,⟨some 41,.ias 1 (.t 40) (.c (.val (.int .i64 0))),none⟩,ql 42 41,qm 4 42] .ret)))),[.tmp 4]⟩
def c82:CF:=⟨sR [qB 2 0,qB 3 1,⟨some 4,.alloc z13,none⟩,qi 5 0] (.seq (sR [qa 6 3 2,ql 7 6,⟨some 8,.bin .geq 3 false true (.t 7) (.c (.val (.int .i64 1048575))),none⟩,qm 9 8,qaF 10 4 2 9,qlF 11 10 9,⟨some 12,.bin .geq 3 false true (.t 11) (.c
 (.val (.int .i64 1048575))),some (9,false)⟩,qo 13 9 12] (.cond (.t 13) (sR [qL 14 13 2,qw 13 4 14,qi 5 10] .ret) .skip)) (sR [qL 15 13 2,qc 16 83 15,qw 13 2 16] (sR [qa 17 3 2,ql 18 17,qs 19 18,qa 20 3 2,qw 1 20 19] (sR [qa 21 4 2,ql 22 21,qs 23
 22,qa 24 4 2,qw 1 24 23] (sR [qa 25 0 2,ql 26 25,qa 27 3 2,ql 28 27,qa 29 4 2,ql 30 29,⟨some 31,.build [.val (.string ⟨#[]⟩),.val (.int .i64 0),.val (.int .i64 0)] [(0,1,(.t 26)),(1,1,(.t 28)),(2,1,(.t 30))],none⟩,qa 32 1 3,qw 3 32 31] (sR
 [qa 33 5 2,ql 34 33,qa 35 0 2,ql 36 35,qa 37 3 2,ql 38 37,qK 39 148 34 36 38,qa 40 5 2,qw 1 40 39] (sR [qa 42 8 2,ql 43 42,qL 44 8 3,qk 45 70 43 44,qm 41 45,qE 46 41 0,qE 47 41 1,qa 48 8 2,qw 1 48 46] (sR [qL 49 13 2,qc 50 41 49,qw 13 4 50,qi 5 0]
 .ret)))))))),[.cell 4 13 true,.tmp 5]⟩
def c83:CF:=⟨sR [qB 1 0,⟨some 2,.alloc z13,none⟩] (.seq (.reg true [qa 3 5 1,ql 4 3,⟨some 5,.call (.c (.fn 90 [])) [.t 4,.c (.im [] true)],none⟩,qa 6 12 1,ql 7 6,⟨some 8,.call (.c (.fn 114 [])) [.t 7,.c (.im [] true)],none⟩,qa 9 5 1,qw 1 9 5,qa
 10 12 1,qw 1 10 8] [(2,4)]) (.seq (.reg true [qa 11 6 1,ql 12 11,qc 13 149 12,qa 14 7 1,ql 15 14,qc 16 149 15,qa 17 11 1,ql 18 17,qc 19 149 18,qa 20 6 1,qw 1 20 13,qa 21 7 1,qw 1 21 16,qa 22 11 1,qw 1 22 19] [(2,4),(2,7),(5,7)]) (.seq (.reg
 true [qa 23 8 1,ql 24 23,qc 25 141 24,qa 26 9 1,ql 27 26,qc 28 95 27,qa 29 10 1,ql 30 29,qc 31 150 30,qa 32 8 1,qw 1 32 25,qa 33 9 1,qw 1 33 28,qa 34 10 1,qw 1 34 31] [(2,4),(2,7),(5,7)]) (sR [qL 35 13 1,qw 13 2 35] .ret)))),[.cell 2 13 true]⟩
def c84:CF:=⟨sR [qj 4] (sR [qm 5 0,qm 6 1,⟨some 7,.bsl 1 1 [.val (.string ⟨#[]⟩)] [(0,1,(.t 6))],none⟩,qk 8 112 5 7,qm 4 8] .ret),[.tmp 4]⟩
def c85:CF:=⟨sR [qj 6] (sR [qm 10 0,qc 11 151 10,qm 7 11] (sR [qm 13 7,qm 14 1,qk 15 152 13 14,qm 12 15,qE 16 12 0,qE 17 12 1,qm 8 16,qm 9 17] (.seq (.block 0 (sR [qm 19 9,qm 18 19] (.cond (.t 18) (.reg false [qm 20 7,qm 21 8,qm 22 7,qm 23 8,qX
 24 2 22 23,qa 25 1 24,ql 26 25,qm 27 2,qk 28 153 26 27,qX 29 2 20 21,qa 30 1 29,qw 1 30 28] []) (sR [qm 32 1,qc 33 53 32,qm 34 33,qmT 35 2 34,⟨some 36,.len false (.t 35),some (34,true)⟩,qGT 37 36 0 34,qp 38 34 37,qm 31 38] (.cond (.t 31) (.reg
 false [qm 39 7,qm 40 8,qm 41 1,qm 42 2,qc 43 149 42,⟨some 44,.build [.val (.string ⟨#[]⟩),.im [] true] [(0,1,(.t 41)),(1,1,(.t 43))],none⟩,⟨some 45,.bsl 2 1 [.val (.string ⟨#[]⟩),.im [] true] [(0,2,(.t 44))],none⟩,qK 46 154 39 40 45,qm 7 46]
 []) .skip))))) (sR [qm 47 7,qm 6 47] .ret)))),[.tmp 6]⟩
def L86_0:CC:=(sR [qz 9 8 7] (.seq (.cond (.t 9) .skip (.exit 0)) (.seq (.block 1 (sR [qX 10 3 6 8,qL 11 3 10,⟨some 5,.alloc [.val (.string ⟨#[]⟩),.val (.int .i64 0),.im [] true],none⟩,qw 3 5 11] (.reg false [qm 12 3,qa 13 0 5,ql 14 13,qa 15 1
 5,qa 16 0 15,ql 17 16,qK 18 144 12 14 17,qm 3 18] []))) (.reg false [qs 19 8,qm 8 19] []))))
def c86:CF:=⟨sR [qj 2] (sR [qj 3] (.seq (sR [qm 6 0,qe 7 6,qi 8 0] (.block 0 (.loop L86_0))) (sR [qm 20 3,qm 2 20] .ret))),[.tmp 2]⟩
def L87_0:CC:=(.seq (sR [qm 10 5,qa 11 0 2,ql 12 11,⟨some 13,.bin .leq 3 false false (.t 10) (.t 12),none⟩] (.cond (.t 13) .skip (.exit 0))) (.seq (.block 1 (.seq (sR [qL 16 2 3,qm 17 5,qk 18 155 16 17,qb 19 18] (.cond (.t 19) (sR [qf 4] .ret)
 .skip)) (sR [qm 20 5,qa 21 0 3,ql 22 21,⟨some 23,.bin .add 3 false true (.t 22) (.c (.val (.int .i64 5000))),none⟩,⟨some 24,.bin .gtr 3 false false (.t 20) (.t 23),none⟩] (.cond (.t 24) (sR [qf 4] .ret) .skip)))) (.reg false [qm 14 5,qs 15 14,qm 5 15] [])))
def L87_1:CC:=(.seq (sR [qm 25 6,qa 26 1 2,ql 27 26,qe 28 27,qz 29 25 28] (.cond (.t 29) .skip (.exit 2))) (.seq (.block 3 (.seq (.reg true [qL 32 2 3,qa 33 1 2,ql 34 33,qm 35 6,qx 36 34 35,ql 37 36,qk 38 155 32 37,qb 39 38] []) (.cond (.t 39)
 (sR [qf 4] .ret) .skip))) (.reg false [qm 30 6,qs 31 30,qm 6 31] [])))
def c87:CF:=⟨sR [qB 2 0,qB 3 1,qf 4] (.seq (sR [qa 7 0 3,ql 8 7,qs 9 8,qm 5 9] (.block 0 (.loop L87_0))) (.seq (sR [qi 6 0] (.block 2 (.loop L87_1))) (sR [qt 4] .ret))),[.tmp 4]⟩
def L88_0:CC:=(.seq (sR [qm 6 5,qm 7 0,qe 8 7,qz 9 6 8] (.cond (.t 9) .skip (.exit 0))) (.seq (.block 1 (sR [qm 12 0,qm 13 5,qX 14 3 12 13,qa 15 0 14,ql 16 15,qm 17 1,qQ 18 9 16 17] (.cond (.t 18) (sR [qm 19 0,qm 20 5,qX 21 3 19 20,qa 22 1 21,qL
 23 2 22,qw 2 4 23] .ret) .skip))) (.reg false [qm 10 5,qs 11 10,qm 5 11] [])))
def c88:CF:=⟨sR [⟨some 4,.alloc [.val (.int .i64 0),.im [] true],none⟩] (.seq (sR [qi 5 0] (.block 0 (.loop L88_0))) (sR [⟨some 24,.build [.val (.int .i64 0),.im [] true] [],none⟩,qw 2 4 24] .ret)),[.cell 4 2 true]⟩
def c89:CF:=⟨sR [qB 1 0,⟨some 2,.alloc [.val (.int .i64 0),.im [] true],none⟩] (.seq (.reg true [qa 3 0 1,ql 4 3,⟨some 5,.bsl 1 0 [] [],none⟩,qa 6 1 1,ql 7 6,qA 8 1 5 7,⟨some 9,.build [.val (.int .i64 0),.im [] true] [(0,1,(.t 4)),(1,1,(.t
 8))],none⟩,qw 2 2 9] [(1,2),(2,4),(1,5)]) .ret),[.cell 2 2 true]⟩
def L90_0:CC:=(sR [qz 14 13 12] (.seq (.cond (.t 14) .skip (.exit 0)) (.seq (.block 1 (sR [qX 15 3 11 13,qL 16 3 15,⟨some 7,.alloc [.val (.string ⟨#[]⟩),.val (.int .i64 0),.im [] true],none⟩,qw 3 7 16] (.reg false [qm 17 5,qa 18 0 7,ql 19 18,qa
 20 1 7,qL 21 2 20,qK 22 157 17 19 21,qm 5 22] []))) (.reg false [qs 23 13,qm 13 23] []))))
def c90:CF:=⟨sR [qj 4] (sR [qm 8 0,qc 9 156 8,qm 5 9] (.seq (sR [qm 10 1,qc 11 156 10,qe 12 11,qi 13 0] (.block 0 (.loop L90_0))) (sR [qm 24 5,qm 4 24] .ret))),[.tmp 4]⟩
def L91_0:CC:=(sR [qz 9 8 7] (.seq (.cond (.t 9) .skip (.exit 0)) (.seq (.block 1 (sR [qX 10 2 6 8,qL 11 2 10,⟨some 5,.alloc [.val (.string ⟨#[]⟩),.val (.int .i64 0)],none⟩,qw 2 5 11] (.reg true [qm 12 3,qa 13 0 5,ql 14 13,qa 15 1 5,ql 16 15,qc
 17 107 16,⟨some 18,.build [.val (.string ⟨#[]⟩),.val (.int .i64 0),.im [] true] [(0,1,(.t 14)),(1,2,(.t 17))],none⟩,⟨some 19,.bsl 3 1 [.val (.string ⟨#[]⟩),.val (.int .i64 0),.im [] true] [(0,3,(.t 18))],none⟩,qA 20 3 12 19,qm 3 20] [(2,
 5)]))) (.reg false [qs 21 8,qm 8 21] []))))
def c91:CF:=⟨sR [qj 2] (sR [qj 3] (.seq (sR [qm 6 0,qe 7 6,qi 8 0] (.block 0 (.loop L91_0))) (sR [qm 22 3,qm 2 22] .ret))),[.tmp 2]⟩
def c92:CF:=⟨sR [qi 4 0] (sR [qm 5 0,qm 6 1,qk 7 158 5 6,qm 4 7] .ret),[.tmp 4]⟩
def L94_0:CC:=(sR [qz 12 11 10] (.seq (.cond (.t 12) .skip (.exit 0)) (.seq (.block 1 (sR [qX 13 3 9 11,qL 14 3 13,⟨some 5,.alloc [.val (.int .i64 0),.val (.complex .f64 0 0),.val (.float .f64 0)],none⟩,qw 3 5 14] (.seq (sR [qL 15 3 5,qc 16 159
 15,qb 17 16,qm 18 17,qmF 19 3 18,qLF 20 3 5 18,qcF 21 146 20 18,⟨some 22,.bin .lss 3 false false (.t 19) (.t 21),some (18,false)⟩,qo 23 18 22] (.cond (.t 23) (sR [qf 2] .ret) .skip)) (.reg false [qm 24 3,qL 25 3 5,qc 26 146 25,⟨some 27,.bin .sub 3
 true false (.c (.val (.int .i64 1))) (.t 26),none⟩,qD 28 3 24 27,qm 3 28] [])))) (.reg false [qs 29 11,qm 11 29] []))))
def c94:CF:=⟨sR [qf 2] (.seq (sR [qm 6 0,qe 7 6,qG 8 7 32] (.cond (.t 8) (sR [qf 2] .ret) .skip)) (sR [qi 3 0] (.seq (sR [qm 9 0,qe 10 9,qi 11 0] (.block 0 (.loop L94_0))) (sR [qm 30 3,qq 31 30 1,qm 2 31] .ret)))),[.tmp 2]⟩
def c96:CF:=⟨sR [qB 1 0,⟨some 2,.alloc [.val (.int .i64 0),.val (.int .i64 0)],none⟩] (sR [qa 3 0 1,ql 4 3,qV 5 3 34 4,⟨some 6,.bin .rem 34 false true (.t 5) (.c (.val (.int .u64 2001))),none⟩,qV 7 34 3 6,qS 8 7 1000,qa 9 1 1,ql 10 9,qV 11 3 34
 10,⟨some 12,.bin .rem 34 false true (.t 11) (.c (.val (.int .u64 2001))),none⟩,qV 13 34 3 12,qS 14 13 1000,⟨some 15,.build [.val (.int .i64 0),.val (.int .i64 0)] [(0,1,(.t 8)),(1,1,(.t 14))],none⟩,qw 2 2 15] .ret),[.cell 2 2 true]⟩
def c97:CF:= ⟨sR [qB 2 0,⟨some 4,.alloc z8,none⟩,qi 5 0] (.seq (.block 0 (sR [qa 9 1 2,ql 10 9,qM 11 3 10 0,qm 8 11] (.cond (.t 8) (sR [⟨some 12,.build z8 [],none⟩,qw 8 4 12,qi 5 5] .ret) (sR [qm 14 1,qU 15 14 0,qm 16 15,qmF 17 1 16,⟨some
 18,.bin .geq 3 false true (.t 17) (.c (.val (.int .i64 32))),some (16,false)⟩,qo 19 16 18,qm 13 19] (.cond (.t 13) (sR [⟨some 20,.build z8 [],none⟩,qw 8 4 20,qi 5 6] .ret) .skip))))) (sR [qa 22 8 2,ql 23 22,qm 24 1,qk 25 68 23 24,qm 21 25,qE 26 21
 0,qE 27 21 1,⟨some 6,.alloc z8,none⟩,qw 8 6 26,qm 7 27] (.seq (sR [qm 28 7,qb 29 28,qm 30 29,qaF 31 4 6 30,qlF 32 31 30,qo 33 30 32] (.cond (.t 33) (sR [⟨some 34,.build z8 [],none⟩,qw 8 4 34,qi 5 11] .ret) .skip)) (sR [qL 35 8 6,qw 8 4 35,qi 5 0]
 .ret)))),[.cell 4 8 true,.tmp 5]⟩
def L98_0:CC:=(.seq (sR [qm 14 4,qm 15 0,qe 16 15,qz 17 14 16] (.cond (.t 17) .skip (.exit 0))) (.seq (.block 1 (sR [qm 20 0,qm 21 4,qX 22 4 20 21,qL 23 4 22,⟨some 5,.alloc [.val (.int .i64 0),.val (.int .i64 0),.val (.int .i64 0),.val (.int
 .i64 0)],none⟩,qw 4 5 23] (sR [qa 24 0 5,ql 25 24] (.block 2 (sR [qq 27 25 2,qm 26 27] (.cond (.t 26) (.seq (sR [qa 28 1 5,ql 29 28,qa 30 2 5,ql 31 30,⟨some 32,.build [.val (.int .i64 0),.val (.int .i64 0)] [(0,1,(.t 29)),(1,1,(.t
 31))],none⟩,qc 33 99 32,qb 34 33,qm 35 34,qaF 36 3 5 35,qlF 37 36 35,⟨some 38,.bin .lss 3 false true (.t 37) (.c (.val (.int .i64 0))),some (35,false)⟩,qo 39 35 38,qm 40 39,qaF 41 3 5 40,qlF 42 41 40,qGF 43 42 2000 40,qo 44 40 43] (.cond (.t 44)
 (sR [qf 2] .ret) .skip)) (.reg false [qm 45 3,qs 46 45,qm 3 46] [])) (sR [qq 48 25 3,qm 47 48] (.cond (.t 47) (.seq (sR [qa 49 1 5,ql 50 49,qa 51 2 5,ql 52 51,⟨some 53,.build [.val (.int .i64 0),.val (.int .i64 0)] [(0,1,(.t 50)),(1,1,(.t
 52))],none⟩,qc 54 99 53,qb 55 54,qm 56 55,qaF 57 3 5 56,qlF 58 57 56,⟨some 59,.call (.c (.fn 160 [])) [.t 58,.c (.val (.int .i64 2000000))],some (56,false)⟩,qbF 60 59 56,qo 61 56 60] (.cond (.t 61) (sR [qf 2] .ret) .skip)) (.reg false [qm 62 3,qs
 63 62,qm 3 63] [])) (.seq (sR [qq 65 25 1,qm 64 65] (.cond (.t 64) .skip (sR [qq 66 25 4,qm 64 66] (.cond (.t 64) .skip (sR [qq 67 25 5,qm 64 67] (.cond (.t 64) .skip (.reg false [qq 68 25 6,qm 64 68] []))))))) (.cond (.t 64) (.seq (sR [qa 69 1
 5,ql 70 69,qM 71 3 70 0,qm 72 71,qaF 73 2 5 72,qlF 74 73 72,⟨some 75,.bin .neq 3 false true (.t 74) (.c (.val (.int .i64 0))),some (72,false)⟩,qo 76 72 75,qm 77 76,qaF 78 3 5 77,qlF 79 78 77,⟨some 80,.bin .neq 3 false true (.t 79) (.c (.val (.int
 .i64 0))),some (77,false)⟩,qo 81 77 80] (.cond (.t 81) (sR [qf 2] .ret) .skip)) (.seq (sR [qa 82 0 5,ql 83 82,qq 84 83 1] (.cond (.t 84) (.reg false [qm 85 3,qs 86 85,qm 3 86] []) .skip)) (.seq (sR [qa 87 0 5,ql 88 87,qq 89 88 4,qm 90 89,qmT 91 3
 90,qUT 92 91 1 90,qp 93 90 92,qm 94 93,qaF 95 0 5 94,qlF 96 95 94,qGF 97 96 4 94,qmF 98 97 94,qmT 99 3 98,qUT 100 99 2 98,qpF 101 98 100 94,qo 102 94 101] (.cond (.t 102) (sR [qf 2] .ret) .skip)) (sR [qa 103 0 5,ql 104 103,qG 105 104 4] (.cond (.t
 105) (.reg false [qm 106 3,qS 107 106 1,qm 3 107] []) .skip))))) (sR [qf 2] .ret))))))))))) (.reg false [qm 18 4,qs 19 18,qm 4 19] [])))
def c98:CF:=⟨sR [qf 2] (.seq (sR [qm 6 0,qe 7 6,qU 8 7 1,qm 9 8,qmF 10 0 9,qeF 11 10 9,qGF 12 11 32 9,qo 13 9 12] (.cond (.t 13) (sR [qf 2] .ret) .skip)) (sR [qi 3 0] (.seq (sR [qi 4 0] (.block 0 (.loop L98_0))) (sR [qm 108 3,qq 109 108 1,qm 2
 109] .ret)))),[.tmp 2]⟩
def c99:CF:=⟨sR [qB 1 0,qf 2] (sR [qa 3 0 1,ql 4 3,⟨some 5,.call (.c (.fn 160 [])) [.t 4,.c (.val (.int .i64 1000))],none⟩,qm 6 5,qaT 7 1 1 6,qlT 8 7 6,⟨some 9,.call (.c (.fn 160 [])) [.t 8,.c (.val (.int .i64 1000))],some (6,true)⟩,qp 10 6
 9,qm 2 10] .ret),[.tmp 2]⟩
def L100_0:CC:=(.seq (.seq (.reg true [qm 25 8,qG 26 25 0,qm 27 26,qmT 28 7 27,qmT 29 8 27,qST 30 29 1 27,qXT 31 3 28 30 27,qaT 32 0 31 27,qlT 33 32 27,qmT 34 7 27,qmT 35 8 27,qXT 36 3 34 35 27,qaT 37 0 36 27,qlT 38 37 27,qkT 39 106 33 38 27,qGT
 40 39 0 27,qp 41 27 40] []) (.cond (.t 41) .skip (.exit 0))) (.seq (.block 1 (.reg true [qm 44 7,qm 45 8,qS 46 45 1,qm 47 7,qm 48 8,qm 49 7,qm 50 8,qX 51 3 49 50,qL 52 3 51,qm 53 7,qm 54 8,qS 55 54 1,qX 56 3 53 55,qL 57 3 56,qX 58 3 44 46,qw 3 58
 52,qX 59 3 47 48,qw 3 59 57] [])) (.reg false [qm 42 8,qS 43 42 1,qm 8 43] [])))
def c100:CF:=⟨sR [qB 5 2,qj 6] (sR [qm 9 0,qm 10 1,qk 11 161 9 10,qm 7 11] (.seq (sR [qL 12 2 5,qc 13 162 12,qU 14 13 1] (.cond (.t 14) (sR [qm 15 7,qm 6 15] .ret) .skip)) (sR [qm 16 7,qm 17 1,qL 18 2 5,⟨some 19,.build [.val (.string ⟨#[]⟩),.val
 (.int .i64 0),.im [] true] [(0,1,(.t 17)),(1,2,(.t 18))],none⟩,⟨some 20,.bsl 3 1 [.val (.string ⟨#[]⟩),.val (.int .i64 0),.im [] true] [(0,3,(.t 19))],none⟩,qA 21 3 16 20,qm 7 21] (.seq (sR [qm 22 7,qe 23 22,qS 24 23 1,qm 8 24] (.block 0
 (.loop L100_0))) (sR [qm 60 7,qm 6 60] .ret))))),[.tmp 6]⟩
def L103_0:CC:=(.seq (.seq (.reg true [qm 24 8,qG 25 24 0,qm 26 25,qmT 27 7 26,qmT 28 8 26,qST 29 28 1 26,qXT 30 2 27 29 26,qaT 31 0 30 26,qlT 32 31 26,qmT 33 7 26,qmT 34 8 26,qXT 35 2 33 34 26,qaT 36 0 35 26,qlT 37 36 26,qkT 38 106 32 37 26,qGT
 39 38 0 26,qp 40 26 39] []) (.cond (.t 40) .skip (.exit 0))) (.seq (.block 1 (.reg true [qm 43 7,qm 44 8,qS 45 44 1,qm 46 7,qm 47 8,qm 48 7,qm 49 8,qX 50 2 48 49,qL 51 2 50,qm 52 7,qm 53 8,qS 54 53 1,qX 55 2 52 54,qL 56 2 55,qX 57 2 43 45,qw 2 57
 51,qX 58 2 46 47,qw 2 58 56] [])) (.reg false [qm 41 8,qS 42 41 1,qm 8 42] [])))
def c103:CF:=⟨sR [qj 6] (sR [qm 9 0,qm 10 1,qk 11 120 9 10,qm 7 11] (.seq (sR [qm 12 2,qU 13 12 1] (.cond (.t 13) (sR [qm 14 7,qm 6 14] .ret) .skip)) (sR [qm 15 7,qm 16 1,qm 17 2,⟨some 18,.build [.val (.string ⟨#[]⟩),.val (.int .i64 0)] [(0,1,
 (.t 16)),(1,1,(.t 17))],none⟩,⟨some 19,.bsl 2 1 [.val (.string ⟨#[]⟩),.val (.int .i64 0)] [(0,2,(.t 18))],none⟩,qA 20 2 15 19,qm 7 20] (.seq (sR [qm 21 7,qe 22 21,qS 23 22 1,qm 8 23] (.block 0 (.loop L103_0))) (sR [qm 59 7,qm 6 59] .ret))))),[.tmp 6]⟩
def L104_0:CC:=(.seq (.seq (.reg true [qm 37 9,qG 38 37 0,qm 39 38,qmT 40 8 39,qmT 41 9 39,qST 42 41 1 39,qXT 43 2 40 42 39,qaT 44 0 43 39,qlT 45 44 39,qmT 46 8 39,qmT 47 9 39,qXT 48 2 46 47 39,qaT 49 0 48 39,qlT 50 49 39,qkT 51 106 45 50 39,qGT
 52 51 0 39,qp 53 39 52] []) (.cond (.t 53) .skip (.exit 0))) (.seq (.block 1 (.reg true [qm 56 8,qm 57 9,qS 58 57 1,qm 59 8,qm 60 9,qm 61 8,qm 62 9,qX 63 2 61 62,qL 64 2 63,qm 65 8,qm 66 9,qS 67 66 1,qX 68 2 65 67,qL 69 2 68,qX 70 2 56 58,qw 2 70
 64,qX 71 2 59 60,qw 2 71 69] [])) (.reg false [qm 54 9,qS 55 54 1,qm 9 55] [])))
def c104:CF:=⟨sR [qj 6] (sR [qm 10 0,qm 11 1,qk 12 164 10 11,qm 13 2,qk 14 122 12 13,qm 7 14] (.seq (sR [qm 15 1,qc 16 165 15,qb 17 16,qm 18 17,qmF 19 7 18,qeF 20 19 18,⟨some 21,.bin .lss 3 false true (.t 20) (.c (.val (.int .i64 1))),some (18,
 false)⟩,qo 22 18 21] (.cond (.t 22) (sR [⟨some 23,.bsl 2 0 [] [],none⟩,qm 24 0,qA 25 2 23 24,qm 6 25] .ret) .skip)) (sR [qm 26 0,qm 27 1,qk 28 166 26 27,qm 29 1,qm 30 7,⟨some 31,.build [.val (.string ⟨#[]⟩),.im [] true] [(0,1,(.t 29)),(1,1,(.t
 30))],none⟩,⟨some 32,.bsl 2 1 [.val (.string ⟨#[]⟩),.im [] true] [(0,2,(.t 31))],none⟩,qA 33 2 28 32,qm 8 33] (.seq (sR [qm 34 8,qe 35 34,qS 36 35 1,qm 9 36] (.block 0 (.loop L104_0))) (sR [qm 72 8,qm 6 72] .ret))))),[.tmp 6]⟩
def L105_0:CC:=(.seq (sR [qm 6 5,qm 7 0,qe 8 7,qz 9 6 8] (.cond (.t 9) .skip (.exit 0))) (.seq (.block 1 (sR [qm 12 0,qm 13 5,qx 14 12 13,ql 15 14,qm 16 1,qQ 17 9 15 16] (.cond (.t 17) (sR [qt 4] .ret) .skip))) (.reg false [qm 10 5,qs 11 10,qm 5 11] [])))
def c105:CF:=⟨sR [qf 4] (.seq (sR [qi 5 0] (.block 0 (.loop L105_0))) (sR [qf 4] .ret)),[.tmp 4]⟩
def L106_0:CC:=(.seq (sR [qm 6 5,qm 7 0,⟨some 8,.len true (.t 7),none⟩,qz 9 6 8,qm 10 9,qmT 11 5 10,qmT 12 1 10,⟨some 13,.len true (.t 12),some (10,true)⟩,⟨some 14,.bin .lss 3 false false (.t 11) (.t 13),some (10,true)⟩,qp 15 10 14] (.cond (.t
 15) .skip (.exit 0))) (.seq (.block 1 (.seq (.seq (.reg true [qm 18 0,qm 19 5,⟨some 20,.ixs (.t 18) (.t 19),none⟩,qm 21 1,qm 22 5,⟨some 23,.ixs (.t 21) (.t 22),none⟩,⟨some 24,.bin .lss 5 false false (.t 20) (.t 23),none⟩] []) (.cond (.t 24) (sR
 [⟨some 4,.mv (.c (.val (.int .i64 (-1)))),none⟩] .ret) .skip)) (.seq (.reg true [qm 25 0,qm 26 5,⟨some 27,.ixs (.t 25) (.t 26),none⟩,qm 28 1,qm 29 5,⟨some 30,.ixs (.t 28) (.t 29),none⟩,⟨some 31,.bin .gtr 5 false false (.t 27) (.t 30),none⟩] [])
 (.cond (.t 31) (sR [qi 4 1] .ret) .skip)))) (.reg false [qm 16 5,qs 17 16,qm 5 17] [])))
def c106:CF:=⟨sR [qi 4 0] (.seq (sR [qi 5 0] (.block 0 (.loop L106_0))) (.seq (sR [qm 32 0,⟨some 33,.len true (.t 32),none⟩,qm 34 1,⟨some 35,.len true (.t 34),none⟩,qz 36 33 35] (.cond (.t 36) (sR [⟨some 4,.mv (.c (.val (.int .i64 (-1)))),none⟩]
 .ret) .skip)) (.seq (sR [qm 37 0,⟨some 38,.len true (.t 37),none⟩,qm 39 1,⟨some 40,.len true (.t 39),none⟩,⟨some 41,.bin .gtr 3 false false (.t 38) (.t 40),none⟩] (.cond (.t 41) (sR [qi 4 1] .ret) .skip)) (sR [qi 4 0] .ret)))),[.tmp 4]⟩
def c107:CF:=⟨sR [⟨some 2,.alloc [.val (.int .i64 0),.im [] true],none⟩] (sR [qm 3 0,⟨some 4,.fun_ .min #[3,3] 3 [.t 3,.c (.val (.int .i64 1048576))],none⟩,⟨some 5,.fun_ .max #[3,3] 3 [.c (.val (.int .i64 0)),.t 4],none⟩,⟨some 6,.build [.val
 (.int .i64 0),.im [] true] [(0,1,(.t 5))],none⟩,qw 2 2 6] .ret),[.cell 2 2 true]⟩
def c108:CF:=⟨sR [qi 4 0] (sR [qm 8 0,qm 9 1,qk 10 167 8 9,qm 7 10,qE 11 7 0,qE 12 7 1,qm 5 11,qm 6 12] (.seq (sR [qm 13 6,qb 14 13] (.cond (.t 14) (sR [qi 4 0] .ret) .skip)) (sR [qm 15 0,qm 16 5,qX 17 2 15 16,qa 18 1 17,ql 19 18,qm 4 19] .ret))),[.tmp 4]⟩
def c109:CF:=⟨sR [qB 2 0,qB 3 1,qf 4] (.seq (.reg true [qL 5 2 2,qL 6 2 3,qk 7 169 5 6,qL 8 2 3,qk 9 168 7 8,qm 4 9] [(2,3)]) .ret),[.tmp 4]⟩
def c110:CF:=⟨sR [qB 3 1,qj 4] (sR [qm 5 0,qc 6 149 5,⟨some 7,.mkf 171 [.t 3],none⟩,qk 8 170 6 7,qm 4 8] .ret),[.tmp 4]⟩
def c112:CF:=⟨sR [qj 4] (sR [qm 6 0,qm 7 1,⟨some 8,.bsl 1 2 [.im [] true,.im [] true] [(0,1,(.t 6)),(1,1,(.t 7))],none⟩,qc 9 172 8,qm 5 9] (sR [qm 10 5,⟨some 11,.call (.c (.fn 173 [])) [.t 10,.c (.fn 92 [])],none⟩] (sR [qm 12 5,qc 13 174
 12,qm 4 13] .ret))),[.tmp 4]⟩
def c113:CF:=⟨sR [qj 4] (sR [qm 5 0,qm 6 1,qk 7 153 5 6,qm 4 7] .ret),[.tmp 4]⟩
def L114_0:CC:=(sR [qz 13 12 11] (.seq (.cond (.t 13) .skip (.exit 0)) (.seq (.block 1 (sR [qX 14 2 10 12,qL 15 2 14,⟨some 7,.alloc [.val (.string ⟨#[]⟩),.im [] true],none⟩,qw 2 7 15] (.reg false [qm 16 5,qa 17 0 7,ql 18 17,qa 19 1 7,ql 20 19,qK
 21 85 16 18 20,qm 5 21] []))) (.reg false [qs 22 12,qm 12 22] []))))
def c114:CF:=⟨sR [qj 4] (sR [qm 8 0,qc 9 151 8,qm 5 9] (.seq (sR [qm 10 1,qe 11 10,qi 12 0] (.block 0 (.loop L114_0))) (sR [qm 23 5,qm 4 23] .ret))),[.tmp 4]⟩
def c115:CF:=⟨sR [qf 4] (sR [qm 5 0,qm 6 1,qk 7 108 5 6,qG 8 7 0,qm 4 8] .ret),[.tmp 4]⟩
def L116_0:CC:=(.seq (sR [qm 20 5,qa 21 1 2,ql 22 21,qe 23 22,qz 24 20 23] (.cond (.t 24) .skip (.exit 0))) (.seq (.block 1 (.seq (.reg true [qa 27 1 2,ql 28 27,qm 29 5,qx 30 28 29,ql 31 30,qa 32 1 3,ql 33 32,qm 34 5,qx 35 33 34,ql 36 35,qN 37 3
 31 36] []) (.cond (.t 37) (sR [qf 4] .ret) .skip))) (.reg false [qm 25 5,qs 26 25,qm 5 26] [])))
def c116:CF:=⟨sR [qB 2 0,qB 3 1,qf 4] (.seq (sR [qa 6 0 2,ql 7 6,qa 8 0 3,ql 9 8,qN 10 3 7 9,qm 11 10,qaF 12 1 2 11,qlF 13 12 11,qeF 14 13 11,qaF 15 1 3 11,qlF 16 15 11,qeF 17 16 11,qNF 18 3 14 17 11,qo 19 11 18] (.cond (.t 19) (sR [qf 4] .ret)
 .skip)) (.seq (sR [qi 5 0] (.block 0 (.loop L116_0))) (sR [qt 4] .ret))),[.tmp 4]⟩
def L117_0:CC:=(.seq (sR [qm 10 6,qm 11 1,qe 12 11,qz 13 10 12] (.cond (.t 13) .skip (.exit 0))) (.seq (.block 1 (.reg true [qm 16 5,qm 17 1,qm 18 6,qX 19 3 17 18,qa 20 0 19,ql 21 20,qm 22 5,qm 23 1,qm 24 6,qX 25 3 23 24,qa 26 0 25,ql 27 26,qk
 28 88 22 27,qm 29 1,qm 30 6,qX 31 3 29 30,qa 32 1 31,qL 33 2 32,qk 34 175 28 33,qK 35 100 16 21 34,qm 5 35] [(5,12),(12,17),(5,18)])) (.reg false [qm 14 6,qs 15 14,qm 6 15] [])))
def c117:CF:=⟨sR [qj 4] (sR [⟨some 7,.bsl 3 0 [] [],none⟩,qm 8 0,qA 9 3 7 8,qm 5 9] (.seq (sR [qi 6 0] (.block 0 (.loop L117_0))) (sR [qm 36 5,qm 4 36] .ret))),[.tmp 4]⟩
def L118_0:CC:=(.seq (sR [qm 5 4,qm 6 0,qe 7 6,qz 8 5 7] (.cond (.t 8) .skip (.exit 0))) (.seq (.block 1 (.reg true [qm 11 3,qm 12 0,qm 13 4,qX 14 2 12 13,qa 15 0 14,ql 16 15,qm 17 0,qm 18 4,qX 19 2 17 18,qa 20 1 19,ql 21 20,⟨some 22,.build
 [.val (.int .i64 0),.im [] true] [(0,1,(.t 21))],none⟩,⟨some 23,.build [.val (.string ⟨#[]⟩),.val (.int .i64 0),.im [] true] [(0,1,(.t 16)),(1,2,(.t 22))],none⟩,⟨some 24,.bsl 3 1 [.val (.string ⟨#[]⟩),.val (.int .i64 0),.im [] true] [(0,3,
 (.t 23))],none⟩,qA 25 3 11 24,qm 3 25] [])) (.reg false [qm 9 4,qs 10 9,qm 4 10] [])))
def c118:CF:=⟨sR [qj 2] (sR [qj 3] (.seq (sR [qi 4 0] (.block 0 (.loop L118_0))) (sR [qm 26 3,qm 2 26] .ret))),[.tmp 2]⟩
def L119_0:CC:=(.seq (sR [qm 6 5,qm 7 0,qe 8 7,qz 9 6 8] (.cond (.t 9) .skip (.exit 0))) (.seq (.block 1 (sR [qm 12 0,qm 13 5,qX 14 2 12 13,qa 15 0 14,ql 16 15,qm 17 1,qQ 18 9 16 17] (.cond (.t 18) (sR [qm 19 0,qm 20 5,qX 21 2 19 20,qa 22 1
 21,ql 23 22,qm 4 23] .ret) .skip))) (.reg false [qm 10 5,qs 11 10,qm 5 11] [])))
def c119:CF:=⟨sR [qi 4 0] (.seq (sR [qi 5 0] (.block 0 (.loop L119_0))) (sR [qi 4 0] .ret)),[.tmp 4]⟩
def L120_0:CC:=(.seq (sR [qm 7 6,qm 8 0,qe 9 8,qz 10 7 9] (.cond (.t 10) .skip (.exit 0))) (.seq (.block 1 (sR [qm 13 0,qm 14 6,qX 15 2 13 14,qa 16 0 15,ql 17 16,qm 18 1,qN 19 9 17 18] (.cond (.t 19) (.reg false [qm 20 5,qm 21 0,qm 22 6,qX 23 2
 21 22,qL 24 2 23,⟨some 25,.bsl 2 1 [.val (.string ⟨#[]⟩),.val (.int .i64 0)] [(0,2,(.t 24))],none⟩,qA 26 2 20 25,qm 5 26] []) .skip))) (.reg false [qm 11 6,qs 12 11,qm 6 12] [])))
def c120:CF:=⟨sR [qj 4] (sR [qj 5] (.seq (sR [qi 6 0] (.block 0 (.loop L120_0))) (sR [qm 27 5,qm 4 27] .ret))),[.tmp 4]⟩
def L121_0:CC:=(.seq (sR [qm 5 4,qm 6 0,qe 7 6,qz 8 5 7] (.cond (.t 8) .skip (.exit 0))) (.seq (.block 1 (sR [qm 11 0,qm 12 4,qX 13 3 11 12,qa 14 1 13,qa 15 0 14,ql 16 15,qG 17 16 0] (.cond (.t 17) (.reg true [qm 18 3,qm 19 0,qm 20 4,qX 21 3 19
 20,qa 22 0 21,ql 23 22,qm 24 0,qm 25 4,qX 26 3 24 25,qa 27 1 26,qa 28 0 27,ql 29 28,⟨some 30,.build [.val (.string ⟨#[]⟩),.val (.int .i64 0)] [(0,1,(.t 23)),(1,1,(.t 29))],none⟩,⟨some 31,.bsl 2 1 [.val (.string ⟨#[]⟩),.val (.int .i64 0)] [(0,
 2,(.t 30))],none⟩,qA 32 2 18 31,qm 3 32] []) .skip))) (.reg false [qm 9 4,qs 10 9,qm 4 10] [])))
def c121:CF:=⟨sR [qj 2] (sR [qj 3] (.seq (sR [qi 4 0] (.block 0 (.loop L121_0))) (sR [qm 33 3,qm 2 33] .ret))),[.tmp 2]⟩
def L122_0:CC:=(.seq (sR [qm 10 6,qm 11 1,qe 12 11,qz 13 10 12] (.cond (.t 13) .skip (.exit 0))) (.seq (.block 1 (.reg true [qm 16 5,qm 17 1,qm 18 6,qX 19 2 17 18,qa 20 0 19,ql 21 20,qm 22 5,qm 23 1,qm 24 6,qX 25 2 23 24,qa 26 0 25,ql 27 26,qk
 28 119 22 27,qm 29 1,qm 30 6,qX 31 2 29 30,qa 32 1 31,ql 33 32,⟨some 34,.fun_ .max #[3,3] 3 [.t 28,.t 33],none⟩,qK 35 103 16 21 34,qm 5 35] [(5,12),(12,17)])) (.reg false [qm 14 6,qs 15 14,qm 6 15] [])))
def c122:CF:=⟨sR [qj 4] (sR [⟨some 7,.bsl 2 0 [] [],none⟩,qm 8 0,qA 9 2 7 8,qm 5 9] (.seq (sR [qi 6 0] (.block 0 (.loop L122_0))) (sR [qm 36 5,qm 4 36] .ret))),[.tmp 4]⟩
def L123_0:CC:=(.seq (sR [qm 10 6,qm 11 1,qe 12 11,qz 13 10 12] (.cond (.t 13) .skip (.exit 0))) (.seq (.block 1 (.reg true [qm 16 5,qm 17 1,qm 18 6,qX 19 2 17 18,qa 20 0 19,ql 21 20,qm 22 1,qm 23 6,qX 24 2 22 23,qa 25 1 24,ql 26 25,qK 27 104 16
 21 26,qm 5 27] [])) (.reg false [qm 14 6,qs 15 14,qm 6 15] [])))
def c123:CF:=⟨sR [qj 4] (sR [⟨some 7,.bsl 2 0 [] [],none⟩,qm 8 0,qA 9 2 7 8,qm 5 9] (.seq (sR [qi 6 0] (.block 0 (.loop L123_0))) (sR [qm 28 5,qm 4 28] .ret))),[.tmp 4]⟩
def c124:CF:=⟨sR [qf 4] (sR [qm 5 0,qm 6 1,qk 7 119 5 6,qG 8 7 0,qm 4 8] .ret),[.tmp 4]⟩
def c125:CF:= ⟨sR [qB 1 0,⟨some 2,.alloc z9,none⟩] (.seq (.reg true [qa 3 0 1,ql 4 3,qa 5 1 1,qa 6 0 5,ql 7 6,qa 8 1 1,qa 9 1 8,ql 10 9,qa 11 1 1,qa 12 2 11,ql 13 12,⟨some 14,.build [.val (.string ⟨#[]⟩),.val (.int .i64 0),.val (.int .i64 0)]
 [(0,1,(.t 7)),(1,1,(.t 10)),(2,1,(.t 13))],none⟩,qa 15 4 1,ql 16 15,qa 17 5 1,ql 18 17,qc 19 30 18,qa 20 6 1,ql 21 20,qa 22 7 1,ql 23 22,⟨some 24,.build z9 [(0,1,(.t 4)),(1,3,(.t 14)),(4,1,(.t 16)),(5,2,(.t 19)),(7,1,(.t 21)),(8,1,
 (.t 23))],none⟩,qw 9 2 24] [(1,16),(4,16),(7,16),(10,16),(13,16),(16,18),(16,20)]) .ret),[.cell 2 9 true]⟩
def L126_0:CC:=(.seq (sR [qm 15 9,qm 16 10,qz 17 15 16] (.cond (.t 17) .skip (.exit 0))) (.block 1 (sR [qm 18 9,qm 19 10,qD 20 3 18 19,qV 21 3 264 20,⟨some 22,.bin .shr 264 false true (.t 21) (.c (.val (.int .u64 1))),none⟩,qV 23 264 3 22,qm 11
 23] (sR [qm 24 2,qm 25 0,qm 26 11,qx 27 25 26,ql 28 27,qm 29 1,⟨some 30,.call (.t 24) [.t 28,.t 29],none⟩,qU 31 30 0] (.cond (.t 31) (.reg false [qm 32 11,qs 33 32,qm 9 33] []) (.reg false [qm 34 11,qm 10 34] []))))))
def c126:CF:=⟨sR [qi 6 0,qf 7] (sR [qm 12 0,qe 13 12,qm 8 13] (sR [qm 14 8,qi 9 0,qm 10 14] (.seq (.block 0 (.loop L126_0)) (sR [qm 35 9,qm 36 9,qm 37 8,qz 38 36 37,qm 39 38,qmT 40 2 39,qmT 41 0 39,qmT 42 9 39,qxT 43 41 42 39,qlT 44 43 39,qmT 45
 1 39,⟨some 46,.call (.t 40) [.t 44,.t 45],some (39,true)⟩,qqT 47 46 0 39,qp 48 39 47,qm 6 35,qm 7 48] .ret)))),[.tmp 6,.tmp 7]⟩
def c127:CF:=⟨sR [qf 4] (sR [qm 5 0,qm 6 1,qk 7 176 5 6,qm 4 7] .ret),[.tmp 4]⟩
def c128:CF:=⟨sR [qj 0] (sR [⟨some 1,.build [.val (.int .i64 0),.val (.complex .f64 0 0),.val (.float .f64 0)] [(0,1,(.c (.val (.int .i64 1))))],none⟩,⟨some 2,.bsl 3 1 [.val (.int .i64 0),.val (.complex .f64 0 0),.val (.float .f64 0)] [(0,3,
 (.t 1))],none⟩,qm 0 2] .ret),[.tmp 0]⟩
def c129:CF:=⟨sR [qB 2 0,qB 3 1,⟨some 4,.alloc z13,none⟩] (sR [qa 5 3 2,ql 6 5,qs 7 6,qa 8 3 2,qw 1 8 7] (sR [qa 9 4 2,ql 10 9,qs 11 10,qa 12 4 2,qw 1 12 11] (sR [qa 13 0 2,ql 14 13,qa 15 3 2,ql 16 15,qa 17 4 2,ql 18 17,⟨some 19,.build [.val
 (.string ⟨#[]⟩),.val (.int .i64 0),.val (.int .i64 0)] [(0,1,(.t 14)),(1,1,(.t 16)),(2,1,(.t 18))],none⟩,qa 20 1 3,qw 3 20 19] (sR [qa 21 5 2,ql 22 21,qa 23 0 2,ql 24 23,qa 25 3 2,ql 26 25,qK 27 177 22 24 26,qa 28 5 2,qw 1 28 27] (sR [qa 30 8
 2,ql 31 30,qL 32 9 3,qk 33 133 31 32,qm 29 33,qE 34 29 0,qE 35 29 1,qa 36 8 2,qw 1 36 34] (sR [qL 37 13 2,qc 38 45 37,qw 13 4 38] .ret)))))),[.cell 4 13 true]⟩
def c130:CF:=⟨sR [⟨some 4,.mv (.c (.val (.string ⟨#[]⟩))),none⟩,qi 5 0] (.seq (sR [qm 6 0,qc 7 165 6,qb 8 7] (.cond (.t 8) (sR [⟨some 4,.mv (.c (.val (.string ⟨#[]⟩))),none⟩,qi 5 4] .ret) .skip)) (.seq (sR [qm 9 1,qU 10 9 1,qm 11 10,qmF 12 1
 11,qGF 13 12 9 11,qo 14 11 13] (.cond (.t 14) (sR [⟨some 4,.mv (.c (.val (.string ⟨#[]⟩))),none⟩,qi 5 1] .ret) .skip)) (.seq (sR [qm 15 0,⟨some 16,.len true (.t 15),none⟩,qq 17 16 6] (.cond (.t 17) (sR [⟨some 4,.mv (.c (.val (.string
 ⟨#[]⟩))),none⟩,qi 5 18] .ret) .skip)) (sR [qm 18 0,qm 19 1,qm 20 1,qs 21 20,⟨some 22,.slc 0 (.c (.val (.string ⟨#[48,49,50,51,52,53,54,55,56,57]⟩))) (some (.t 19)) (some (.t 21)) none,none⟩,qD 23 9 18 22,qm 4 23,qi 5 0] .ret)))),[.tmp 4,.tmp 5]⟩
def c131:CF:=⟨sR [qf 4] (sR [qm 5 0,qc 6 118 5,qm 7 1,qk 8 19 6 7,qm 4 8] .ret),[.tmp 4]⟩
def c132:CF:=⟨sR [qf 6] (sR [qm 7 0,qm 8 1,qk 9 88 7 8,qm 10 2,qk 11 155 9 10,qm 6 11] .ret),[.tmp 6]⟩
def L133_0:CC:=(.seq (.seq (.reg true [qm 61 9,qG 62 61 0,qm 63 62,qmT 64 8 63,qmT 65 9 63,qST 66 65 1 63,qXT 67 9 64 66 63,qaT 68 0 67 63,qlT 69 68 63,qmT 70 8 63,qmT 71 9 63,qXT 72 9 70 71 63,qaT 73 0 72 63,qlT 74 73 63,⟨some 75,.bin .gtr 3
 false false (.t 69) (.t 74),some (63,true)⟩,qp 76 63 75] []) (.cond (.t 76) .skip (.exit 0))) (.seq (.block 1 (.reg true [qm 79 8,qm 80 9,qS 81 80 1,qm 82 8,qm 83 9,qm 84 8,qm 85 9,qX 86 9 84 85,qL 87 9 86,qm 88 8,qm 89 9,qS 90 89 1,qX 91 9 88
 90,qL 92 9 91,qX 93 9 79 81,qw 9 93 87,qX 94 9 82 83,qw 9 94 92] [])) (.reg false [qm 77 9,qS 78 77 1,qm 9 78] [])))
def c133:CF:=⟨sR [qB 3 1,qj 4,qf 5] (sR [qm 11 0,qa 12 0 3,ql 13 12,qk 14 22 11 13,qm 10 14,qE 15 10 0,qE 16 10 1,⟨some 6,.alloc z9,none⟩,qw 9 6 15,qm 7 16] (.seq (sR [qm 17 7,qm 18 17,qaT 19 1 6 18,qLT 20 3 19 18,qaT 21 1 3 18,qLT 22 3 21
 18,qQT 23 77 20 22 18,qmT 24 23 18,qaT 25 8 6 24,qlT 26 25 24,qmT 27 26 24,qaF 28 8 3 27,qlF 29 28 27,qbF 30 29 27,⟨some 31,.pick (.t 27) (.c (.val (.bool true))) (.t 30),some (24,true)⟩,⟨some 32,.pick (.t 24) (.t 31) (.c (.val (.bool
 false))),some (18,true)⟩,qmT 33 32 18,qaF 34 1 6 33,qLF 35 3 34 33,qaF 36 1 3 33,qLF 37 3 36 33,qNF 38 77 35 37 33,qmF 39 38 33,qaT 40 1 6 39,qLT 41 3 40 39,qaT 42 1 3 39,qLT 43 3 42 39,qkT 44 178 41 43 39,qpF 45 39 44 33,⟨some 46,.pick (.t 33)
 (.c (.val (.bool true))) (.t 45),some (18,true)⟩,qp 47 18 46] (.cond (.t 47) (sR [⟨some 48,.bsl 9 0 [] [],none⟩,qm 49 0,qA 50 9 48 49,qm 4 50,qf 5] .ret) .skip)) (.seq (.reg true [qm 51 0,qa 52 0 3,ql 53 52,qk 54 179 51 53,qL 55 9 3,⟨some 56,.bsl
 9 1 z9 [(0,9,(.t 55))],none⟩,qA 57 9 54 56,qm 8 57] [(3,4),(2,5),(3,5)]) (.seq (sR [qm 58 8,qe 59 58,qS 60 59 1,qm 9 60] (.block 0 (.loop L133_0))) (sR [qm 95 8,qm 4 95,qt 5] .ret))))),[.tmp 4,.tmp 5]⟩
def c134:CF:=⟨sR [qj 6] (sR [qm 7 0,qm 8 1,qm 9 2,⟨some 10,.fun_ .min #[3,3] 3 [.t 9,.c (.val (.int .i64 1048575))],none⟩,⟨some 11,.fun_ .max #[3,3] 3 [.c (.val (.int .i64 0)),.t 10],none⟩,⟨some 12,.bin .add 3 true false (.c (.val (.int .i64
 1))) (.t 11),none⟩,qK 13 180 7 8 12,qm 6 13] .ret),[.tmp 6]⟩
def c135:CF:=⟨sR [⟨some 4,.alloc [.val (.int .i64 0),.im [] true],none⟩] (sR [qm 8 0,qm 9 1,qk 10 139 8 9,qm 7 10,qE 11 7 0,qE 12 7 1,qm 5 11,qm 6 12] (.seq (sR [qm 13 6,qb 14 13] (.cond (.t 14) (sR [⟨some 15,.build [.val (.int .i64 0),.im []
 true] [],none⟩,qw 2 4 15] .ret) .skip)) (.seq (.reg true [qm 16 0,qm 17 5,qX 18 3 16 17,qa 19 1 18,qa 20 0 19,ql 21 20,qm 22 0,qm 23 5,qX 24 3 22 23,qa 25 1 24,qa 26 1 25,ql 27 26,qc 28 181 27,⟨some 29,.build [.val (.int .i64 0),.im [] true] [(0,
 1,(.t 21)),(1,1,(.t 28))],none⟩,qw 2 4 29] [(5,12)]) .ret))),[.cell 4 2 true]⟩
def c136:CF:=⟨sR [qf 4] (sR [qm 5 1,qc 6 91 5,qm 7 0,qk 8 182 6 7,qm 4 8] .ret),[.tmp 4]⟩
def c137:CF:=⟨sR [qB 3 0,qB 4 1,qB 5 2,qf 6] (sR [qa 7 8 3,ql 8 7,⟨some 9,.mkf 184 [.t 5,.t 4],none⟩,qk 10 183 8 9,qm 6 10] .ret),[.tmp 6]⟩
def c138:CF:=⟨sR [qi 4 0,qf 5] (sR [qm 6 0,qm 7 1,⟨some 8,.build z8 [(0,1,(.t 7))],none⟩,⟨some 9,.call (.c (.fn 185 [])) [.t 6,.t 8,.c (.fn 186 [])],none⟩,qE 10 9 0,qE 11 9 1,qm 4 10,qm 5 11] .ret),[.tmp 4,.tmp 5]⟩
def c139:CF:=⟨sR [qi 4 0,qf 5] (sR [qm 6 0,qm 7 1,⟨some 8,.build [.val (.string ⟨#[]⟩),.val (.int .i64 0),.im [] true] [(0,1,(.t 7))],none⟩,⟨some 9,.call (.c (.fn 187 [])) [.t 6,.t 8,.c (.fn 188 [])],none⟩,qE 10 9 0,qE 11 9 1,qm 4 10,qm 5 11]
 .ret),[.tmp 4,.tmp 5]⟩
def c140:CF:=⟨sR [qB 2 0,qf 4] (.seq (sR [qm 7 1,qa 8 0 2,ql 9 8,⟨some 10,.bin .leq 3 false false (.t 7) (.t 9),none⟩] (.cond (.t 10) (sR [qm 11 1,⟨some 12,.bin .geq 3 false true (.t 11) (.c (.val (.int .i64 1))),none⟩,qm 4 12] .ret) .skip)) (sR
 [qa 14 1 2,ql 15 14,qm 16 1,qk 17 189 15 16,qm 13 17,qE 18 13 0,qE 19 13 1,qm 5 18,qm 6 19] (sR [qm 20 6,qm 4 20] .ret))),[.tmp 4]⟩
def c143:CF:=⟨sR [qB 2 0,qB 3 1,qf 4] (.seq (sR [qa 5 1 2,qL 6 3 5,qa 7 1 3,qL 8 3 7,qQ 9 73 6 8] (.cond (.t 9) (sR [qa 10 7 3,ql 11 10,qm 12 11,qaT 13 7 2 12,qlT 14 13 12,qbT 15 14 12,qp 16 12 15,qm 4 16] .ret) .skip)) (sR [qa 17 1 2,qL 18 3
 17,qa 19 1 3,qL 20 3 19,qk 21 23 18 20,qb 22 21,qm 4 22] .ret)),[.tmp 4]⟩
def c144:CF:=⟨sR [qj 6] (sR [qm 10 0,qc 11 149 10,qm 7 11] (.seq (sR [qm 12 1,qc 13 53 12,qb 14 13,qm 15 14,qmF 16 2 15,⟨some 17,.bin .lss 3 false true (.t 16) (.c (.val (.int .i64 1))),some (15,false)⟩,qo 18 15 17] (.cond (.t 18) (sR [qm 19
 7,qm 6 19] .ret) .skip)) (sR [qm 20 2,⟨some 21,.fun_ .min #[3,3] 3 [.t 20,.c (.val (.int .i64 1048576))],none⟩,qm 2 21] (sR [qm 23 7,qm 24 1,qk 25 167 23 24,qm 22 25,qE 26 22 0,qE 27 22 1,qm 8 26,qm 9 27] (.seq (sR [qm 28 9,qb 29 28] (.cond (.t 29)
 (sR [qm 30 7,qm 31 8,qm 32 1,qm 33 2,⟨some 34,.build [.val (.string ⟨#[]⟩),.val (.int .i64 0)] [(0,1,(.t 32)),(1,1,(.t 33))],none⟩,⟨some 35,.bsl 2 1 [.val (.string ⟨#[]⟩),.val (.int .i64 0)] [(0,2,(.t 34))],none⟩,qK 36 192 30 31 35,qm 6 36]
 .ret) .skip)) (sR [qm 37 7,qm 38 8,qm 39 7,qm 40 8,qX 41 2 39 40,qa 42 1 41,ql 43 42,qm 44 2,⟨some 45,.fun_ .max #[3,3] 3 [.t 43,.t 44],none⟩,qX 46 2 37 38,qa 47 1 46,qw 1 47 45] (sR [qm 48 7,qm 6 48] .ret))))))),[.tmp 6]⟩
def c145:CF:=⟨sR [qf 6] (sR [qm 7 0,qm 8 1,⟨some 9,.bin .geq 176 false false (.t 7) (.t 8),none⟩,qm 10 9,qmT 11 0 10,qmT 12 2 10,⟨some 13,.bin .leq 176 false false (.t 11) (.t 12),some (10,true)⟩,qp 14 10 13,qm 15 14,qmT 16 0 15,qmT 17 0
 15,⟨some 18,.call (.c (.fn 193 [])) [.t 17],some (15,true)⟩,qQT 19 176 16 18 15,qp 20 15 19,qm 6 20] .ret),[.tmp 6]⟩
def c146:CF:=⟨sR [qB 1 0,qi 2 0] (.seq (sR [qa 3 0 1,ql 4 3] (.block 0 (sR [qq 6 4 4,qm 5 6] (.cond (.t 5) (sR [qi 2 1] .ret) (.seq (sR [qq 8 4 5,qm 7 8] (.cond (.t 7) .skip (.reg false [qq 9 4 6,qm 7 9] []))) (.cond (.t 7) (sR [qi 2 2] .ret)
 .skip)))))) (sR [qi 2 0] .ret)),[.tmp 2]⟩
def c147:CF:=⟨sR [qB 3 0,qf 6] (.seq (sR [qa 7 0 3,ql 8 7] (.block 0 (sR [qq 10 8 2,qm 9 10] (.cond (.t 9) (.seq (.reg true [qm 11 1,qa 12 1 3,ql 13 12,⟨some 14,.bin .sub 67 false false (.t 11) (.t 13),none⟩,qm 15 1,qa 16 1 3,ql 17 16,⟨some
 18,.bin .sub 67 false false (.t 15) (.t 17),none⟩,qk 19 194 14 18,qa 20 2 3,ql 21 20,qa 22 2 3,ql 23 22,⟨some 24,.bin .mul 176 false false (.t 21) (.t 23),none⟩,⟨some 25,.bin .leq 176 false false (.t 19) (.t 24),none⟩,qm 6 25] [(8,10),(8,12)])
 .ret) (sR [qq 27 8 3,qm 26 27] (.cond (.t 26) (.seq (.reg true [qm 28 1,qa 29 1 3,ql 30 29,qk 31 194 28 30,qa 32 2 3,ql 33 32,⟨some 34,.bin .geq 176 false false (.t 31) (.t 33),none⟩,qm 6 34] [(3,5)]) .ret) (sR [qq 36 8 4,qm 35 36] (.cond (.t 35)
 (sR [qm 37 2,⟨some 38,.ias 1 (.t 37) (.c (.val (.int .i64 0))),none⟩,ql 39 38,qb 40 39,qm 6 40] .ret) (sR [qq 42 8 5,qm 41 42] (.cond (.t 41) (sR [qm 43 2,⟨some 44,.ias 1 (.t 43) (.c (.val (.int .i64 0))),none⟩,ql 45 44,qm 46 45,qmT 47 2 46,⟨some
 48,.ias 1 (.t 47) (.c (.val (.int .i64 1))),some (46,true)⟩,qlT 49 48 46,qp 50 46 49,qm 6 50] .ret) (sR [qq 52 8 6,qm 51 52] (.cond (.t 51) (sR [qm 53 2,⟨some 54,.ias 1 (.t 53) (.c (.val (.int .i64 0))),none⟩,ql 55 54,qm 56 55,qmF 57 2 56,⟨some
 58,.ias 1 (.t 57) (.c (.val (.int .i64 1))),some (56,false)⟩,qlF 59 58 56,qo 60 56 59,qm 6 60] .ret) .skip)))))))))))) (sR [qt 6] .ret)),[.tmp 6]⟩
def c148:CF:=⟨sR [qj 6] (.seq (sR [qm 7 1,qc 8 53 7,qb 9 8] (.cond (.t 9) (sR [qm 10 0,qc 11 156 10,qm 6 11] .ret) .skip)) (sR [qm 12 0,qc 13 156 12,qm 14 1,⟨some 15,.build [.val (.int .i64 0),.im [] true] [],none⟩,qm 16 2,qk 17 195 15 16,qK 18
 157 13 14 17,qm 6 18] .ret)),[.tmp 6]⟩
def L151_0:CC:=(sR [qz 10 9 8] (.seq (.cond (.t 10) .skip (.exit 0)) (.seq (.block 1 (sR [qm 11 9,qm 4 11] (.reg false [qm 12 3,qm 13 4,qm 14 3,qm 15 4,qX 16 2 14 15,qa 17 1 16,ql 18 17,qc 19 149 18,qX 20 2 12 13,qa 21 1 20,qw 1 21 19] [])))
 (.reg false [qs 22 9,qm 9 22] []))))
def c151:CF:=⟨sR [qj 2] (sR [qm 5 0,qc 6 196 5,qm 3 6] (.seq (sR [qm 7 3,qe 8 7,qi 9 0] (.block 0 (.loop L151_0))) (sR [qm 23 3,qm 2 23] .ret))),[.tmp 2]⟩
def c152:CF:=⟨sR [qi 4 0,qf 5] (sR [qm 6 0,qm 7 1,⟨some 8,.build [.val (.string ⟨#[]⟩),.im [] true] [(0,1,(.t 7))],none⟩,⟨some 9,.call (.c (.fn 197 [])) [.t 6,.t 8,.c (.fn 198 [])],none⟩,qE 10 9 0,qE 11 9 1,qm 4 10,qm 5 11] .ret),[.tmp 4,.tmp 5]⟩
def L153_0:CC:=(sR [qz 13 12 11] (.seq (.cond (.t 13) .skip (.exit 0)) (.seq (.block 1 (sR [qX 14 2 10 12,qL 15 2 14,⟨some 7,.alloc [.val (.string ⟨#[]⟩),.val (.int .i64 0)],none⟩,qw 2 7 15] (.reg false [qm 16 5,qa 17 0 7,ql 18 17,qa 19 1 7,ql
 20 19,qK 21 144 16 18 20,qm 5 21] []))) (.reg false [qs 22 12,qm 12 22] []))))
def c153:CF:=⟨sR [qj 4] (sR [qm 8 0,qc 9 149 8,qm 5 9] (.seq (sR [qm 10 1,qe 11 10,qi 12 0] (.block 0 (.loop L153_0))) (sR [qm 23 5,qm 4 23] .ret))),[.tmp 4]⟩
def L155_0:CC:=(.seq (sR [qm 14 5,qa 15 1 2,ql 16 15,qe 17 16,qz 18 14 17] (.cond (.t 18) .skip (.exit 0))) (.seq (.block 1 (sR [qa 21 1 2,ql 22 21,qm 23 5,qx 24 22 23,ql 25 24,qm 26 1,qQ 27 3 25 26] (.cond (.t 27) (sR [qt 4] .ret) .skip)))
 (.reg false [qm 19 5,qs 20 19,qm 5 20] [])))
def c155:CF:=⟨sR [qB 2 0,qf 4] (.seq (sR [qm 6 1,⟨some 7,.bin .geq 3 false true (.t 6) (.c (.val (.int .i64 1))),none⟩,qm 8 7,qmT 9 1 8,qaT 10 0 2 8,qlT 11 10 8,⟨some 12,.bin .leq 3 false false (.t 9) (.t 11),some (8,true)⟩,qp 13 8 12] (.cond
 (.t 13) (sR [qt 4] .ret) .skip)) (.seq (sR [qi 5 0] (.block 0 (.loop L155_0))) (sR [qf 4] .ret))),[.tmp 4]⟩
def L156_0:CC:=(sR [qz 10 9 8] (.seq (.cond (.t 10) .skip (.exit 0)) (.seq (.block 1 (sR [qm 11 9,qm 4 11] (.reg false [qm 12 3,qm 13 4,qm 14 3,qm 15 4,qX 16 3 14 15,qa 17 1 16,qa 18 1 17,ql 19 18,qc 20 181 19,qX 21 3 12 13,qa 22 1 21,qa 23 1
 22,qw 1 23 20] []))) (.reg false [qs 24 9,qm 9 24] []))))
def c156:CF:=⟨sR [qj 2] (sR [qm 5 0,qc 6 201 5,qm 3 6] (.seq (sR [qm 7 3,qe 8 7,qi 9 0] (.block 0 (.loop L156_0))) (sR [qm 25 3,qm 2 25] .ret))),[.tmp 2]⟩
def c157:CF:=⟨sR [qB 5 2,qj 6] (.seq (sR [qL 9 2 5,qc 10 202 9,qq 11 10 0] (.cond (.t 11) (sR [qm 12 0,qm 6 12] .ret) .skip)) (sR [qm 14 0,qm 15 1,qk 16 139 14 15,qm 13 16,qE 17 13 0,qE 18 13 1,qm 7 17,qm 8 18] (.seq (sR [qm 19 8,qb 20 19]
 (.cond (.t 20) (sR [qm 21 0,qm 22 7,qm 23 1,qL 24 2 5,⟨some 25,.build [.val (.string ⟨#[]⟩),.val (.int .i64 0),.im [] true] [(0,1,(.t 23)),(1,2,(.t 24))],none⟩,⟨some 26,.bsl 3 1 [.val (.string ⟨#[]⟩),.val (.int .i64 0),.im [] true] [(0,3,(.t
 25))],none⟩,qK 27 203 21 22 26,qm 6 27] .ret) .skip)) (.seq (.reg true [qm 28 0,qm 29 7,qm 30 0,qm 31 7,qX 32 3 30 31,qa 33 1 32,qL 34 2 33,qL 35 2 5,qk 36 169 34 35,qX 37 3 28 29,qa 38 1 37,qw 2 38 36] []) (sR [qm 39 0,qm 6 39] .ret))))),[.tmp 6]⟩
def c159:CF:=⟨sR [qB 1 0,qf 2] (.seq (sR [qa 3 0 1,ql 4 3] (.block 0 (sR [qq 6 4 2,qm 5 6] (.cond (.t 5) (sR [qa 7 1 1,ql 8 7,qc 9 80 8,qm 10 9,qaT 11 2 1 10,qlT 12 11 10,⟨some 13,.call (.c (.fn 145 [])) [.t 12,.c (.val (.float .f64 0)),.c (.val
 (.float .f64 4656510908468559872))],some (10,true)⟩,qp 14 10 13,qm 2 14] .ret) (sR [qq 16 4 3,qm 15 16] (.cond (.t 15) (sR [qa 17 1 1,ql 18 17,qc 19 80 18,qm 20 19,qaT 21 2 1 20,qlT 22 21 20,⟨some 23,.call (.c (.fn 145 [])) [.t 22,.c (.val (.float
 .f64 13924712783166832640)),.c (.val (.float .f64 4701340746312056832))],some (20,true)⟩,qp 24 20 23,qm 2 24] .ret) (.seq (sR [qq 26 4 1,qm 25 26] (.cond (.t 25) .skip (sR [qq 27 4 4,qm 25 27] (.cond (.t 25) .skip (sR [qq 28 4 5,qm 25 28] (.cond
 (.t 25) .skip (.reg false [qq 29 4 6,qm 25 29] []))))))) (.cond (.t 25) (sR [qa 30 1 1,ql 31 30,⟨some 32,.bin .eql 67 false true (.t 31) (.c (.val (.complex .f64 0 0))),none⟩,qm 33 32,qaT 34 2 1 33,qlT 35 34 33,⟨some 36,.bin .eql 176 false true (.t
 35) (.c (.val (.float .f64 0))),some (33,true)⟩,qp 37 33 36,qm 2 37] .ret) .skip)))))))) (sR [qf 2] .ret)),[.tmp 2]⟩
def c160:CF:=⟨sR [qf 4] (sR [qm 5 0,qm 6 1,⟨some 7,.un .neg (.t 6),none⟩,⟨some 8,.bin .geq 3 false false (.t 5) (.t 7),none⟩,qm 9 8,qmT 10 0 9,qmT 11 1 9,⟨some 12,.bin .leq 3 false false (.t 10) (.t 11),some (9,true)⟩,qp 13 9 12,qm 4 13] .ret),[.tmp 4]⟩
def L161_0:CC:=(.seq (sR [qm 7 6,qm 8 0,qe 9 8,qz 10 7 9] (.cond (.t 10) .skip (.exit 0))) (.seq (.block 1 (sR [qm 13 0,qm 14 6,qX 15 3 13 14,qa 16 0 15,ql 17 16,qm 18 1,qN 19 9 17 18] (.cond (.t 19) (.reg false [qm 20 5,qm 21 0,qm 22 6,qX 23 3
 21 22,qL 24 3 23,⟨some 25,.bsl 3 1 [.val (.string ⟨#[]⟩),.val (.int .i64 0),.im [] true] [(0,3,(.t 24))],none⟩,qA 26 3 20 25,qm 5 26] []) .skip))) (.reg false [qm 11 6,qs 12 11,qm 6 12] [])))
def c161:CF:=⟨sR [qj 4] (sR [qj 5] (.seq (sR [qi 6 0] (.block 0 (.loop L161_0))) (sR [qm 27 5,qm 4 27] .ret))),[.tmp 4]⟩
def c162:CF:=⟨sR [qB 1 0,qi 2 0] (sR [qa 3 0 1,ql 4 3,qa 5 1 1,ql 6 5,qe 7 6,qD 8 3 4 7,qm 2 8] .ret),[.tmp 2]⟩
def L163_0:CC:=(.seq (sR [qm 27 7,qa 28 1 2,ql 29 28,qe 30 29,qz 31 27 30] (.cond (.t 31) .skip (.exit 0))) (.seq (.block 1 (.seq (sR [qm 34 6,qb 35 34,qm 36 35,qaT 37 1 2 36,qlT 38 37 36,qmT 39 7 36,qxT 40 38 39 36,qlT 41 40 36,qmT 42 1
 36,⟨some 43,.bin .gtr 3 false false (.t 41) (.t 42),some (36,true)⟩,qp 44 36 43] (.cond (.t 44) (sR [qm 45 5,qm 46 1,⟨some 47,.bsl 1 1 [.val (.int .i64 0)] [(0,1,(.t 46))],none⟩,qA 48 1 45 47,qm 5 48] (.reg false [qt 6] [])) .skip)) (.reg false
 [qm 49 5,qa 50 1 2,ql 51 50,qm 52 7,qx 53 51 52,ql 54 53,⟨some 55,.bsl 1 1 [.val (.int .i64 0)] [(0,1,(.t 54))],none⟩,qA 56 1 49 55,qm 5 56] []))) (.reg false [qm 32 7,qs 33 32,qm 7 33] [])))
def L163_1:CC:=(.seq (sR [qm 65 5,qe 66 65,qG 67 66 0,qm 68 67,qmT 69 5 68,⟨some 70,.ias 1 (.t 69) (.c (.val (.int .i64 0))),some (68,true)⟩,qlT 71 70 68,qmT 72 8 68,⟨some 73,.bin .add 3 false true (.t 72) (.c (.val (.int .i64 1))),some (68,
 true)⟩,qQT 74 3 71 73 68,qp 75 68 74] (.cond (.t 75) .skip (.exit 2))) (.block 3 (sR [qm 76 8,qs 77 76,qm 8 77] (.reg false [qm 78 5,⟨some 79,.slc 1 (.t 78) (some (.c (.val (.int .i64 1)))) none none,none⟩,qm 5 79] []))))
def c163:CF:=⟨sR [qB 2 0,⟨some 4,.alloc [.val (.int .i64 0),.im [] true],none⟩] (.seq (sR [qm 9 1,qU 10 9 1,qm 11 10,qmF 12 1 11,qGF 13 12 1048576 11,qo 14 11 13,qm 15 14,qLF 16 2 2 15,qmF 17 1 15,qkF 18 155 16 17 15,qo 19 15 18] (.cond (.t 19)
 (.seq (.reg true [qa 20 0 2,ql 21 20,⟨some 22,.bsl 1 0 [] [],none⟩,qa 23 1 2,ql 24 23,qA 25 1 22 24,⟨some 26,.build [.val (.int .i64 0),.im [] true] [(0,1,(.t 21)),(1,1,(.t 25))],none⟩,qw 2 4 26] [(1,2),(2,4),(1,5)]) .ret) .skip)) (sR [qj 5]
 (sR [qf 6] (.seq (sR [qi 7 0] (.block 0 (.loop L163_0))) (.seq (sR [qm 57 6,qb 58 57] (.cond (.t 58) (.reg false [qm 59 5,qm 60 1,⟨some 61,.bsl 1 1 [.val (.int .i64 0)] [(0,1,(.t 60))],none⟩,qA 62 1 59 61,qm 5 62] []) .skip)) (sR [qa 63 0 2,ql 64
 63,qm 8 64] (.seq (.block 2 (.loop L163_1)) (sR [qm 80 8,⟨some 81,.bsl 1 0 [] [],none⟩,qm 82 5,qA 83 1 81 82,⟨some 84,.build [.val (.int .i64 0),.im [] true] [(0,1,(.t 80)),(1,1,(.t 83))],none⟩,qw 2 4 84] .ret)))))))),[.cell 4 2 true]⟩
def L164_0:CC:=(.seq (sR [qm 6 5,qm 7 0,qe 8 7,qz 9 6 8] (.cond (.t 9) .skip (.exit 0))) (.seq (.block 1 (sR [qm 12 0,qm 13 5,qX 14 2 12 13,qa 15 0 14,ql 16 15,qm 17 1,qQ 18 9 16 17] (.cond (.t 18) (sR [qm 19 0,qm 20 5,qX 21 2 19 20,qa 22 1
 21,ql 23 22,qm 4 23] .ret) .skip))) (.reg false [qm 10 5,qs 11 10,qm 5 11] [])))
def c164:CF:=⟨sR [qj 4] (.seq (sR [qi 5 0] (.block 0 (.loop L164_0))) (sR [qj 4] .ret)),[.tmp 4]⟩
def L165_0:CC:=(.seq (sR [qm 17 3,qm 18 0,⟨some 19,.len true (.t 18),none⟩,qz 20 17 19] (.cond (.t 20) .skip (.exit 0))) (.seq (.block 1 (sR [qm 23 0,qm 24 3,⟨some 25,.ixs (.t 23) (.t 24),none⟩,⟨some 26,.bin .lss 5 false true (.t 25) (.c (.val
 (.int .u8 49))),none⟩,qm 27 26,qmF 28 0 27,qmF 29 3 27,⟨some 30,.ixs (.t 28) (.t 29),some (27,false)⟩,⟨some 31,.bin .gtr 5 false true (.t 30) (.c (.val (.int .u8 57))),some (27,false)⟩,qo 32 27 31] (.cond (.t 32) (sR [qf 2] .ret) .skip))) (.reg
 false [qm 21 3,qs 22 21,qm 3 22] [])))
def c165:CF:=⟨sR [qf 2] (.seq (sR [qm 4 0,⟨some 5,.len true (.t 4),none⟩,qU 6 5 1,qm 7 6,qmF 8 0 7,⟨some 9,.len true (.t 8),some (7,false)⟩,qGF 10 9 6 7,qo 11 7 10,qm 12 11,qmF 13 0 12,⟨some 14,.ixs (.t 13) (.c (.val (.int .i64 0))),some (12,
 false)⟩,⟨some 15,.bin .neq 5 false true (.t 14) (.c (.val (.int .u8 48))),some (12,false)⟩,qo 16 12 15] (.cond (.t 16) (sR [qf 2] .ret) .skip)) (.seq (sR [qi 3 1] (.block 0 (.loop L165_0))) (sR [qt 2] .ret))),[.tmp 2]⟩
def L166_0:CC:=(.seq (sR [qm 7 6,qm 8 0,qe 9 8,qz 10 7 9] (.cond (.t 10) .skip (.exit 0))) (.seq (.block 1 (sR [qm 13 0,qm 14 6,qX 15 2 13 14,qa 16 0 15,ql 17 16,qm 18 1,qN 19 9 17 18] (.cond (.t 19) (.reg false [qm 20 5,qm 21 0,qm 22 6,qX 23 2
 21 22,qL 24 2 23,⟨some 25,.bsl 2 1 [.val (.string ⟨#[]⟩),.im [] true] [(0,2,(.t 24))],none⟩,qA 26 2 20 25,qm 5 26] []) .skip))) (.reg false [qm 11 6,qs 12 11,qm 6 12] [])))
def c166:CF:=⟨sR [qj 4] (sR [qj 5] (.seq (sR [qi 6 0] (.block 0 (.loop L166_0))) (sR [qm 27 5,qm 4 27] .ret))),[.tmp 4]⟩
def c167:CF:=⟨sR [qi 4 0,qf 5] (sR [qm 6 0,qm 7 1,⟨some 8,.build [.val (.string ⟨#[]⟩),.val (.int .i64 0)] [(0,1,(.t 7))],none⟩,⟨some 9,.call (.c (.fn 205 [])) [.t 6,.t 8,.c (.fn 206 [])],none⟩,qE 10 9 0,qE 11 9 1,qm 4 10,qm 5 11] .ret),[.tmp 4,.tmp 5]⟩
def c168:CF:=⟨sR [qB 2 0,qB 3 1,qf 4] (sR [qa 5 0 2,ql 6 5,qa 7 0 3,ql 8 7,qQ 9 3 6 8,qm 10 9,qaT 11 1 2 10,qlT 12 11 10,qaT 13 1 3 10,qlT 14 13 10,qkT 15 207 12 14 10,qp 16 10 15,qm 4 16] .ret),[.tmp 4]⟩
def c169:CF:=⟨sR [qB 2 0,qB 3 1,⟨some 4,.alloc [.val (.int .i64 0),.im [] true],none⟩] (sR [qa 6 1 2,ql 7 6,qa 8 1 3,ql 9 8,⟨some 10,.bsl 1 2 [.im [] true,.im [] true] [(0,1,(.t 7)),(1,1,(.t 9))],none⟩,qc 11 208 10,qm 5 11] (sR [qm 12 5,qc
 13 209 12] (.seq (.reg true [qa 14 0 2,ql 15 14,qa 16 0 3,ql 17 16,⟨some 18,.fun_ .max #[3,3] 3 [.t 15,.t 17],none⟩,qm 19 5,qc 20 211 19,qk 21 210 18 20,qw 2 4 21] [(1,6),(3,6)]) .ret))),[.cell 4 2 true]⟩
def L170_0:CC:=(.seq (sR [qm 16 6,qm 17 0,qe 18 17,qz 19 16 18] (.cond (.t 19) .skip (.exit 0))) (.seq (.block 1 (sR [qm 22 0,qm 23 6,qX 24 2 22 23,qL 25 2 24,⟨some 7,.alloc [.val (.string ⟨#[]⟩),.val (.int .i64 0)],none⟩,qw 2 7 25] (sR [qm 26
 1,qL 27 2 7,⟨some 28,.call (.t 26) [.t 27],none⟩,qb 29 28] (.cond (.t 29) (sR [qm 30 0,qm 31 5,qL 32 2 7,qX 33 2 30 31,qw 2 33 32] (.reg false [qm 34 5,qs 35 34,qm 5 35] [])) .skip)))) (.reg false [qm 20 6,qs 21 20,qm 6 21] [])))
def c170:CF:=⟨sR [qj 4] (sR [qm 8 0,qm 9 1,qk 10 212 8 9,qm 5 10] (.seq (sR [qm 11 5,⟨some 12,.bin .eql 3 false true (.t 11) (.c (.val (.int .i64 (-1)))),none⟩] (.cond (.t 12) (sR [qm 13 0,qm 4 13] .ret) .skip)) (.seq (sR [qm 14 5,qs 15 14,qm 6
 15] (.block 0 (.loop L170_0))) (sR [qm 36 0,qm 37 5,⟨some 38,.slc 2 (.t 36) (some (.t 37)) none none,none⟩,⟨none,.clr [.val (.string ⟨#[]⟩),.val (.int .i64 0)] (.t 38),none⟩] (sR [qm 39 0,qm 40 5,⟨some 41,.slc 2 (.t 39) none (some (.t 40))
 none,none⟩,qm 4 41] .ret))))),[.tmp 4]⟩
def c171:CF:=⟨sR [qB 2 0,qf 3] (sR [qa 4 0 2,ql 5 4,ql 6 1,qQ 7 39 5 6,qm 3 7] .ret),[.tmp 3]⟩
def L172_0:CC:=(sR [qz 12 11 10] (.seq (.cond (.t 12) .skip (.exit 0)) (.seq (.block 1 (sR [qx 13 9 11,ql 14 13,qm 5 14] (sR [qm 15 3,qm 16 5,qe 17 16,qD 18 3 15 17,qm 3 18] (sR [qm 19 3,qU 20 19 0] (.cond (.t 20) (.reg false [⟨some
 21,.bad,none⟩,⟨none,.bad,none⟩] []) .skip))))) (.reg false [qs 22 11,qm 11 22] []))))
def L172_1:CC:=(sR [qz 28 27 26] (.seq (.cond (.t 28) .skip (.exit 2)) (.seq (.block 3 (sR [qx 29 25 27,ql 30 29,qm 8 30] (.reg false [qm 31 6,qm 32 8,qA 33 1 31 32,qm 6 33] []))) (.reg false [qs 34 27,qm 27 34] []))))
def c172:CF:=⟨sR [qj 2] (sR [qi 3 0] (.seq (sR [qm 9 0,qe 10 9,qi 11 0] (.block 0 (.loop L172_0))) (sR [qm 23 3,⟨some 24,.call (.c (.fn 213 [])) [.c (.im [] true),.t 23],none⟩,qm 6 24] (.seq (sR [qm 25 0,qe 26 25,qi 27 0] (.block 2 (.loop
 L172_1))) (sR [qm 35 6,qm 2 35] .ret))))),[.tmp 2]⟩
def L174_0:CC:=(.seq (sR [qm 29 5,qm 30 4,qe 31 30,qz 32 29 31] (.cond (.t 32) .skip (.exit 2))) (.seq (.block 3 (.seq (.reg true [qm 35 4,qm 36 5,qx 37 35 36,ql 38 37,qm 39 4,qm 40 5,qS 41 40 1,qx 42 39 41,ql 43 42,qN 44 39 38 43] []) (.cond
 (.t 44) (sR [qm 45 0,qm 46 3,qm 47 4,qm 48 5,qx 49 47 48,ql 50 49,qx 51 45 46,qw 1 51 50] (.reg false [qm 52 3,qs 53 52,qm 3 53] [])) .skip))) (.reg false [qm 33 5,qs 34 33,qm 5 34] [])))
def L174_1:CC:=(.seq (sR [qm 10 3,qm 11 0,qe 12 11,qz 13 10 12] (.cond (.t 13) .skip (.exit 0))) (.seq (.block 1 (.seq (.reg true [qm 16 0,qm 17 3,qx 18 16 17,ql 19 18,qm 20 0,qm 21 3,qS 22 21 1,qx 23 20 22,ql 24 23,qQ 25 39 19 24] []) (.cond
 (.t 25) (sR [qm 26 0,qm 27 3,⟨some 28,.slc 1 (.t 26) (some (.t 27)) none none,none⟩,qm 4 28] (.seq (sR [qi 5 1] (.block 2 (.loop L174_0))) (sR [qm 54 0,qm 55 3,⟨some 56,.slc 1 (.t 54) (some (.t 55)) none none,none⟩,⟨none,.clr [.val (.string ⟨#[]⟩)]
 (.t 56),none⟩] (sR [qm 57 0,qm 58 3,⟨some 59,.slc 1 (.t 57) none (some (.t 58)) none,none⟩,qm 2 59] .ret)))) .skip))) (.reg false [qm 14 3,qs 15 14,qm 3 15] [])))
def c174:CF:=⟨sR [qj 2] (.seq (sR [qm 6 0,qe 7 6,qU 8 7 2] (.cond (.t 8) (sR [qm 9 0,qm 2 9] .ret) .skip)) (.seq (sR [qi 3 1] (.block 0 (.loop L174_1))) (sR [qm 60 0,qm 2 60] .ret))),[.tmp 2]⟩
def L175_0:CC:=(.seq (sR [qm 18 6,qa 19 1 2,ql 20 19,qe 21 20,qz 22 18 21] (.cond (.t 22) .skip (.exit 0))) (.seq (.block 1 (.reg true [qL 25 2 5,qa 26 1 2,ql 27 26,qm 28 6,qx 29 27 28,ql 30 29,qk 31 163 25 30,qw 2 5 31] [])) (.reg false [qm 23
 6,qs 24 23,qm 6 24] [])))
def L175_1:CC:=(.seq (sR [qm 32 7,qa 33 1 3,ql 34 33,qe 35 34,qz 36 32 35] (.cond (.t 36) .skip (.exit 2))) (.seq (.block 3 (.reg true [qL 39 2 5,qa 40 1 3,ql 41 40,qm 42 7,qx 43 41 42,ql 44 43,qk 45 163 39 44,qw 2 5 45] [])) (.reg false [qm 37
 7,qs 38 37,qm 7 38] [])))
def c175:CF:=⟨sR [qB 2 0,qB 3 1,⟨some 4,.alloc [.val (.int .i64 0),.im [] true],none⟩] (.seq (sR [qa 8 0 3,ql 9 8,qa 10 0 2,ql 11 10,⟨some 12,.bin .gtr 3 false false (.t 9) (.t 11),none⟩] (.cond (.t 12) (.reg false [qL 13 2 3,qL 14 2 2,qw 2 2
 13,qw 2 3 14] []) .skip)) (sR [qa 15 0 2,ql 16 15,⟨some 17,.build [.val (.int .i64 0),.im [] true] [(0,1,(.t 16))],none⟩,⟨some 5,.alloc [.val (.int .i64 0),.im [] true],none⟩,qw 2 5 17] (.seq (sR [qi 6 0] (.block 0 (.loop L175_0))) (.seq (sR [qi
 7 0] (.block 2 (.loop L175_1))) (sR [qL 46 2 5,qw 2 4 46] .ret))))),[.cell 4 2 true]⟩
def c176:CF:=⟨sR [qf 4] (sR [qm 5 0,⟨some 6,.len true (.t 5),none⟩,qm 7 1,⟨some 8,.len true (.t 7),none⟩,⟨some 9,.bin .geq 3 false false (.t 6) (.t 8),none⟩,qm 10 9,qmT 11 0 10,qmT 12 1 10,⟨some 13,.len true (.t 12),some (10,true)⟩,⟨some
 14,.slc 0 (.t 11) none (some (.t 13)) none,some (10,true)⟩,qmT 15 1 10,qQT 16 9 14 15 10,qp 17 10 16,qm 4 17] .ret),[.tmp 4]⟩
def c177:CF:=⟨sR [qj 6] (.seq (sR [qm 7 1,qc 8 165 7,qb 9 8] (.cond (.t 9) (sR [⟨some 10,.bsl 3 0 [] [],none⟩,qm 11 0,qA 12 3 10 11,qm 6 12] .ret) .skip)) (sR [qm 13 0,qm 14 1,qm 15 0,qm 16 1,qk 17 88 15 16,qm 18 2,qk 19 163 17 18,qK 20 100 13
 14 19,qm 6 20] .ret)),[.tmp 6]⟩
def c178:CF:=⟨sR [qB 2 0,qB 3 1,qf 4] (sR [qa 5 2 2,ql 6 5,qa 7 2 3,ql 8 7,⟨some 9,.bin .gtr 3 false false (.t 6) (.t 8),none⟩,qm 10 9,qaF 11 2 2 10,qlF 12 11 10,qaF 13 2 3 10,qlF 14 13 10,⟨some 15,.bin .eql 3 false false (.t 12) (.t 14),some
 (10,false)⟩,qmF 16 15 10,qaT 17 0 2 16,qlT 18 17 16,qaT 19 0 3 16,qlT 20 19 16,qkT 21 106 18 20 16,qGT 22 21 0 16,qpF 23 16 22 10,qo 24 10 23,qm 4 24] .ret),[.tmp 4]⟩
def L179_0:CC:=(.seq (sR [qm 7 6,qm 8 0,qe 9 8,qz 10 7 9] (.cond (.t 10) .skip (.exit 0))) (.seq (.block 1 (sR [qm 13 0,qm 14 6,qX 15 9 13 14,qa 16 0 15,ql 17 16,qm 18 1,qN 19 3 17 18] (.cond (.t 19) (.reg false [qm 20 5,qm 21 0,qm 22 6,qX 23 9
 21 22,qL 24 9 23,⟨some 25,.bsl 9 1 z9 [(0,9,(.t 24))],none⟩,qA 26 9 20 25,qm 5 26] []) .skip))) (.reg false [qm 11 6,qs 12 11,qm 6 12] [])))
def c179:CF:=⟨sR [qj 4] (sR [qj 5] (.seq (sR [qi 6 0] (.block 0 (.loop L179_0))) (sR [qm 27 5,qm 4 27] .ret))),[.tmp 4]⟩
def c180:CF:=⟨sR [qj 6] (.seq (sR [qm 7 1,qc 8 165 7,qb 9 8,qm 10 9,qmF 11 2 10,⟨some 12,.bin .lss 3 false true (.t 11) (.c (.val (.int .i64 1))),some (10,false)⟩,qo 13 10 12] (.cond (.t 13) (sR [⟨some 14,.bsl 2 0 [] [],none⟩,qm 15 0,qA 16 2 14
 15,qm 6 16] .ret) .skip)) (sR [qm 17 0,qm 18 1,qm 19 0,qm 20 1,qk 21 119 19 20,qm 22 2,⟨some 23,.fun_ .min #[3,3] 3 [.t 22,.c (.val (.int .i64 1048576))],none⟩,⟨some 24,.fun_ .max #[3,3] 3 [.t 21,.t 23],none⟩,qK 25 103 17 18 24,qm 6 25] .ret)),[.tmp 6]⟩
def c182:CF:=⟨sR [qB 3 1,qf 4] (sR [qm 5 0,⟨some 6,.mkf 217 [.t 3],none⟩,qk 7 216 5 6,qb 8 7,qm 4 8] .ret),[.tmp 4]⟩
def c183:CF:=⟨sR [qf 4] (sR [qm 5 0,qm 6 1,qk 7 218 5 6,⟨some 8,.bin .geq 3 false true (.t 7) (.c (.val (.int .i64 0))),none⟩,qm 4 8] .ret),[.tmp 4]⟩
def c184:CF:=⟨sR [qB 3 0,qf 4] (sR [qa 5 4 3,ql 6 5,qb 7 6,qm 8 7,qaT 9 7 3 8,qlT 10 9 8,qbT 11 10 8,qp 12 8 11,qm 13 12,qlT 14 1 13,qaT 15 1 3 13,qaT 16 0 15 13,qlT 17 16 13,qaT 18 1 3 13,qaT 19 1 18 13,qlT 20 19 13,⟨some 21,.call (.c (.fn 69
 [])) [.t 14,.t 17,.t 20],some (13,true)⟩,qbT 22 21 13,qp 23 13 22,qm 24 23,qaT 25 9 2 24,qlT 26 25 24,qaT 27 5 3 24,qlT 28 27 24,qkT 29 81 26 28 24,qp 30 24 29,qm 4 30] .ret),[.tmp 4]⟩
def L185_0:CC:=(.seq (sR [qm 15 9,qm 16 10,qz 17 15 16] (.cond (.t 17) .skip (.exit 0))) (.block 1 (sR [qm 18 9,qm 19 10,qD 20 3 18 19,qV 21 3 264 20,⟨some 22,.bin .shr 264 false true (.t 21) (.c (.val (.int .u64 1))),none⟩,qV 23 264 3 22,qm 11
 23] (.seq (.reg true [qm 24 2,qm 25 0,qm 26 11,qX 27 8 25 26,qL 28 8 27,qL 29 8 4,⟨some 30,.call (.t 24) [.t 28,.t 29],none⟩,qU 31 30 0] []) (.cond (.t 31) (.reg false [qm 32 11,qs 33 32,qm 9 33] []) (.reg false [qm 34 11,qm 10 34] []))))))
def c185:CF:=⟨sR [qB 4 1,qi 6 0,qf 7] (sR [qm 12 0,qe 13 12,qm 8 13] (sR [qm 14 8,qi 9 0,qm 10 14] (.seq (.block 0 (.loop L185_0)) (.seq (.reg true [qm 35 9,qm 36 9,qm 37 8,qz 38 36 37,qm 39 38,qmT 40 2 39,qmT 41 0 39,qmT 42 9 39,qXT 43 8 41 42
 39,qLT 44 8 43 39,qLT 45 8 4 39,⟨some 46,.call (.t 40) [.t 44,.t 45],some (39,true)⟩,qqT 47 46 0 39,qp 48 39 47,qm 6 35,qm 7 48] []) .ret)))),[.tmp 6,.tmp 7]⟩
def c186:CF:=⟨sR [qB 2 0,qB 3 1,qi 4 0] (sR [qa 5 0 2,ql 6 5,qa 7 0 3,ql 8 7,qk 9 219 6 8,qm 4 9] .ret),[.tmp 4]⟩
def L187_0:CC:=(.seq (sR [qm 15 9,qm 16 10,qz 17 15 16] (.cond (.t 17) .skip (.exit 0))) (.block 1 (sR [qm 18 9,qm 19 10,qD 20 3 18 19,qV 21 3 264 20,⟨some 22,.bin .shr 264 false true (.t 21) (.c (.val (.int .u64 1))),none⟩,qV 23 264 3 22,qm 11
 23] (.seq (.reg true [qm 24 2,qm 25 0,qm 26 11,qX 27 3 25 26,qL 28 3 27,qL 29 3 4,⟨some 30,.call (.t 24) [.t 28,.t 29],none⟩,qU 31 30 0] []) (.cond (.t 31) (.reg false [qm 32 11,qs 33 32,qm 9 33] []) (.reg false [qm 34 11,qm 10 34] []))))))
def c187:CF:=⟨sR [qB 4 1,qi 6 0,qf 7] (sR [qm 12 0,qe 13 12,qm 8 13] (sR [qm 14 8,qi 9 0,qm 10 14] (.seq (.block 0 (.loop L187_0)) (.seq (.reg true [qm 35 9,qm 36 9,qm 37 8,qz 38 36 37,qm 39 38,qmT 40 2 39,qmT 41 0 39,qmT 42 9 39,qXT 43 3 41 42
 39,qLT 44 3 43 39,qLT 45 3 4 39,⟨some 46,.call (.t 40) [.t 44,.t 45],some (39,true)⟩,qqT 47 46 0 39,qp 48 39 47,qm 6 35,qm 7 48] []) .ret)))),[.tmp 6,.tmp 7]⟩
def c188:CF:=⟨sR [qB 2 0,qB 3 1,qi 4 0] (sR [qa 5 0 2,ql 6 5,qa 7 0 3,ql 8 7,qk 9 92 6 8,qm 4 9] .ret),[.tmp 4]⟩
def L189_0:CC:=(.seq (sR [qm 13 7,qm 14 8,qz 15 13 14] (.cond (.t 15) .skip (.exit 0))) (.block 1 (sR [qm 16 7,qm 17 8,qD 18 3 16 17,qV 19 3 264 18,⟨some 20,.bin .shr 264 false true (.t 19) (.c (.val (.int .u64 1))),none⟩,qV 21 264 3 20,qm 9 21]
 (sR [qm 22 0,qm 23 9,qx 24 22 23,ql 25 24,qm 26 1,qk 27 220 25 26] (.cond (.t 27) (.reg false [qm 28 9,qs 29 28,qm 7 29] []) (.reg false [qm 30 9,qm 8 30] []))))))
def c189:CF:=⟨sR [qi 4 0,qf 5] (sR [qm 10 0,qe 11 10,qm 6 11] (sR [qm 12 6,qi 7 0,qm 8 12] (.seq (.block 0 (.loop L189_0)) (sR [qm 31 7,qm 32 7,qm 33 6,qz 34 32 33,qm 35 34,qmT 36 0 35,qmT 37 7 35,qxT 38 36 37 35,qlT 39 38 35,qmT 40 1 35,qQT 41
 3 39 40 35,qmT 42 41 35,qmF 43 0 42,qmF 44 7 42,qXF 45 1 43 44 42,qlF 46 45 42,qcF 47 221 46 42,qmF 48 47 42,qmT 49 1 48,⟨some 50,.call (.c (.fn 221 [])) [.t 49],some (48,true)⟩,qpF 51 48 50 42,⟨some 52,.pick (.t 42) (.c (.val (.bool true))) (.t
 51),some (35,true)⟩,qp 53 35 52,qm 4 31,qm 5 53] .ret)))),[.tmp 4,.tmp 5]⟩
def c193:CF:=⟨sR [⟨some 2,.mv (.c (.val (.float .f64 0))),none⟩] (.seq (.cond (.c (.val (.bool true))) (sR [qm 3 0,qc 4 225 3,qm 2 4] .ret) .skip) (sR [qm 5 0,qc 6 226 5,qm 2 6] .ret)),[.tmp 2]⟩
def c194:CF:=⟨sR [⟨some 4,.mv (.c (.val (.float .f64 0))),none⟩] (sR [qm 5 0,qm 6 1,qc 7 227 6,⟨some 8,.bin .mul 67 false false (.t 5) (.t 7),none⟩,⟨some 9,.fun_ .real #[67] 176 [.t 8],none⟩,qm 4 9] .ret),[.tmp 4]⟩
def c195:CF:=⟨sR [qB 2 0,⟨some 4,.alloc [.val (.int .i64 0),.im [] true],none⟩] (.seq (sR [qm 5 1,qU 6 5 1,qm 7 6,qmF 8 1 7,qGF 9 8 1048576 7,qo 10 7 9] (.cond (.t 10) (.seq (.reg true [qa 11 0 2,ql 12 11,qa 13 1 2,ql 14 13,qc 15 181 14,⟨some
 16,.build [.val (.int .i64 0),.im [] true] [(0,1,(.t 12)),(1,1,(.t 15))],none⟩,qw 2 4 16] [(1,4)]) .ret) .skip)) (sR [qL 17 2 2,qm 18 1,⟨some 19,.bsl 1 1 [.val (.int .i64 0)] [(0,1,(.t 18))],none⟩,⟨some 20,.build [.val (.int .i64 0),.im []
 true] [(1,1,(.t 19))],none⟩,qk 21 169 17 20,qw 2 4 21] .ret)),[.cell 4 2 true]⟩
def L197_0:CC:=(.seq (sR [qm 15 9,qm 16 10,qz 17 15 16] (.cond (.t 17) .skip (.exit 0))) (.block 1 (sR [qm 18 9,qm 19 10,qD 20 3 18 19,qV 21 3 264 20,⟨some 22,.bin .shr 264 false true (.t 21) (.c (.val (.int .u64 1))),none⟩,qV 23 264 3 22,qm 11
 23] (.seq (.reg true [qm 24 2,qm 25 0,qm 26 11,qX 27 2 25 26,qL 28 2 27,qL 29 2 4,⟨some 30,.call (.t 24) [.t 28,.t 29],none⟩,qU 31 30 0] []) (.cond (.t 31) (.reg false [qm 32 11,qs 33 32,qm 9 33] []) (.reg false [qm 34 11,qm 10 34] []))))))
def c197:CF:=⟨sR [qB 4 1,qi 6 0,qf 7] (sR [qm 12 0,qe 13 12,qm 8 13] (sR [qm 14 8,qi 9 0,qm 10 14] (.seq (.block 0 (.loop L197_0)) (.seq (.reg true [qm 35 9,qm 36 9,qm 37 8,qz 38 36 37,qm 39 38,qmT 40 2 39,qmT 41 0 39,qmT 42 9 39,qXT 43 2 41 42
 39,qLT 44 2 43 39,qLT 45 2 4 39,⟨some 46,.call (.t 40) [.t 44,.t 45],some (39,true)⟩,qqT 47 46 0 39,qp 48 39 47,qm 6 35,qm 7 48] []) .ret)))),[.tmp 6,.tmp 7]⟩
def c198:CF:=⟨sR [qB 2 0,qB 3 1,qi 4 0] (sR [qa 5 0 2,ql 6 5,qa 7 0 3,ql 8 7,qk 9 92 6 8,qm 4 9] .ret),[.tmp 4]⟩
def c202:CF:=⟨sR [qB 1 0,qi 2 0] (sR [qa 3 0 1,ql 4 3,qa 5 1 1,ql 6 5,qe 7 6,qD 8 3 4 7,qm 2 8] .ret),[.tmp 2]⟩
def L205_0:CC:=(.seq (sR [qm 15 9,qm 16 10,qz 17 15 16] (.cond (.t 17) .skip (.exit 0))) (.block 1 (sR [qm 18 9,qm 19 10,qD 20 3 18 19,qV 21 3 264 20,⟨some 22,.bin .shr 264 false true (.t 21) (.c (.val (.int .u64 1))),none⟩,qV 23 264 3 22,qm 11
 23] (.seq (.reg true [qm 24 2,qm 25 0,qm 26 11,qX 27 2 25 26,qL 28 2 27,qL 29 2 4,⟨some 30,.call (.t 24) [.t 28,.t 29],none⟩,qU 31 30 0] []) (.cond (.t 31) (.reg false [qm 32 11,qs 33 32,qm 9 33] []) (.reg false [qm 34 11,qm 10 34] []))))))
def c205:CF:=⟨sR [qB 4 1,qi 6 0,qf 7] (sR [qm 12 0,qe 13 12,qm 8 13] (sR [qm 14 8,qi 9 0,qm 10 14] (.seq (.block 0 (.loop L205_0)) (.seq (.reg true [qm 35 9,qm 36 9,qm 37 8,qz 38 36 37,qm 39 38,qmT 40 2 39,qmT 41 0 39,qmT 42 9 39,qXT 43 2 41 42
 39,qLT 44 2 43 39,qLT 45 2 4 39,⟨some 46,.call (.t 40) [.t 44,.t 45],some (39,true)⟩,qqT 47 46 0 39,qp 48 39 47,qm 6 35,qm 7 48] []) .ret)))),[.tmp 6,.tmp 7]⟩
def c206:CF:=⟨sR [qB 2 0,qB 3 1,qi 4 0] (sR [qa 5 0 2,ql 6 5,qa 7 0 3,ql 8 7,qk 9 92 6 8,qm 4 9] .ret),[.tmp 4]⟩
def L207_0:CC:=(sR [qz 14 13 12] (.seq (.cond (.t 14) .skip (.exit 0)) (.seq (.block 1 (sR [qm 15 13,qm 5 15] (.seq (.reg true [qm 16 0,qm 17 5,qx 18 16 17,ql 19 18,qm 20 1,qm 21 5,qx 22 20 21,ql 23 22,qN 24 3 19 23] []) (.cond (.t 24) (sR [qf
 4] .ret) .skip)))) (.reg false [qs 25 13,qm 13 25] []))))
def c207:CF:=⟨sR [qf 4] (.seq (sR [qm 6 0,qe 7 6,qm 8 1,qe 9 8,qN 10 3 7 9] (.cond (.t 10) (sR [qf 4] .ret) .skip)) (.seq (sR [qm 11 0,qe 12 11,qi 13 0] (.block 0 (.loop L207_0))) (sR [qt 4] .ret))),[.tmp 4]⟩
def L208_0:CC:=(sR [qz 12 11 10] (.seq (.cond (.t 12) .skip (.exit 0)) (.seq (.block 1 (sR [qx 13 9 11,ql 14 13,qm 5 14] (sR [qm 15 3,qm 16 5,qe 17 16,qD 18 3 15 17,qm 3 18] (sR [qm 19 3,qU 20 19 0] (.cond (.t 20) (.reg false [⟨some
 21,.bad,none⟩,⟨none,.bad,none⟩] []) .skip))))) (.reg false [qs 22 11,qm 11 22] []))))
def L208_1:CC:=(sR [qz 28 27 26] (.seq (.cond (.t 28) .skip (.exit 2)) (.seq (.block 3 (sR [qx 29 25 27,ql 30 29,qm 8 30] (.reg false [qm 31 6,qm 32 8,qA 33 1 31 32,qm 6 33] []))) (.reg false [qs 34 27,qm 27 34] []))))
def c208:CF:=⟨sR [qj 2] (sR [qi 3 0] (.seq (sR [qm 9 0,qe 10 9,qi 11 0] (.block 0 (.loop L208_0))) (sR [qm 23 3,⟨some 24,.call (.c (.fn 232 [])) [.c (.im [] true),.t 23],none⟩,qm 6 24] (.seq (sR [qm 25 0,qe 26 25,qi 27 0] (.block 2 (.loop
 L208_1))) (sR [qm 35 6,qm 2 35] .ret))))),[.tmp 2]⟩
def L210_0:CC:=(.seq (sR [qm 6 5,qm 7 1,qe 8 7,qz 9 6 8,qm 10 9,qmT 11 1 10,qmT 12 5 10,qxT 13 11 12 10,qlT 14 13 10,qmT 15 0 10,⟨some 16,.bin .add 3 false true (.t 15) (.c (.val (.int .i64 1))),some (10,true)⟩,⟨some 17,.bin .leq 3 false false
 (.t 14) (.t 16),some (10,true)⟩,qp 18 10 17] (.cond (.t 18) .skip (.exit 0))) (.seq (.block 1 (.reg false [qm 21 0,qm 22 1,qm 23 5,qx 24 22 23,ql 25 24,⟨some 26,.fun_ .max #[3,3] 3 [.t 21,.t 25],none⟩,qm 0 26] [])) (.reg false [qm 19 5,qs 20 19,qm
 5 20] [])))
def c210:CF:=⟨sR [⟨some 4,.alloc [.val (.int .i64 0),.im [] true],none⟩] (sR [qi 5 0] (.seq (.block 0 (.loop L210_0)) (sR [qm 27 0,qm 28 1,qm 29 5,⟨some 30,.slc 1 (.t 28) (some (.t 29)) none none,none⟩,qc 31 181 30,⟨some 32,.build [.val (.int
 .i64 0),.im [] true] [(0,1,(.t 27)),(1,1,(.t 31))],none⟩,qw 2 4 32] .ret))),[.cell 4 2 true]⟩
def L211_0:CC:=(.seq (sR [qm 29 5,qm 30 4,qe 31 30,qz 32 29 31] (.cond (.t 32) .skip (.exit 2))) (.seq (.block 3 (.seq (.reg true [qm 35 4,qm 36 5,qx 37 35 36,ql 38 37,qm 39 4,qm 40 5,qS 41 40 1,qx 42 39 41,ql 43 42,qN 44 3 38 43] []) (.cond (.t
 44) (sR [qm 45 0,qm 46 3,qm 47 4,qm 48 5,qx 49 47 48,ql 50 49,qx 51 45 46,qw 1 51 50] (.reg false [qm 52 3,qs 53 52,qm 3 53] [])) .skip))) (.reg false [qm 33 5,qs 34 33,qm 5 34] [])))
def L211_1:CC:=(.seq (sR [qm 10 3,qm 11 0,qe 12 11,qz 13 10 12] (.cond (.t 13) .skip (.exit 0))) (.seq (.block 1 (.seq (.reg true [qm 16 0,qm 17 3,qx 18 16 17,ql 19 18,qm 20 0,qm 21 3,qS 22 21 1,qx 23 20 22,ql 24 23,qQ 25 3 19 24] []) (.cond (.t
 25) (sR [qm 26 0,qm 27 3,⟨some 28,.slc 1 (.t 26) (some (.t 27)) none none,none⟩,qm 4 28] (.seq (sR [qi 5 1] (.block 2 (.loop L211_0))) (sR [qm 54 0,qm 55 3,⟨some 56,.slc 1 (.t 54) (some (.t 55)) none none,none⟩,⟨none,.clr [.val (.int .i64 0)] (.t
 56),none⟩] (sR [qm 57 0,qm 58 3,⟨some 59,.slc 1 (.t 57) none (some (.t 58)) none,none⟩,qm 2 59] .ret)))) .skip))) (.reg false [qm 14 3,qs 15 14,qm 3 15] [])))
def c211:CF:=⟨sR [qj 2] (.seq (sR [qm 6 0,qe 7 6,qU 8 7 2] (.cond (.t 8) (sR [qm 9 0,qm 2 9] .ret) .skip)) (.seq (sR [qi 3 1] (.block 0 (.loop L211_1))) (sR [qm 60 0,qm 2 60] .ret))),[.tmp 2]⟩
def L212_0:CC:=(sR [qz 9 8 7] (.seq (.cond (.t 9) .skip (.exit 0)) (.seq (.block 1 (sR [qm 10 8,qm 5 10] (sR [qm 11 1,qm 12 0,qm 13 5,qX 14 2 12 13,qL 15 2 14,⟨some 16,.call (.t 11) [.t 15],none⟩] (.cond (.t 16) (sR [qm 17 5,qm 4 17] .ret)
 .skip)))) (.reg false [qs 18 8,qm 8 18] []))))
def c212:CF:=⟨sR [qi 4 0] (.seq (sR [qm 6 0,qe 7 6,qi 8 0] (.block 0 (.loop L212_0))) (sR [⟨some 4,.mv (.c (.val (.int .i64 (-1)))),none⟩] .ret)),[.tmp 4]⟩
def c216:CF:=⟨sR [qf 4] (sR [qm 5 0,qm 6 1,qk 7 244 5 6,⟨some 8,.bin .geq 3 false true (.t 7) (.c (.val (.int .i64 0))),none⟩,qm 4 8] .ret),[.tmp 4]⟩
def c217:CF:=⟨sR [qB 2 0,qf 3] (.seq (.reg true [qa 4 1 2,qL 5 2 4,ql 6 1,qa 7 0 2,ql 8 7,qk 9 135 6 8,qk 10 109 5 9,qb 11 10,qm 3 11] [(1,5)]) .ret),[.tmp 3]⟩
def L218_0:CC:=(sR [qz 9 8 7] (.seq (.cond (.t 9) .skip (.exit 0)) (.seq (.block 1 (sR [qm 10 8,qm 5 10] (sR [qm 11 1,qm 12 0,qm 13 5,qX 14 8 12 13,qL 15 8 14,⟨some 16,.call (.t 11) [.t 15],none⟩] (.cond (.t 16) (sR [qm 17 5,qm 4 17] .ret)
 .skip)))) (.reg false [qs 18 8,qm 8 18] []))))
def c218:CF:=⟨sR [qi 4 0] (.seq (sR [qm 6 0,qe 7 6,qi 8 0] (.block 0 (.loop L218_0))) (sR [⟨some 4,.mv (.c (.val (.int .i64 (-1)))),none⟩] .ret)),[.tmp 4]⟩
def c219:CF:=⟨sR [qi 4 0] (sR [qm 7 0,qc 8 245 7,qm 5 8] (sR [qm 9 1,qc 10 245 9,qm 6 10] (.seq (sR [qm 11 5] (.cond (.t 11) (.seq (sR [qm 12 6] (.cond (.t 12) (sR [qi 4 0] .ret) .skip)) (sR [⟨some 4,.mv (.c (.val (.int .i64 (-1)))),none⟩]
 .ret)) .skip)) (.seq (sR [qm 13 6] (.cond (.t 13) (sR [qi 4 1] .ret) .skip)) (.seq (sR [qm 14 0,qm 15 1,qz 16 14 15] (.cond (.t 16) (sR [⟨some 4,.mv (.c (.val (.int .i64 (-1)))),none⟩] .ret) .skip)) (.seq (sR [qm 17 0,qm 18 1,⟨some 19,.bin .gtr 3
 false false (.t 17) (.t 18),none⟩] (.cond (.t 19) (sR [qi 4 1] .ret) .skip)) (sR [qi 4 0] .ret))))))),[.tmp 4]⟩
def c220:CF:=⟨sR [qf 4] (sR [qm 5 0,qc 6 245 5,qm 7 6,qmT 8 1 7,⟨some 9,.call (.c (.fn 245 [])) [.t 8],some (7,true)⟩,qbT 10 9 7,qp 11 7 10,qm 12 11,qmF 13 0 12,qmF 14 1 12,⟨some 15,.bin .lss 3 false false (.t 13) (.t 14),some (12,false)⟩,qo
 16 12 15,qm 4 16] .ret),[.tmp 4]⟩
def c221:CF:=⟨sR [qf 2] (sR [qm 3 0,qm 4 0,qN 5 3 3 4,qm 2 5] .ret),[.tmp 2]⟩
def c226:CF:=⟨sR [⟨some 2,.mv (.c (.val (.float .f64 0))),none⟩] (.seq (sR [qm 5 0,qc 6 248 5,⟨some 7,.bin .lss 176 false true (.t 6) (.c (.val (.float .f64 4607182418800017408))),none⟩] (.cond (.t 7) (sR [qm 8 0,⟨some 9,.call (.c (.fn 249 []))
 [.c (.val (.float .f64 0)),.t 8],none⟩,qm 2 9] .ret) .skip)) (sR [qm 10 0,qc 11 250 10,qm 3 11] (sR [qm 12 3,⟨some 13,.bin .shr 34 false true (.t 12) (.c (.val (.int .u64 52))),none⟩,⟨some 14,.bin .and 264 false true (.t 13) (.c (.val (.int .u64
 2047))),none⟩,⟨some 15,.bin .sub 264 false true (.t 14) (.c (.val (.int .u64 1023))),none⟩,qm 4 15] (.seq (sR [qm 16 4,⟨some 17,.bin .lss 264 false true (.t 16) (.c (.val (.int .u64 52))),none⟩] (.cond (.t 17) (.reg false [qm 18 3,qm 19 4,⟨some
 20,.bin .sub 264 true false (.c (.val (.int .u64 52))) (.t 19),none⟩,⟨some 21,.bin .shl 34 true false (.c (.val (.int .u64 1))) (.t 20),none⟩,⟨some 22,.bin .sub 34 false true (.t 21) (.c (.val (.int .u64 1))),none⟩,⟨some 23,.bin .andNot 34 false
 false (.t 18) (.t 22),none⟩,qm 3 23] []) .skip)) (sR [qm 24 3,qc 25 251 24,qm 2 25] .ret))))),[.tmp 2]⟩
def c227:CF:=⟨sR [⟨some 2,.mv (.c (.val (.complex .f64 0 0))),none⟩] (sR [qm 3 0,⟨some 4,.fun_ .real #[67] 176 [.t 3],none⟩,qm 5 0,⟨some 6,.fun_ .imag #[67] 176 [.t 5],none⟩,⟨some 7,.un .neg (.t 6),none⟩,⟨some 8,.fun_ .complex #[176,176] 67 [.t
 4,.t 7],none⟩,qm 2 8] .ret),[.tmp 2]⟩
def L244_0:CC:=(sR [qz 9 8 7] (.seq (.cond (.t 9) .skip (.exit 0)) (.seq (.block 1 (sR [qm 10 8,qm 5 10] (sR [qm 11 1,qm 12 0,qm 13 5,qX 14 3 12 13,qL 15 3 14,⟨some 16,.call (.t 11) [.t 15],none⟩] (.cond (.t 16) (sR [qm 17 5,qm 4 17] .ret)
 .skip)))) (.reg false [qs 18 8,qm 8 18] []))))
def c244:CF:=⟨sR [qi 4 0] (.seq (sR [qm 6 0,qe 7 6,qi 8 0] (.block 0 (.loop L244_0))) (sR [⟨some 4,.mv (.c (.val (.int .i64 (-1)))),none⟩] .ret)),[.tmp 4]⟩
def c245:CF:=⟨sR [qf 2] (sR [qm 3 0,qm 4 0,qN 5 3 3 4,qm 2 5] .ret),[.tmp 2]⟩
def c248:CF:=⟨sR [⟨some 2,.mv (.c (.val (.float .f64 0))),none⟩] (sR [qm 3 0,qc 4 250 3,⟨some 5,.bin .andNot 34 false true (.t 4) (.c (.val (.int .u64 9223372036854775808))),none⟩,qc 6 251 5,qm 2 6] .ret),[.tmp 2]⟩
def c249:CF:=⟨sR [⟨some 4,.mv (.c (.val (.float .f64 0))),none⟩] (sR [qm 5 0,qc 6 250 5,⟨some 7,.bin .andNot 34 false true (.t 6) (.c (.val (.int .u64 9223372036854775808))),none⟩,qm 8 1,qc 9 250 8,⟨some 10,.bin .and 34 false true (.t 9) (.c
 (.val (.int .u64 9223372036854775808))),none⟩,⟨some 11,.bin .or 34 false false (.t 7) (.t 10),none⟩,qc 12 251 11,qm 4 12] .ret),[.tmp 4]⟩
def tab (f:FuncId):Option CF:=(cond (Nat.blt f 114)  (cond (Nat.blt f 63)   (cond (Nat.blt f 30)    (cond (Nat.blt f 17)     (cond (Nat.blt f 11)      (cond (Nat.blt f 8)       (cond (Nat.blt f 5)        (cond (Nat.beq f 3) (some c3) none)
  (cond (Nat.beq f 5) (some c5) none))       (cond (Nat.blt f 9)        (cond (Nat.beq f 8) (some c8) none)        (cond (Nat.blt f 10)         (cond (Nat.beq f 9) (some c9) none)         (cond (Nat.beq f 10) (some c10) none))))      (cond
 (Nat.blt f 14)       (cond (Nat.blt f 12)        (cond (Nat.beq f 11) (some c11) none)        (cond (Nat.blt f 13)         (cond (Nat.beq f 12) (some c12) none)         (cond (Nat.beq f 13) (some c13) none)))       (cond (Nat.blt f 15)        (cond
 (Nat.beq f 14) (some c14) none)        (cond (Nat.blt f 16)         (cond (Nat.beq f 15) (some c15) none)         (cond (Nat.beq f 16) (some c16) none)))))     (cond (Nat.blt f 23)      (cond (Nat.blt f 20)       (cond (Nat.blt f 18)        (cond
 (Nat.beq f 17) (some c17) none)        (cond (Nat.blt f 19)         (cond (Nat.beq f 18) (some c18) none)         (cond (Nat.beq f 19) (some c19) none)))       (cond (Nat.blt f 21)        (cond (Nat.beq f 20) (some c20) none)        (cond (Nat.blt
 f 22)         (cond (Nat.beq f 21) (some c21) none)         (cond (Nat.beq f 22) (some c22) none))))      (cond (Nat.blt f 27)       (cond (Nat.blt f 25)        (cond (Nat.beq f 23) (some c23) none)        (cond (Nat.blt f 26)         (cond
 (Nat.beq f 25) (some c25) none)         (cond (Nat.beq f 26) (some c26) none)))       (cond (Nat.blt f 28)        (cond (Nat.beq f 27) (some c27) none)        (cond (Nat.blt f 29)         (cond (Nat.beq f 28) (some c28) none)         (cond (Nat.beq
 f 29) (some c29) none))))))    (cond (Nat.blt f 50)     (cond (Nat.blt f 42)      (cond (Nat.blt f 35)       (cond (Nat.blt f 34)        (cond (Nat.beq f 30) (some c30) none)        (cond (Nat.beq f 34) (some c34) none))       (cond (Nat.blt f 37)
    (cond (Nat.beq f 35) (some c35) none)        (cond (Nat.blt f 41)         (cond (Nat.beq f 37) (some c37) none)         (cond (Nat.beq f 41) (some c41) none))))      (cond (Nat.blt f 45)       (cond (Nat.blt f 43)        (cond (Nat.beq f 42)
 (some c42) none)        (cond (Nat.blt f 44)         (cond (Nat.beq f 43) (some c43) none)         (cond (Nat.beq f 44) (some c44) none)))       (cond (Nat.blt f 46)        (cond (Nat.beq f 45) (some c45) none)        (cond (Nat.blt f 49)
 (cond (Nat.beq f 46) (some c46) none)         (cond (Nat.beq f 49) (some c49) none)))))     (cond (Nat.blt f 57)      (cond (Nat.blt f 54)       (cond (Nat.blt f 52)        (cond (Nat.beq f 50) (some c50) none)        (cond (Nat.blt f 53)
 (cond (Nat.beq f 52) (some c52) none)         (cond (Nat.beq f 53) (some c53) none)))       (cond (Nat.blt f 55)        (cond (Nat.beq f 54) (some c54) none)        (cond (Nat.blt f 56)         (cond (Nat.beq f 55) (some c55) none)         (cond
 (Nat.beq f 56) (some c56) none))))      (cond (Nat.blt f 60)       (cond (Nat.blt f 58)        (cond (Nat.beq f 57) (some c57) none)        (cond (Nat.blt f 59)         (cond (Nat.beq f 58) (some c58) none)         (cond (Nat.beq f 59) (some c59)
 none)))       (cond (Nat.blt f 61)        (cond (Nat.beq f 60) (some c60) none)        (cond (Nat.blt f 62)         (cond (Nat.beq f 61) (some c61) none)         (cond (Nat.beq f 62) (some c62) none)))))))   (cond (Nat.blt f 86)    (cond (Nat.blt f
 74)     (cond (Nat.blt f 68)      (cond (Nat.blt f 65)       (cond (Nat.blt f 64)        (cond (Nat.beq f 63) (some c63) none)        (cond (Nat.beq f 64) (some c64) none))       (cond (Nat.blt f 66)        (cond (Nat.beq f 65) (some c65) none)
  (cond (Nat.blt f 67)         (cond (Nat.beq f 66) (some c66) none)         (cond (Nat.beq f 67) (some c67) none))))      (cond (Nat.blt f 71)       (cond (Nat.blt f 69)        (cond (Nat.beq f 68) (some c68) none)        (cond (Nat.blt f 70)
   (cond (Nat.beq f 69) (some c69) none)         (cond (Nat.beq f 70) (some c70) none)))       (cond (Nat.blt f 72)        (cond (Nat.beq f 71) (some c71) none)        (cond (Nat.blt f 73)         (cond (Nat.beq f 72) (some c72) none)
 (cond (Nat.beq f 73) (some c73) none)))))     (cond (Nat.blt f 80)      (cond (Nat.blt f 77)       (cond (Nat.blt f 75)        (cond (Nat.beq f 74) (some c74) none)        (cond (Nat.blt f 76)         (cond (Nat.beq f 75) (some c75) none)
 (cond (Nat.beq f 76) (some c76) none)))       (cond (Nat.blt f 78)        (cond (Nat.beq f 77) (some c77) none)        (cond (Nat.blt f 79)         (cond (Nat.beq f 78) (some c78) none)         (cond (Nat.beq f 79) (some c79) none))))      (cond
 (Nat.blt f 83)       (cond (Nat.blt f 81)        (cond (Nat.beq f 80) (some c80) none)        (cond (Nat.blt f 82)         (cond (Nat.beq f 81) (some c81) none)         (cond (Nat.beq f 82) (some c82) none)))       (cond (Nat.blt f 84)        (cond
 (Nat.beq f 83) (some c83) none)        (cond (Nat.blt f 85)         (cond (Nat.beq f 84) (some c84) none)         (cond (Nat.beq f 85) (some c85) none))))))    (cond (Nat.blt f 99)     (cond (Nat.blt f 91)      (cond (Nat.blt f 88)       (cond
 (Nat.blt f 87)        (cond (Nat.beq f 86) (some c86) none)        (cond (Nat.beq f 87) (some c87) none))       (cond (Nat.blt f 89)        (cond (Nat.beq f 88) (some c88) none)        (cond (Nat.blt f 90)         (cond (Nat.beq f 89) (some c89)
 none)         (cond (Nat.beq f 90) (some c90) none))))      (cond (Nat.blt f 96)       (cond (Nat.blt f 92)        (cond (Nat.beq f 91) (some c91) none)        (cond (Nat.blt f 94)         (cond (Nat.beq f 92) (some c92) none)         (cond
 (Nat.beq f 94) (some c94) none)))       (cond (Nat.blt f 97)        (cond (Nat.beq f 96) (some c96) none)        (cond (Nat.blt f 98)         (cond (Nat.beq f 97) (some c97) none)         (cond (Nat.beq f 98) (some c98) none)))))     (cond (Nat.blt
 f 107)      (cond (Nat.blt f 104)       (cond (Nat.blt f 100)        (cond (Nat.beq f 99) (some c99) none)        (cond (Nat.blt f 103)         (cond (Nat.beq f 100) (some c100) none)         (cond (Nat.beq f 103) (some c103) none)))       (cond
 (Nat.blt f 105)        (cond (Nat.beq f 104) (some c104) none)        (cond (Nat.blt f 106)         (cond (Nat.beq f 105) (some c105) none)         (cond (Nat.beq f 106) (some c106) none))))      (cond (Nat.blt f 110)       (cond (Nat.blt f 108)
   (cond (Nat.beq f 107) (some c107) none)        (cond (Nat.blt f 109)         (cond (Nat.beq f 108) (some c108) none)         (cond (Nat.beq f 109) (some c109) none)))       (cond (Nat.blt f 112)        (cond (Nat.beq f 110) (some c110) none)
   (cond (Nat.blt f 113)         (cond (Nat.beq f 112) (some c112) none)         (cond (Nat.beq f 113) (some c113) none))))))))  (cond (Nat.blt f 166)   (cond (Nat.blt f 137)    (cond (Nat.blt f 125)     (cond (Nat.blt f 119)      (cond (Nat.blt f
 116)       (cond (Nat.blt f 115)        (cond (Nat.beq f 114) (some c114) none)        (cond (Nat.beq f 115) (some c115) none))       (cond (Nat.blt f 117)        (cond (Nat.beq f 116) (some c116) none)        (cond (Nat.blt f 118)         (cond
 (Nat.beq f 117) (some c117) none)         (cond (Nat.beq f 118) (some c118) none))))      (cond (Nat.blt f 122)       (cond (Nat.blt f 120)        (cond (Nat.beq f 119) (some c119) none)        (cond (Nat.blt f 121)         (cond (Nat.beq f 120)
 (some c120) none)         (cond (Nat.beq f 121) (some c121) none)))       (cond (Nat.blt f 123)        (cond (Nat.beq f 122) (some c122) none)        (cond (Nat.blt f 124)         (cond (Nat.beq f 123) (some c123) none)         (cond (Nat.beq f
 124) (some c124) none)))))     (cond (Nat.blt f 131)      (cond (Nat.blt f 128)       (cond (Nat.blt f 126)        (cond (Nat.beq f 125) (some c125) none)        (cond (Nat.blt f 127)         (cond (Nat.beq f 126) (some c126) none)         (cond
 (Nat.beq f 127) (some c127) none)))       (cond (Nat.blt f 129)        (cond (Nat.beq f 128) (some c128) none)        (cond (Nat.blt f 130)         (cond (Nat.beq f 129) (some c129) none)         (cond (Nat.beq f 130) (some c130) none))))
 (cond (Nat.blt f 134)       (cond (Nat.blt f 132)        (cond (Nat.beq f 131) (some c131) none)        (cond (Nat.blt f 133)         (cond (Nat.beq f 132) (some c132) none)         (cond (Nat.beq f 133) (some c133) none)))       (cond (Nat.blt f
 135)        (cond (Nat.beq f 134) (some c134) none)        (cond (Nat.blt f 136)         (cond (Nat.beq f 135) (some c135) none)         (cond (Nat.beq f 136) (some c136) none))))))    (cond (Nat.blt f 152)     (cond (Nat.blt f 144)      (cond
 (Nat.blt f 139)       (cond (Nat.blt f 138)        (cond (Nat.beq f 137) (some c137) none)        (cond (Nat.beq f 138) (some c138) none))       (cond (Nat.blt f 140)        (cond (Nat.beq f 139) (some c139) none)        (cond (Nat.blt f 143)
  (cond (Nat.beq f 140) (some c140) none)         (cond (Nat.beq f 143) (some c143) none))))      (cond (Nat.blt f 147)       (cond (Nat.blt f 145)        (cond (Nat.beq f 144) (some c144) none)        (cond (Nat.blt f 146)         (cond (Nat.beq f
 145) (some c145) none)         (cond (Nat.beq f 146) (some c146) none)))       (cond (Nat.blt f 148)        (cond (Nat.beq f 147) (some c147) none)        (cond (Nat.blt f 151)         (cond (Nat.beq f 148) (some c148) none)         (cond (Nat.beq
 f 151) (some c151) none)))))     (cond (Nat.blt f 160)      (cond (Nat.blt f 156)       (cond (Nat.blt f 153)        (cond (Nat.beq f 152) (some c152) none)        (cond (Nat.blt f 155)         (cond (Nat.beq f 153) (some c153) none)         (cond
 (Nat.beq f 155) (some c155) none)))       (cond (Nat.blt f 157)        (cond (Nat.beq f 156) (some c156) none)        (cond (Nat.blt f 159)         (cond (Nat.beq f 157) (some c157) none)         (cond (Nat.beq f 159) (some c159) none))))
 (cond (Nat.blt f 163)       (cond (Nat.blt f 161)        (cond (Nat.beq f 160) (some c160) none)        (cond (Nat.blt f 162)         (cond (Nat.beq f 161) (some c161) none)         (cond (Nat.beq f 162) (some c162) none)))       (cond (Nat.blt f
 164)        (cond (Nat.beq f 163) (some c163) none)        (cond (Nat.blt f 165)         (cond (Nat.beq f 164) (some c164) none)         (cond (Nat.beq f 165) (some c165) none)))))))   (cond (Nat.blt f 194)    (cond (Nat.blt f 178)     (cond
 (Nat.blt f 171)      (cond (Nat.blt f 168)       (cond (Nat.blt f 167)        (cond (Nat.beq f 166) (some c166) none)        (cond (Nat.beq f 167) (some c167) none))       (cond (Nat.blt f 169)        (cond (Nat.beq f 168) (some c168) none)
 (cond (Nat.blt f 170)         (cond (Nat.beq f 169) (some c169) none)         (cond (Nat.beq f 170) (some c170) none))))      (cond (Nat.blt f 175)       (cond (Nat.blt f 172)        (cond (Nat.beq f 171) (some c171) none)        (cond (Nat.blt f
 174)         (cond (Nat.beq f 172) (some c172) none)         (cond (Nat.beq f 174) (some c174) none)))       (cond (Nat.blt f 176)        (cond (Nat.beq f 175) (some c175) none)        (cond (Nat.blt f 177)         (cond (Nat.beq f 176) (some c176)
 none)         (cond (Nat.beq f 177) (some c177) none)))))     (cond (Nat.blt f 185)      (cond (Nat.blt f 182)       (cond (Nat.blt f 179)        (cond (Nat.beq f 178) (some c178) none)        (cond (Nat.blt f 180)         (cond (Nat.beq f 179)
 (some c179) none)         (cond (Nat.beq f 180) (some c180) none)))       (cond (Nat.blt f 183)        (cond (Nat.beq f 182) (some c182) none)        (cond (Nat.blt f 184)         (cond (Nat.beq f 183) (some c183) none)         (cond (Nat.beq f
 184) (some c184) none))))      (cond (Nat.blt f 188)       (cond (Nat.blt f 186)        (cond (Nat.beq f 185) (some c185) none)        (cond (Nat.blt f 187)         (cond (Nat.beq f 186) (some c186) none)         (cond (Nat.beq f 187) (some c187)
 none)))       (cond (Nat.blt f 189)        (cond (Nat.beq f 188) (some c188) none)        (cond (Nat.blt f 193)         (cond (Nat.beq f 189) (some c189) none)         (cond (Nat.beq f 193) (some c193) none))))))    (cond (Nat.blt f 216)     (cond
 (Nat.blt f 206)      (cond (Nat.blt f 198)       (cond (Nat.blt f 195)        (cond (Nat.beq f 194) (some c194) none)        (cond (Nat.blt f 197)         (cond (Nat.beq f 195) (some c195) none)         (cond (Nat.beq f 197) (some c197) none)))
  (cond (Nat.blt f 202)        (cond (Nat.beq f 198) (some c198) none)        (cond (Nat.blt f 205)         (cond (Nat.beq f 202) (some c202) none)         (cond (Nat.beq f 205) (some c205) none))))      (cond (Nat.blt f 210)       (cond (Nat.blt f
 207)        (cond (Nat.beq f 206) (some c206) none)        (cond (Nat.blt f 208)         (cond (Nat.beq f 207) (some c207) none)         (cond (Nat.beq f 208) (some c208) none)))       (cond (Nat.blt f 211)        (cond (Nat.beq f 210) (some c210)
 none)        (cond (Nat.blt f 212)         (cond (Nat.beq f 211) (some c211) none)         (cond (Nat.beq f 212) (some c212) none)))))     (cond (Nat.blt f 226)      (cond (Nat.blt f 219)       (cond (Nat.blt f 217)        (cond (Nat.beq f 216)
 (some c216) none)        (cond (Nat.blt f 218)         (cond (Nat.beq f 217) (some c217) none)         (cond (Nat.beq f 218) (some c218) none)))       (cond (Nat.blt f 220)        (cond (Nat.beq f 219) (some c219) none)        (cond (Nat.blt f 221)
     (cond (Nat.beq f 220) (some c220) none)         (cond (Nat.beq f 221) (some c221) none))))      (cond (Nat.blt f 245)       (cond (Nat.blt f 227)        (cond (Nat.beq f 226) (some c226) none)        (cond (Nat.blt f 244)         (cond
 (Nat.beq f 227) (some c227) none)         (cond (Nat.beq f 244) (some c244) none)))       (cond (Nat.blt f 248)        (cond (Nat.beq f 245) (some c245) none)        (cond (Nat.blt f 249)         (cond (Nat.beq f 248) (some c248) none)
 (cond (Nat.beq f 249) (some c249) none)))))))))
end Go.Evl.Zone

namespace Go.Evl.Zone
open Go Go.Evl
def splitL (c:UInt8):List UInt8→List (List UInt8)
 | []=>[[]]
 | b::l=>if b=c then []::splitL c l else match splitL c l with
   | x::xs=>(b::x)::xs
   | []=>[[b]]
def joinL (sep:List UInt8):List (List UInt8)→List UInt8
 | []=>[]
 | [x]=>x
 | x::y::r=>x++sep++joinL sep (y::r)
def digL:Nat→Nat→List UInt8→List UInt8
 | 0,_,acc=>acc
 | f+1,n,acc=>if n < 10 then UInt8.ofNat (48+n)::acc else digL f (n / 10) (UInt8.ofNat (48+n % 10)::acc)
def itoaL (n:Int):List UInt8:=if n < 0 then 45::digL 20 n.natAbs [] else digL 20 n.natAbs []
def strOf (l:List UInt8):PV:=.val (.string ⟨l.toArray⟩)
def strs:List (List PV)→Option (List (List UInt8))
 | []=>some []
 | [.val (.string s)]::r=>(strs r).map fun l=>s.data.toList::l
 | _::_=>none
def pSplit (args:List PV) (H:Heap):Option ORes :=
 match args with
 | [.val (.string s),.val (.string p)]=>match p.data.toList with
   | [c]=>if s.size < 4294967281 then some ⟨.im ((splitL c s.data.toList).map fun x=>[strOf x]) false,H,[],some []⟩ else none
   | _=>none
 | _=>none
def pJoin (args:List PV) (H:Heap):Option ORes :=
 match args with
 | [.val _,_]=>none
 | [x,.val (.string p)]=>match elems H 1 x with
   | some (xs,is)=>match strs xs with
     | some l=>if l.length≤140737488355328∧(joinL p.data.toList l).length≤140737488355328 then some ⟨strOf (joinL p.data.toList l),H,[],some is⟩ else none
     | none=>none
   | none=>none
 | _=>none
def pItoa (args:List PV) (H:Heap):Option ORes :=
 match args with
 | [.val (.int .i64 n)]=>if -9223372036854775808≤n∧n≤9223372036854775807 then some ⟨strOf (itoaL n),H,[],some []⟩ else none
 | _=>none
def pAtoi (args:List PV) (H:Heap):Option ORes :=
 match args with
 | [.val (.string s)]=>if s.size≤281474976710656 then
   match Lib.atoiAll s.data.toList with
   | .ok v=>some ⟨.tup [.val (.int .i64 v),.val .nilIface],H,[],some []⟩
   | .range=>some ⟨.tup [.val (.int .i64 (Lib.atoiSat s.data.toList)),.ifc],H,[],some []⟩
   | _=>some ⟨.tup [.val (.int .i64 0),.ifc],H,[],some []⟩
   else none
 | _=>none
def pTrunc (args:List PV) (H:Heap):Option ORes :=
 match args with
 | [.val (.float .f64 b)]=>match FloatKind.f64.decode b with
   | .nan _ _=>none
   | d=>some ⟨.val (.float .f64 (FloatKind.f64.encode (d.integral .zero))),H,[],some []⟩
 | _=>none
def pCompare (args:List PV) (H:Heap):Option ORes :=
 match args with
 | [.val (.string a),.val (.string b)]=>some ⟨.val (.int .i64 (Lib.compareBytes a.data.toList b.data.toList)),H,[],some []⟩
 | _=>none
def isStr:PV→Bool
 | .val (.string _)=>true
 | _=>false
def pClone (k:Nat) (args:List PV) (H:Heap):Option ORes :=
 match args with
 | [x]=>if isStr x then none else match elems H k x with
   | some (ys,is)=>if ys.length=0 then some ⟨.im [] true,H.grow 1,[],some is⟩
     else if ys.length≤most then some ⟨.sl H.n k ys.length 0 ys.length,(H.grow 1).put H.n (.row k ys true),[H.n],some is⟩ else none
   | none=>none
 | _=>none
def pCloneF (k:Nat) (args:List PV) (H:Heap):Option ORes :=
 match args with
 | [.im xs fl]=>if allLen k xs∧xs.length≤most then match plainss xs with
   | some ys=>some ⟨.im ys false,H,[],some []⟩
   | none=>none
   else none
 | _=>none
def pGrow (k:Nat) (args:List PV) (H:Heap):Option ORes :=
 match args with
 | [.im [] true,.val (.int .i64 n)]=>if n=0 then some ⟨.im [] true,H.grow 1,[],some []⟩
   else if 0 < n∧n≤most then some ⟨.sl H.n k 0 0 0,(H.grow 1).put H.n (.row k [] true),[H.n],some []⟩ else none
 | _=>none
def pIns (k:Nat) (args:List PV) (H:Heap):Option ORes :=
 match args with
 | [x,.val (.int .i64 i),.im [y] true]=>if y.length=k∧0 < k then
   match x with
   | .im [] true=>if i=0 then some ⟨.sl H.n k 1 0 1,(H.grow 1).put H.n (.row k [y] true),[H.n],none⟩ else none
   | .sl r k1 g 0 n=>match H.at_ r with
     | .row k4 xs true=>if k=k1∧k=k4∧n=g∧xs.length=n∧0≤i∧i≤n∧n+1≤most then
       some ⟨.sl r k (n+1) 0 (n+1),(H.grow 1).put r (.row k (xs.take i.toNat++y::xs.drop i.toNat) true),[r],none⟩ else none
     | _=>none
   | _=>none
   else none
 | _=>none
def insB (a:List UInt8):List (List UInt8)→List (List UInt8)
 | []=>[a]
 | b::l=>if Lib.compareBytes b a < 0 then b::insB a l else a::b::l
def sortB:List (List UInt8)→List (List UInt8)
 | []=>[]
 | a::l=>insB a (sortB l)
def insZ (a:Int):List Int→List Int
 | []=>[a]
 | b::l=>if b < a then b::insZ a l else a::b::l
def sortZ:List Int→List Int
 | []=>[]
 | a::l=>insZ a (sortZ l)
def ints:List (List PV)→Option (List Int)
 | []=>some []
 | [.val (.int .i64 n)]::r=>(ints r).map fun l=>n::l
 | _::_=>none
def sortRow (f:List (List PV)→Option (List (List PV))) (x:PV) (H:Heap):Option ORes :=
 match x with
 | .im [] _=>some ⟨uv,H.grow 1,[],none⟩
 | .sl r 1 g 0 n=>match H.at_ r with
   | .row 1 xs true=>if g=n∧xs.length=n∧n≤most then match f xs with
     | some ys=>some ⟨uv,(H.grow 1).put r (.row 1 ys true),[r],none⟩
     | none=>none
     else none
   | _=>none
 | _=>none
def pSortS (f:FuncId) (args:List PV) (H:Heap):Option ORes :=
 match args with
 | [x,.fn g []]=>if g=f then sortRow (fun xs=>(strs xs).map fun l=>(sortB l).map fun s=>[strOf s]) x H else none
 | _=>none
def pSortI (args:List PV) (H:Heap):Option ORes :=
 match args with
 | [x]=>sortRow (fun xs=>(ints xs).map fun l=>(sortZ l).map fun n=>[.val (.int .i64 n)]) x H
 | _=>none
def frozF:FuncId→FuncId→Bool
 | 83,149=>true
 | 83,141=>true
 | 83,95=>true
 | 83,150=>true
 | 25,95=>true
 | 156,181=>true
 | 210,181=>true
 | 195,181=>true
 | 135,181=>true
 | 151,149=>true
 | 85,149=>true
 | _,_=>false
def prim (c:FuncId):FuncId→Option (List PV→Heap→Option ORes)
 | 225=>some pTrunc
 | 158=>some pCompare
 | 95=>cond (frozF c 95) (some (pCloneF 3)) (some (pClone 3))
 | 149=>cond (frozF c 149) (some (pCloneF 2)) (some (pClone 2))
 | 141=>cond (frozF c 141) (some (pCloneF 8)) (some (pClone 8))
 | 150=>cond (frozF c 150) (some (pCloneF 1)) (some (pClone 1))
 | 201=>some (pClone 3)
 | 196=>some (pClone 2)
 | 181=>cond (frozF c 181) (some (pCloneF 1)) (some (pClone 1))
 | 142=>some (pIns 8)
 | 203=>some (pIns 3)
 | 192=>some (pIns 2)
 | 154=>some (pIns 2)
 | 173=>some (pSortS 92)
 | 209=>some pSortI
 | 213=>some (pGrow 1)
 | 232=>some (pGrow 1)
 | _=>none
def inlF:FuncId→Bool
 | 174=>true
 | 211=>true
 | 171=>true
 | 212=>true
 | 170=>true
 | 184=>true
 | 218=>true
 | 183=>true
 | 217=>true
 | 244=>true
 | 216=>true
 | 11=>true
 | _=>false
def keepF:FuncId→FuncId→Bool
 | 103,120=>true
 | 100,161=>true
 | 104,166=>true
 | _,156=>true
 | _,157=>true
 | _,151=>true
 | _,172=>true
 | _,208=>true
 | _,179=>true
 | _,9=>true
 | _,13=>true
 | _,_=>false
def howF (f g:FuncId):How:=if inlF g then .inl else if keepF f g then .keep else .own
def env (P:Program):Env:=⟨P,howF,tab,prim⟩
end Go.Evl.Zone

namespace Go.Evl.Zone
open Go Go.Evl Go.Evl.Fl
attribute [local simp] VB_ite VG_ite
variable {P:Program}
structure Typed (P:Program):Prop where
 t3:P.underlying 3=some (.int .i64)
 t5:P.underlying 5=some (.int .u8)
 t53:P.underlying 34=some (.int .u64)
 t41:P.underlying 176=some (.float .f64)
theorem ownE {f g:FuncId} {xs:List O} {dst:Option Nat} {rest:List CI} {i slot slot':Nat} {log:Log} {d:Dr} {K:Ex→St→Prop} {st:St} {ks:List Fr'} (hp:(prim f g).isNone=true) (hh:(inlF g || keepF f g)=false) :
  VA (env P) f (.call (.c (.fn g [])) xs) dst rest i slot slot' st log d ks K↔VP (env P) f (ownA (env P) g st.h (expAs st.h (xs.map (evO st.σ)))) dst rest i slot' st log d ks K:=VA_own hp (by simp only [Bool.or_eq_false_iff] at hh; simp [env,howF,hh.1,hh.2])
@[simp] theorem env_P:(env P).P=P:=rfl
attribute [simp] VA_pop ret1 nAlloc allocs start expV expA expC expCs expAs flatV flatA flatC ownE prim frozF inlF keepF Value.oneCell' cellP cellsOf loadC_ptr loadC_ip loadC_rp loadP_ob storeC_ptr storeC_rp fillP setL slice0 ordered look apart hits
theorem evBin_ford {t:TypeId} {cx cy:Bool} {a b:Nat} {m n:Int} (ha:Is a m) (hb:Is b n) :
  evBin P .geq t cx cy (.val (.float .f64 a)) (.val (.float .f64 b))=some (.val (.bool (decide (n≤m)))) ∧
  evBin P .leq t cx cy (.val (.float .f64 a)) (.val (.float .f64 b))=some (.val (.bool (decide (m≤n)))) ∧
  evBin P .eql t cx cy (.val (.float .f64 a)) (.val (.float .f64 b))=some (.val (.bool (decide (m=n)))):=by
 have ho:FloatKind.f64.format.order a b=some (compare m n):=ha.order hb
 rw [evBin_fgeq,evBin_fleq,evBin_feql,ho]
 simp only [compare,compareOfLessAndEq]
 rcases Int.lt_trichotomy m n with h | h | h
 ·have h1:¬ n≤m:=by omega
  have h2:m≤n:=by omega
  have h3:¬ m=n:=by omega
  simp [h,h1,h2,h3]
 ·subst h; simp
 ·have h0:¬ m < n:=by omega
  have h1:n≤m:=by omega
  have h2:¬ m≤n:=by omega
  have h3:¬ m=n:=by omega
  simp [h0,h1,h2,h3]
theorem pTrunc_is {b:Nat} {n:Int} {H:Heap} (h:Is b n):pTrunc [.val (.float .f64 b)] H=some ⟨.val (.float .f64 b),H,[],some []⟩:=by
 have h1:=h.integral
 unfold pTrunc
 simp only
 split
 ·rename_i s t hd; rw [hd] at h1; simp [Ieee.Datum.isNaN] at h1
 ·rw [h1.1]
theorem trunc_is {b:Nat} {n:Int} (h:Is b n):ans (env P) 193 [.val (.float .f64 b)]=some (.val (.float .f64 b)):=by
 refine ans_V rfl rfl ?_
 simp [c193,VA_prim (E:=env P) (g:=225) (p:=pTrunc) rfl,pTrunc_is h]
theorem wholeTo_is {x lo hi:Nat} {m l h:Int} (hx:Is x m) (hl:Is lo l) (hh:Is hi h):ans (env P) 145 [.val (.float .f64 x),.val (.float .f64 lo),.val (.float .f64 hi)]=some (.val (.bool (decide (l≤m) && decide (m≤h)))):=by
 refine ans_V rfl rfl ?_
 by_cases h1:l≤m
 ·by_cases h2:m≤h
  ·simp [c145,(evBin_ford hx hl).1,(evBin_ford hx hh).2.1,(evBin_ford hx hx).2.2,h1,h2,trunc_is hx]
  ·simp [c145,(evBin_ford hx hl).1,(evBin_ford hx hh).2.1,h1,h2]
 ·simp [c145,(evBin_ford hx hl).1,h1]
theorem is_const {n:Int} {b:Nat} (h:FloatKind.f64.nearest n=b) (hn:n.natAbs < 2 ^ 53):Is b n:=h▸Is.nearest hn
theorem is0:Is 0 0:=is_const (n:=0) (by decide +kernel) (by decide)
theorem isM1000:Is 13875379345695965184 (-1000):=is_const (n:=-1000) (by decide +kernel) (by decide)
theorem is1000:Is 4652007308841189376 1000:=is_const (n:=1000) (by decide +kernel) (by decide)
theorem is2000:Is 4656510908468559872 2000:=is_const (n:=2000) (by decide +kernel) (by decide)
theorem is2M:Is 4701340746312056832 2000000:=is_const (n:=2000000) (by decide +kernel) (by decide)
theorem isM2M:Is 13924712783166832640 (-2000000):=is_const (n:=-2000000) (by decide +kernel) (by decide)
def near (m:Int):Bool:=decide (-1000≤m) && decide (m≤1000)
theorem whole_is {a b:Nat} {m n:Int} (ha:Is a m) (hb:Is b n):ans (env P) 80 [.val (.complex .f64 a b)]=some (.val (.bool (near m && near n))):=by
 refine ans_V rfl rfl ?_
 have h1':=wholeTo_is (P:=P) ha isM1000 is1000
 have h2':=wholeTo_is (P:=P) hb isM1000 is1000
 rw [← near] at h1' h2'
 cases h1:near m <;> simp [c80,h1',h2',h1]
end Go.Evl.Zone

namespace Go.Evl.Zone
open Go Go.Evl Go.Evl.Fl
attribute [local simp] VB_ite VG_ite
variable {P:Program}
def spotN (x:Int):Int:=x % 18446744073709551616 % 2001 - 1000
theorem spotN_near (x:Int):near (spotN x)=true:=by
 unfold near spotN
 rw [Bool.and_eq_true,decide_eq_true_eq,decide_eq_true_eq]; omega
def placeV (x y:Int):PV:=.agg [.val (.int .i64 x),.val (.int .i64 y)]
theorem wrap64_id {n:Int} (h:-9223372036854775808≤n∧n≤9223372036854775807):IntKind.i64.wrap n=n:=by rw [IntKind.wrap_i64]; omega
theorem wrapU64 {n:Int}:IntKind.u64.wrap n=n % 18446744073709551616:=rfl
theorem tmod_pos {a b:Int} (ha:0≤a) (hb:0≤b):a.tmod b=a % b:=Int.tmod_eq_emod_of_nonneg ha
theorem refSpot_ans (T:Typed P) {x y:Int}:ans (env P) 96 [placeV x y]=some (placeV (spotN x) (spotN y)):=by
 refine ans_V rfl rfl ?_
 have e3:∀ n:Int,scal P (Go.convert 3 34 (.int .i64 n))=some (.val (.int .u64 (n % 18446744073709551616))):=fun n=>by
  rw [cv_ii (k:=.u64) (by show (P.underlying 3).isSome=true; rw [T.t3]; rfl) T.t53,wrapU64]
 have e4:∀ n:Int,scal P (Go.convert 34 3 (.int .u64 (n % 18446744073709551616 % 2001)))=some (.val (.int .i64 (n % 18446744073709551616 % 2001))):=fun n=>by
  rw [cv_ii (k:=.i64) (by show (P.underlying 34).isSome=true; rw [T.t53]; rfl) T.t3,wrap64_id (by omega)]
 have e5:∀ n:Int,(n % 18446744073709551616).tmod 2001=n % 18446744073709551616 % 2001:=fun n=>tmod_pos (by omega) (by omega)
 have e6:∀ n:Int,IntKind.i64.wrap (n % 18446744073709551616 % 2001 - 1000)=spotN n:=fun n=>wrap64_id (by omega)
 simp [c96,placeV,e3,e4,e5,e6]
theorem spot_ans (T:Typed P) {x y:Int}:ans (env P) 65 [placeV x y]=some (.val (.complex .f64 (FloatKind.f64.nearest x) (FloatKind.f64.nearest y))):=by
 refine ans_V rfl rfl ?_
 have e3:∀ n:Int,scal P (Go.convert 3 176 (.int .i64 n))=some (.val (.float .f64 (FloatKind.f64.nearest n))):=fun n=>cv_if (by show (P.underlying 3).isSome=true; rw [T.t3]; rfl) T.t41
 simp [c65,placeV,e3]
def stepV (op:Int) (re im sz:Nat):PV:=.agg [.val (.int .i64 op),.val (.complex .f64 re im),.val (.float .f64 sz)]
def needsN (op:Int):Int:=if op=4 then 1 else if op=5∨op=6 then 2 else 0
theorem needs_ans {op:Int} {re im sz:Nat}:ans (env P) 146 [stepV op re im sz]=some (.val (.int .i64 (needsN op))):=by
 refine ans_V rfl rfl ?_
 by_cases h4:op=4
 ·simp [c146,stepV,needsN,h4]
 ·by_cases h5:op=5
  ·simp [c146,stepV,needsN,h5]
  ·by_cases h6:op=6
   ·simp [c146,stepV,needsN,h6]
   ·simp [c146,stepV,needsN,h4,h5,h6]
def rightB (op x y s:Int):Bool :=
 if op=2 then near x && near y && (decide (0≤s) && decide (s≤2000))
 else if op=3 then near x && near y && (decide (-2000000≤s) && decide (s≤2000000))
 else if op=1∨op=4∨op=5∨op=6 then decide (x=0) && decide (y=0) && decide (s=0)
 else false
theorem ceql0 {a b:Nat} {x y:Int} (ha:Is a x) (hb:Is b y) {t:TypeId} {cx cy:Bool} :
  evBin P .eql t cx cy (.val (.complex .f64 a b)) (.val (.complex .f64 0 0))=some (.val (.bool (decide (x=0) && decide (y=0)))):=by
 have h1:FloatKind.f64.format.order a 0=some (compare x 0):=ha.order is0
 have h2:FloatKind.f64.format.order b 0=some (compare y 0):=hb.order is0
 rw [evBin_ceql,h1,h2]
 have key:∀ z:Int,(some (compare z 0) == some Ordering.eq)=decide (z=0):=fun z=>by
  simp only [compare,compareOfLessAndEq]
  rcases Int.lt_trichotomy z 0 with h | h | h
  ·have:¬ z=0:=by omega
   simp [h,this]
  ·simp [h]
  ·have h0:¬ z < 0:=by omega
   have:¬ z=0:=by omega
   simp [h0,this]
 rw [key,key]
theorem right_is {op:Int} {re im sz:Nat} {x y s:Int} (hx:Is re x) (hy:Is im y) (hs:Is sz s):ans (env P) 159 [stepV op re im sz]=some (.val (.bool (rightB op x y s))):=by
 refine ans_V rfl rfl ?_
 have hw:=whole_is (P:=P) hx hy
 have h0:=ceql0 (P:=P) hx hy (t:=67) (cx:=false) (cy:=true)
 have hs0:=(evBin_ford (P:=P) hs is0 (t:=176) (cx:=false) (cy:=true)).2.2
 by_cases h2:op=2
 ·subst h2
  cases hn:(near x && near y) <;> simp [c159,stepV,hw,hn,wholeTo_is hs is0 is2000,rightB]
 ·by_cases h3:op=3
  ·subst h3
   cases hn:(near x && near y) <;> simp [c159,stepV,hw,hn,wholeTo_is hs isM2M is2M,rightB]
  ·by_cases h1:op=1
   ·subst h1
    cases hn:(decide (x=0) && decide (y=0)) <;> simp [c159,stepV,h0,hs0,hn,rightB]
   ·by_cases h4:op=4
    ·subst h4
     cases hn:(decide (x=0) && decide (y=0)) <;> simp [c159,stepV,h0,hs0,hn,rightB]
    ·by_cases h5:op=5
     ·subst h5
      cases hn:(decide (x=0) && decide (y=0)) <;> simp [c159,stepV,h0,hs0,hn,rightB]
     ·by_cases h6:op=6
      ·subst h6
       cases hn:(decide (x=0) && decide (y=0)) <;> simp [c159,stepV,h0,hs0,hn,rightB]
      ·simp [c159,stepV,h1,h2,h3,h4,h5,h6,rightB]
end Go.Evl.Zone

namespace Go.Evl.Zone
open Go Go.Evl Go.Evl.Fl
attribute [local simp] VB_ite VG_ite
variable {P:Program}
theorem arith_ok {op:BinOp} {a b r:Nat} (h:(match op with
  | .add=>FloatKind.f64.format.add a b
  | .sub=>FloatKind.f64.format.sub a b
  | .mul=>FloatKind.f64.format.mul a b
  | _=>none)=some r):Op.Complex.arith op .f64 a b=pure r:=by
 unfold Op.Complex.arith Op.floatArith
 cases op <;> simp at h <;> simp [h]
theorem csub_ok {t:TypeId} {cx cy:Bool} {a b c d e f:Nat} (h1:FloatKind.f64.format.sub a c=some e) (h2:FloatKind.f64.format.sub b d=some f) :
  evBin P .sub t cx cy (.val (.complex .f64 a b)) (.val (.complex .f64 c d))=some (.val (.complex .f64 e f)):=by
 have e1:=arith_ok (op:=.sub) h1
 have e2:=arith_ok (op:=.sub) h2
 have:binOp .sub t (.complex .f64 a b) (.complex .f64 c d)=(pure (.complex .f64 e f):Sem Value):=by
  simp [binOp,Op.complexOp,e1,e2]
 simp only [evBin,toV,this]; rfl
theorem cmul_ok {t:TypeId} {cx cy:Bool} {a b c d ac bd ad bc e f:Nat} (h1:FloatKind.f64.format.mul a c=some ac) (h2:FloatKind.f64.format.mul b d=some bd) (h3:FloatKind.f64.format.mul a d=some ad) (h4:FloatKind.f64.format.mul b c=some bc)
  (h5:FloatKind.f64.format.sub ac bd=some e) (h6:FloatKind.f64.format.add ad bc=some f) :
  evBin P .mul t cx cy (.val (.complex .f64 a b)) (.val (.complex .f64 c d))=some (.val (.complex .f64 e f)):=by
 have e1:=arith_ok (op:=.mul) h1
 have e2:=arith_ok (op:=.mul) h2
 have e3:=arith_ok (op:=.mul) h3
 have e4:=arith_ok (op:=.mul) h4
 have e5:=arith_ok (op:=.sub) h5
 have e6:=arith_ok (op:=.add) h6
 have:binOp .mul t (.complex .f64 a b) (.complex .f64 c d)=(pure (.complex .f64 e f):Sem Value):=by
  simp [binOp,Op.complexOp,Op.Complex.conv,Op.Complex.product,Op.Complex.mul,Op.Complex.sub,Op.Complex.add,e1,e2,e3,e4,e5,e6]
 simp only [evBin,toV,this]; rfl
def sm (n:Int):Prop:=-3000≤n∧n≤3000
theorem abs_lt53 {n:Int} (h:-100000000≤n∧n≤100000000):n.natAbs < 2 ^ 53:=by
 simp only [Nat.reducePow]; omega
theorem mul_le {a b:Int} (ha:sm a) (hb:sm b):-9000000≤a * b∧a * b≤9000000:=by
 unfold sm at ha hb
 have h1:0≤(3000 - a) * (3000+b):=Int.mul_nonneg (by omega) (by omega)
 have h2:0≤(3000+a) * (3000 - b):=Int.mul_nonneg (by omega) (by omega)
 have h3:0≤(3000 - a) * (3000 - b):=Int.mul_nonneg (by omega) (by omega)
 have h4:0≤(3000+a) * (3000+b):=Int.mul_nonneg (by omega) (by omega)
 rw [Int.sub_mul,Int.mul_add,Int.mul_add] at h1
 rw [Int.add_mul,Int.mul_sub,Int.mul_sub] at h2
 rw [Int.sub_mul,Int.mul_sub,Int.mul_sub] at h3
 rw [Int.add_mul,Int.mul_add,Int.mul_add] at h4
 generalize a * b=ab at *
 omega
theorem cmul_is {t:TypeId} {cx cy:Bool} {a b c d:Nat} {m n p q:Int} (ha:Is a m) (hb:Is b n) (hc:Is c p) (hd:Is d q) (sm1:sm m) (sm2:sm n) (sm3:sm p) (sm4:sm q) :
  ∃ e f,evBin P .mul t cx cy (.val (.complex .f64 a b)) (.val (.complex .f64 c d))=some (.val (.complex .f64 e f))∧Is e (m * p - n * q)∧Is f (m * q+n * p):=by
 have b1:=mul_le sm1 sm3
 have b2:=mul_le sm2 sm4
 have b3:=mul_le sm1 sm4
 have b4:=mul_le sm2 sm3
 obtain ⟨ac,h1,i1⟩:=ha.mul hc (abs_lt53 (by omega))
 obtain ⟨bd,h2,i2⟩:=hb.mul hd (abs_lt53 (by omega))
 obtain ⟨ad,h3,i3⟩:=ha.mul hd (abs_lt53 (by omega))
 obtain ⟨bc,h4,i4⟩:=hb.mul hc (abs_lt53 (by omega))
 obtain ⟨e,h5,i5⟩:=i1.sub i2 (abs_lt53 (by omega))
 obtain ⟨f,h6,i6⟩:=i3.add i4 (abs_lt53 (by omega))
 exact ⟨e,f,cmul_ok h1 h2 h3 h4 h5 h6,i5,i6⟩
theorem csub_is {t:TypeId} {cx cy:Bool} {a b c d:Nat} {m n p q:Int} (ha:Is a m) (hb:Is b n) (hc:Is c p) (hd:Is d q) (sm1:sm m) (sm2:sm n) (sm3:sm p) (sm4:sm q) :
  ∃ e f,evBin P .sub t cx cy (.val (.complex .f64 a b)) (.val (.complex .f64 c d))=some (.val (.complex .f64 e f))∧Is e (m - p)∧Is f (n - q):=by
 unfold sm at *
 obtain ⟨e,h5,i5⟩:=ha.sub hc (abs_lt53 (by omega))
 obtain ⟨f,h6,i6⟩:=hb.sub hd (abs_lt53 (by omega))
 exact ⟨e,f,csub_ok h5 h6,i5,i6⟩
theorem conj_ans {a b:Nat}:ans (env P) 227 [.val (.complex .f64 a b)]=some (.val (.complex .f64 a (Op.negFloat .f64 b))):=by
 refine ans_V rfl rfl ?_
 simp [c227]
theorem along_is {a b c d:Nat} {m n p q:Int} (ha:Is a m) (hb:Is b n) (hc:Is c p) (hd:Is d q) (sm1:sm m) (sm2:sm n) (sm3:sm p) (sm4:sm q) :
  ∃ e,ans (env P) 194 [.val (.complex .f64 a b),.val (.complex .f64 c d)]=some (.val (.float .f64 e))∧Is e (m * p+n * q):=by
 obtain ⟨e,f,h1,h2,h3⟩:=cmul_is (P:=P) (t:=67) (cx:=false) (cy:=false) ha hb hc hd.neg sm1 sm2 sm3 (by unfold sm at *; omega)
 refine ⟨e,ans_V rfl rfl ?_,?_⟩
 ·simp [c194,conj_ans,h1]
 ·rw [Int.mul_neg,Int.sub_neg] at h2; exact h2
def truthB (op x y s px py:Int) (t:List Bool):Bool :=
 if op=2 then decide ((px - x) * (px - x)+(py - y) * (py - y)≤s * s)
 else if op=3 then decide (s≤px * x+py * y)
 else if op=4 then !(t.getD 0 false)
 else if op=5 then t.getD 0 false && t.getD 1 false
 else if op=6 then t.getD 0 false || t.getD 1 false
 else true
def boolsV (t:List Bool):List (List PV):=t.map fun b=>[.val (.bool b)]
theorem evBin_fmul {t:TypeId} {cx cy:Bool} {a b c:Nat} (h:FloatKind.f64.format.mul a b=some c):evBin P .mul t cx cy (.val (.float .f64 a)) (.val (.float .f64 b))=some (.val (.float .f64 c)):=by
 have:binOp .mul t (.float .f64 a) (.float .f64 b)=(pure (.float .f64 c):Sem Value):=by simp [binOp,Op.floatArith,h]
 simp only [evBin,toV,this]; rfl
theorem truth_is {op:Int} {re im sz a b:Nat} {x y s px py:Int} {t:List Bool} {full:Bool} (hx:Is re x) (hy:Is im y) (hs:Is sz s) (ha:Is a px) (hb:Is b py) (n1:near x=true) (n2:near y=true) (n3:near px=true) (n4:near py=true)
  (hz:op=2→0≤s∧s≤2000) (hl:(t.length:Int)=needsN op):ans (env P) 147 [stepV op re im sz,.val (.complex .f64 a b),.im (boolsV t) full]=some (.val (.bool (truthB op x y s px py t))):=by
 simp only [near,Bool.and_eq_true,decide_eq_true_eq] at n1 n2 n3 n4
 refine ans_V rfl rfl ?_
 by_cases h2:op=2
 ·subst h2
  have hz:=hz rfl
  obtain ⟨e,f,h1,i1,i2⟩:=csub_is (P:=P) (t:=67) (cx:=false) (cy:=false) ha hb hx hy (by unfold sm; omega) (by unfold sm; omega) (by unfold sm; omega) (by unfold sm; omega)
  obtain ⟨g,h3,i3⟩:=along_is (P:=P) i1 i2 i1 i2 (by unfold sm; omega) (by unfold sm; omega) (by unfold sm; omega) (by unfold sm; omega)
  have bs:=mul_le (a:=s) (b:=s) (by unfold sm; omega) (by unfold sm; omega)
  obtain ⟨h,h4,i4⟩:=hs.mul hs (abs_lt53 (by omega))
  have h5:=(evBin_ford (P:=P) (t:=176) (cx:=false) (cy:=false) i3 i4).2.1
  simp [c147,stepV,h1,h3,evBin_fmul h4,h5,truthB]
 ·by_cases h3:op=3
  ·subst h3
   obtain ⟨g,h3,i3⟩:=along_is (P:=P) ha hb hx hy (by unfold sm; omega) (by unfold sm; omega) (by unfold sm; omega) (by unfold sm; omega)
   have h5:=(evBin_ford (P:=P) (t:=176) (cx:=false) (cy:=false) i3 hs).1
   simp [c147,stepV,h3,h5,truthB]
  ·by_cases h4:op=4
   ·subst h4
    match t,hl with
    | [b0],_=>simp [c147,stepV,truthB,boolsV,allLen]
   ·by_cases h5:op=5
    ·subst h5
     match t,hl with
     | [b0,b1],_=>cases b0 <;> simp [c147,stepV,truthB,boolsV,allLen]
    ·by_cases h6:op=6
     ·subst h6
      match t,hl with
      | [b0,b1],_=>cases b0 <;> simp [c147,stepV,truthB,boolsV,allLen]
     ·simp [c147,stepV,h2,h3,h4,h5,h6,truthB]
end Go.Evl.Zone

namespace Go.Evl.Zone
open Go Go.Evl Go.Evl.Fl
attribute [local simp] VB_ite VG_ite
variable {P:Program}
theorem V_loop {E:Env} {f:FuncId} {b:CC} {st:St} {ks:List Fr'} {K:Ex→St→Prop}:V E f (.loop b) st ks K↔V E f b st (.seq (.loop b)::ks) K:=W_loop
structure SI where
 op:Int
 x:Int
 y:Int
 s:Int
 re:Nat
 im:Nat
 sz:Nat
def SI.ok (q:SI):Prop:=Is q.re q.x∧Is q.im q.y∧Is q.sz q.s
def SI.cells (q:SI):List PV:=[.val (.int .i64 q.op),.val (.complex .f64 q.re q.im),.val (.float .f64 q.sz)]
def stepsV (l:List SI):List (List PV):=l.map SI.cells
@[simp] theorem stepsV_length (l:List SI):(stepsV l).length=l.length:=by simp [stepsV]
@[simp] theorem stepsV_len:∀ (l:List SI),allLen 3 (stepsV l)=true
 | []=>rfl
 | q::l=>by simp only [stepsV,List.map_cons,allLen,SI.cells]; rw [show (List.map SI.cells l)=stepsV l from rfl,stepsV_len l]; rfl
theorem stepsV_get {l:List SI} {i:Nat} {q:SI} (h:l[i]?=some q):(stepsV l)[i]?=some q.cells:=by simp [stepsV,h]
def SI.right (q:SI):Bool:=rightB q.op q.x q.y q.s
def foldR:List SI→Int→Option Int
 | [],n=>some n
 | q::l,n=>if q.right=false∨n < needsN q.op then none else foldR l (n+(1 - needsN q.op))
theorem needsN_le (op:Int):0≤needsN op∧needsN op≤2:=by
 unfold needsN
 split
 ·omega
 ·split <;> omega
theorem loop14 {L:List SI} (hok:∀ q∈L,q.ok) {ks:List Fr'} {K:Ex→St→Prop} (hL:L.length≤32):∀ (rest:List SI) (i:Nat) (n:Int) (st:St),L.drop i=rest→0≤n∧n≤i→st.σ 9 = .im (stepsV L) false→st.σ 10 = .val (.int .i64 L.length)→st.σ 11 = .val (.int .i64 i)→st.σ 3 = .val (.int .i64 n) →
  (∀ st',foldR rest n=none→st'.σ 2 = .val (.bool false)→K .ret st')→(∀ st' m,foldR rest n=some m→st'.σ 3 = .val (.int .i64 m)→VN (env P) 94 st' ks K)→V (env P) 94 (.loop L94_0) st (.blk 0::ks) K
 | [],i,n,st,hr,hn,h9,h10,h11,h3,hret,hend=>by
   have hi:L.length≤i:=by
    have:=congrArg List.length hr; simp at this; omega
   have hlt:¬ i < L.length:=by omega
   rw [V_loop]
   simp [L94_0,h10,h11,hlt]
   refine hend _ n rfl ?_
   simp [h3]
 | q::rest,i,n,st,hr,hn,h9,h10,h11,h3,hret,hend=>by
   have hq:L[i]?=some q:=by
    have:(L.drop i)[0]?=some q:=by rw [hr]; rfl
    simpa using this
   have hlt:i < L.length:=(List.getElem?_eq_some_iff.1 hq).1
   have hr':L.drop (i+1)=rest:=by rw [← List.drop_drop,hr]; rfl
   have hqo:=hok q (List.mem_of_getElem? hq)
   have hc:∀ h,(stepsV L)[i]'h=q.cells:=fun h=>(List.getElem?_eq_some_iff.1 (stepsV_get hq)).2
   have hri:=right_is (P:=P) (op:=q.op) hqo.1 hqo.2.1 hqo.2.2
   have hne:=needs_ans (P:=P) (op:=q.op) (re:=q.re) (im:=q.im) (sz:=q.sz)
   rw [stepV] at hri hne
   have hb:=needsN_le q.op
   have hw:IntKind.i64.wrap (1 - needsN q.op)=1 - needsN q.op:=wrap64_id (by omega)
   have hw2:IntKind.i64.wrap (n+(1 - needsN q.op))=n+(1 - needsN q.op):=wrap64_id (by omega)
   have hw3:IntKind.i64.wrap ((i:Int)+1)=((i+1:Nat):Int):=by rw [wrap64_id (by omega)]; rfl
   rw [V_loop]
   cases hqr:q.right with
   | false =>
     have hqr':rightB q.op q.x q.y q.s=false:=hqr
     simp [L94_0,h9,h10,h11,h3,hlt,hc,SI.cells,hri,hqr']
     refine hret _ (by simp [foldR,hqr]) ?_
     simp
   | true =>
     have hqr':rightB q.op q.x q.y q.s=true:=hqr
     by_cases hnn:n < needsN q.op
     ·simp [L94_0,h9,h10,h11,h3,hlt,hc,SI.cells,hri,hqr',hne,hnn]
      refine hret _ (by simp [foldR,hnn]) ?_
      simp
     ·simp [L94_0,h9,h10,h11,h3,hlt,hc,SI.cells,hri,hqr',hne,hnn,hw,hw2,hw3]
      refine loop14 hok hL rest (i+1) (n+(1 - needsN q.op)) _ hr' (by omega) ?_ ?_ ?_ ?_ ?_ ?_
      ·simp [h9]
      ·simp [h10]
      ·simp
      ·simp
      ·intro st' hf hs; exact hret st' (by simp [foldR,hqr,hnn,hf]) hs
      ·intro st' m hf hs; exact hend st' m (by simp [foldR,hqr,hnn,hf]) hs
def zoneRight (l:List SI):Bool:=decide (l.length≤32) && decide (foldR l 0=some 1)
theorem zoneRight_ans {l:List SI} (hok:∀ q∈l,q.ok):ans (env P) 94 [.im (stepsV l) false]=some (.val (.bool (zoneRight l))):=by
 refine ans_V rfl rfl ?_
 by_cases h:l.length≤32
 ·have h':¬ ((32:Int) < (l.length:Int)):=by omega
  simp [c94,h']
  refine loop14 hok h l 0 0 _ rfl (by omega) ?_ ?_ ?_ ?_ ?_ ?_
  ·simp
  ·simp
  ·simp
  ·simp
  ·intro st' hf hs; simp [hs,zoneRight,hf]
  ·intro st' m hf hs
   simp [hs,zoneRight,hf,h]
 ·have h':(32:Int) < (l.length:Int):=by omega
  simp [c94,h',zoneRight,h]
end Go.Evl.Zone

namespace Go.Evl.Zone
open Go Go.Evl Go.Evl.Fl
attribute [local simp] VB_ite VG_ite
variable {P:Program}
def SI.truth (q:SI) (px py:Int) (t:List Bool):Bool:=truthB q.op q.x q.y q.s px py t
def stepT (q:SI) (px py:Int) (t:List Bool):List Bool:=t.take (t.length - (needsN q.op).toNat)++[q.truth px py (t.drop (t.length - (needsN q.op).toNat))]
def runT (px py:Int):List SI→List Bool→List Bool
 | [],t=>t
 | q::l,t=>runT px py l (stepT q px py t)
theorem right_near {op x y s:Int} (h:rightB op x y s=true):near x=true∧near y=true∧(op=2→0≤s∧s≤2000):=by
 unfold rightB at h
 split at h
 ·simp only [Bool.and_eq_true,decide_eq_true_eq] at h
  exact ⟨h.1.1,h.1.2,fun _=>h.2⟩
 ·rename_i h2
  split at h
  ·simp only [Bool.and_eq_true,decide_eq_true_eq] at h
   exact ⟨h.1.1,h.1.2,fun q=>(h2 q).elim⟩
  ·split at h
   ·simp only [Bool.and_eq_true,decide_eq_true_eq] at h
    obtain ⟨⟨rfl,rfl⟩,_⟩:=h
    exact ⟨by decide,by decide,fun q=>(h2 q).elim⟩
   ·simp at h
theorem boolsV_length (t:List Bool):(boolsV t).length=t.length:=by simp [boolsV]
theorem boolsV_drop (t:List Bool) (k:Nat):(boolsV t).drop k=boolsV (t.drop k):=by simp [boolsV]
theorem boolsV_take (t:List Bool) (k:Nat):(boolsV t).take k=boolsV (t.take k):=by simp [boolsV,List.map_take]
theorem plainss_bools:∀ t:List Bool,plainss (boolsV t)=some (boolsV t)
 | []=>rfl
 | b::t=>by
   have:=plainss_bools t
   simp only [boolsV,List.map_cons,plainss,plains,plain] at *
   rw [this]; rfl
structure Stack (st:St) (t:List Bool) (r g:Nat) (xs:List (List PV)):Prop where
 v:st.σ 5 = .sl r 1 g 0 t.length
 b:st.h.at_ r = .row 1 xs true
 g:g=xs.length
 le:t.length≤xs.length
 eq:xs.take t.length=boolsV t
 lt:r < st.h.n
theorem slice_lo {H:Heap} {r g len k:Nat} {xs:List (List PV)} {own:Bool} (hat:H.at_ r = .row 1 xs own) (hg:g=xs.length) (hk:k≤len) (hl:len≤xs.length):sliceP H 1 (.sl r 1 g 0 len) none (some k) none=some (.sl r 1 g 0 k,[r]):=by
 unfold sliceP
 simp only [hat]
 rw [if_pos ⟨by decide,trivial,trivial,hg,by simp,by simp; omega⟩]
 simp
theorem slice_hi {H:Heap} {r g len k:Nat} {xs:List (List PV)} {own:Bool} (hat:H.at_ r = .row 1 xs own) (hg:g=xs.length) (hk:k≤len) (hl:len≤xs.length):sliceP H 1 (.sl r 1 g 0 len) (some k) none none=some (if k=len∧0 < k then .im [] false else .sl r 1 g k (len - k),[r]):=by
 unfold sliceP
 simp only [hat]
 rw [if_pos ⟨by decide,trivial,trivial,hg,by simp; omega,by simp; omega⟩]
 simp only [Option.getD_some,Option.getD_none,Nat.zero_add]
 split <;> rfl
def over (xs:List (List PV)) (k:Nat) (y:List PV):List (List PV):=if k+1≤xs.length then setL xs k [y] else xs.take k++[y]
theorem app_one {H:Heap} {slot r k:Nat} {xs:List (List PV)} {y:List PV} (hat:H.at_ r = .row 1 xs true) (hk:k≤xs.length) (hm:k+1≤most) :
  appendP H slot 1 (.sl r 1 xs.length 0 k) [y]=some (.sl r 1 (over xs k y).length 0 (k+1),H.put r (.row 1 (over xs k y) true),[r],[r]):=by
 unfold appendP over
 simp only [hat]
 rw [if_neg (by simp),if_pos ⟨trivial,trivial,trivial,by omega⟩]
 by_cases h:k+1≤xs.length
 ·rw [if_pos h,if_pos (by simp; omega)]
  have:(setL xs k [y]).length=xs.length:=by unfold setL; simp; omega
  rw [this,Nat.zero_add]; rfl
 ·rw [if_neg h,if_neg (by simp; omega),if_pos ⟨trivial,by simpa using hm⟩]
  have:(xs.take k++[y]).length=k+1:=by simp; omega
  rw [this]; rfl
theorem over_len {xs:List (List PV)} {k:Nat} {y:List PV} (hk:k≤xs.length):k+1≤(over xs k y).length:=by
 unfold over
 split
 ·unfold setL; simp; omega
 ·simp; omega
theorem over_take {xs:List (List PV)} {k:Nat} {y:List PV} (hk:k≤xs.length):(over xs k y).take (k+1)=xs.take k++[y]:=by
 unfold over
 split
 ·unfold setL
  rw [List.take_append_of_le_length (by simp; omega)]
  exact List.take_of_length_le (by simp; omega)
 ·exact List.take_of_length_le (by simp; omega)
end Go.Evl.Zone

namespace Go.Evl.Zone
open Go Go.Evl Go.Evl.Fl
attribute [local simp] VB_ite VG_ite
variable {P:Program}
@[simp] theorem freeze_nil (H:Heap):freeze H []=H:=rfl
theorem loop15 {L:List SI} (hok:∀ q∈L,q.ok) {ks:List Fr'} {K:Ex→St→Prop} (hL:L.length≤32) {a b:Nat} {px py:Int} (ha:Is a px) (hb:Is b py) (n3:near px=true) (n4:near py=true) (m:Int) :
  ∀ (rest:List SI) (i:Nat) (t:List Bool) (st:St),L.drop i=rest→foldR rest t.length=some m→t.length≤i→(∃ r g xs,Stack st t r g xs) →
  st.σ 17 = .im (stepsV L) false→st.σ 18 = .val (.int .i64 L.length)→st.σ 19 = .val (.int .i64 i)→st.σ 1 = .val (.complex .f64 a b) →
  (∀ st',(∃ r g xs,Stack st' (runT px py rest t) r g xs)→VN (env P) 81 st' ks K)→V (env P) 81 (.loop L81_0) st (.blk 0::ks) K
 | [],i,t,st,hr,hf,hti,⟨r,g,xs,hs⟩,h17,h18,h19,h1,hend=>by
   have hi:L.length≤i:=by
    have:=congrArg List.length hr; simp at this; omega
   have hlt:¬ i < L.length:=by omega
   rw [V_loop]
   simp [L81_0,h18,h19,hlt]
   refine hend _ ⟨r,g,xs,⟨by simp [hs.v,runT],?_,hs.g,hs.le,hs.eq,?_⟩⟩
   ·simp [hs.b,hs.lt]
   ·simp; exact hs.lt
 | q::rest,i,t,st,hr,hf,hti,⟨r,g,xs,hs⟩,h17,h18,h19,h1,hend=>by
   have hq:L[i]?=some q:=by
    have:(L.drop i)[0]?=some q:=by rw [hr]; rfl
    simpa using this
   have hlt:i < L.length:=(List.getElem?_eq_some_iff.1 hq).1
   have hr':L.drop (i+1)=rest:=by rw [← List.drop_drop,hr]; rfl
   have hqo:=hok q (List.mem_of_getElem? hq)
   have hc:∀ h,(stepsV L)[i]'h=q.cells:=fun h=>(List.getElem?_eq_some_iff.1 (stepsV_get hq)).2
   have hb2:=needsN_le q.op
   unfold foldR at hf
   split at hf
   ·simp at hf
   ·rename_i hno
    simp only [not_or,Bool.not_eq_false,Int.not_lt] at hno
    obtain ⟨hqr,hnn⟩:=hno
    obtain ⟨nx,ny,nz⟩:=right_near hqr
    obtain ⟨k,hk⟩:∃ k:Nat,(k:Int)=t.length - needsN q.op:=⟨(t.length - needsN q.op).toNat,by omega⟩
    have hkle:k≤t.length:=by omega
    have hkk:t.length - (needsN q.op).toNat=k:=by omega
    have hne:=needs_ans (P:=P) (op:=q.op) (re:=q.re) (im:=q.im) (sz:=q.sz)
    rw [stepV] at hne
    have hw:IntKind.i64.wrap ((t.length:Int) - needsN q.op)=(k:Int):=by rw [← hk]; exact wrap64_id (by omega)
    have hw3:IntKind.i64.wrap ((i:Int)+1)=((i+1:Nat):Int):=by rw [wrap64_id (by omega)]; rfl
    have hrn:¬ r=st.h.n:=by have:=hs.lt; omega
    have hrl:r < st.h.n+1:=by have:=hs.lt; omega
    have htr:=truth_is (P:=P) (op:=q.op) (t:=t.drop k) (full:=false) hqo.1 hqo.2.1 hqo.2.2 ha hb nx ny n3 n4 nz (by simp; omega)
    rw [stepV] at htr
    obtain ⟨hv,hbk,hg,hle,heq,hrlt⟩:=hs
    subst hg
    have hsl:∀ H:Heap,H.at_ r = .row 1 xs true→sliceP H 1 (.sl r 1 xs.length 0 t.length) none (some k) none=some (.sl r 1 xs.length 0 k,[r]):=fun H h=>slice_lo h rfl hkle hle
    have hpp:plainss ((xs.drop k).take (t.length - k))=some (boolsV (t.drop k)):=by
     rw [← plainss_bools,← boolsV_drop,← heq,List.drop_take]
    have happ:∀ (H:Heap) (slot:Nat),H.at_ r = .row 1 xs true→appendP H slot 1 (.sl r 1 xs.length 0 k) [[.val (.bool (truthB q.op q.x q.y q.s px py (t.drop k)))]]=some (.sl r 1 (over xs k [.val (.bool (truthB q.op q.x q.y q.s px py (t.drop k)))]).length 0 (k+1),H.put r (.row 1 (over xs k [.val (.bool (truthB q.op q.x q.y q.s px py (t.drop k)))]) true),[r],[r]) :=
     fun H slot h=>app_one h (by omega) (by unfold most; simp only [Nat.reducePow]; omega)
    have hfin:∀ st',st'.σ 5 = .sl r 1 (over xs k [.val (.bool (truthB q.op q.x q.y q.s px py (t.drop k)))]).length 0 (k+1)→st'.h.at_ r = .row 1 (over xs k [.val (.bool (truthB q.op q.x q.y q.s px py (t.drop k)))]) true→r < st'.h.n →
      ∃ r g xs,Stack st' (stepT q px py t) r g xs:=by
     intro st' e1 e2 e3
     have hlen:(stepT q px py t).length=k+1:=by unfold stepT; rw [hkk]; simp; omega
     refine ⟨r,_,_,⟨by rw [e1,hlen],e2,rfl,by rw [hlen]; exact over_len (by omega),?_,e3⟩⟩
     rw [hlen,over_take (by omega)]
     unfold stepT SI.truth
     rw [hkk]
     have:xs.take k=boolsV (t.take k):=by rw [← boolsV_take,← heq,List.take_take,Nat.min_eq_left hkle]
     rw [this]; simp [boolsV]
    have hlenT:(stepT q px py t).length=k+1:=by unfold stepT; rw [hkk]; simp; omega
    have hfT:foldR rest (stepT q px py t).length=some m:=by
     rw [hlenT,← hf]; congr 1; omega
    by_cases hcase:k=t.length∧0 < k
    ·have hsh:∀ H:Heap,H.at_ r = .row 1 xs true→sliceP H 1 (.sl r 1 xs.length 0 t.length) (some k) none none=some (.im [] false,[r]):=fun H h=>by
      rw [slice_hi h rfl hkle hle,if_pos hcase]
     have hd:t.drop k=[]:=by rw [hcase.1]; exact List.drop_length
     rw [hd,show boolsV []=[] from rfl] at htr
     rw [hd] at happ hfin
     rw [V_loop]
     simp [L81_0,hv,h17,h18,h19,h1,hlt,hc,SI.cells,hne,hw,hw3,hsl,hsh,hrn,hrl,hrlt,hbk,htr,happ,elems,allLen,chunks]
     refine loop15 hok hL ha hb n3 n4 m rest (i+1) (stepT q px py t) _ hr' hfT (by omega) (hfin _ ?_ ?_ ?_) ?_ ?_ ?_ ?_ hend
     ·simp
     ·simp [hrn]; omega
     ·simp; omega
     ·simp [h17]
     ·simp [h18]
     ·simp
     ·simp [h1]
    ·have hsh:∀ H:Heap,H.at_ r = .row 1 xs true→sliceP H 1 (.sl r 1 xs.length 0 t.length) (some k) none none=some (.sl r 1 xs.length k (t.length - k),[r]):=fun H h=>by
      rw [slice_hi h rfl hkle hle,if_neg hcase]
     have hkx:k+(t.length - k)≤xs.length:=by omega
     rw [V_loop]
     simp [L81_0,hv,h17,h18,h19,h1,hlt,hc,SI.cells,hne,hw,hw3,hsl,hsh,hrn,hrl,hrlt,hbk,htr,happ,elems,allLen,chunks,hpp,hkx]
     refine loop15 hok hL ha hb n3 n4 m rest (i+1) (stepT q px py t) _ hr' hfT (by omega) (hfin _ ?_ ?_ ?_) ?_ ?_ ?_ ?_ hend
     ·simp
     ·simp [hrn]; omega
     ·simp; omega
     ·simp [h17]
     ·simp [h18]
     ·simp
     ·simp [h1]
theorem loop15_first {L:List SI} (hok:∀ q∈L,q.ok) {ks:List Fr'} {K:Ex→St→Prop} (hL:L.length≤32) {a b:Nat} {px py:Int} (ha:Is a px) (hb:Is b py) (n3:near px=true) (n4:near py=true) (m:Int) (hL0:L≠[])
  (st:St) (hf:foldR L 0=some m) (h5:st.σ 5 = .im [] true)
  (h17:st.σ 17 = .im (stepsV L) false) (h18:st.σ 18 = .val (.int .i64 L.length)) (h19:st.σ 19 = .val (.int .i64 0)) (h1:st.σ 1 = .val (.complex .f64 a b))
  (hend:∀ st',(∃ r g xs,Stack st' (runT px py L []) r g xs)→VN (env P) 81 st' ks K):V (env P) 81 (.loop L81_0) st (.blk 0::ks) K:=by
 obtain ⟨q,rest,rfl⟩:∃ q rest,L=q::rest:=by cases L with
  | nil=>exact (hL0 rfl).elim
  | cons q rest=>exact ⟨q,rest,rfl⟩
 have hqo:=hok q (by simp)
 have hb2:=needsN_le q.op
 have hf0:=hf
 unfold foldR at hf
 split at hf
 ·simp at hf
 ·rename_i hno
  simp only [not_or,Bool.not_eq_false,Int.not_lt] at hno
  obtain ⟨hqr,hnn⟩:=hno
  obtain ⟨nx,ny,nz⟩:=right_near hqr
  have h0:needsN q.op=0:=by omega
  have hne:=needs_ans (P:=P) (op:=q.op) (re:=q.re) (im:=q.im) (sz:=q.sz)
  rw [stepV,h0] at hne
  have hw3:IntKind.i64.wrap (1:Int)=1:=wrap64_id (by omega)
  have hw0:IntKind.i64.wrap (0:Int)=0:=wrap64_id (by omega)
  have hlen:((0:Int) < (rest.length:Int)+1):=by omega
  have htr:=truth_is (P:=P) (op:=q.op) (t:=[]) (full:=false) hqo.1 hqo.2.1 hqo.2.2 ha hb nx ny n3 n4 nz (by simp [h0])
  rw [stepV,show boolsV []=[] from rfl] at htr
  have hst:stepT q px py []=[truthB q.op q.x q.y q.s px py []]:=by unfold stepT SI.truth; simp
  have hcell:∀ h,(stepsV (q::rest))[0]'h=q.cells:=fun h=>rfl
  rw [V_loop]
  simp [L81_0,h5,h17,h18,h19,h1,hlen,hcell,SI.cells,hne,hw0,hw3,htr,sliceP,appendP,elems,allLen,chunks,most]
  refine loop15 hok hL ha hb n3 n4 m rest 1 (stepT q px py []) _ rfl ?_ (by simp [hst]) ⟨st.h.n+1,1,[[.val (.bool (truthB q.op q.x q.y q.s px py []))]],?_⟩ ?_ ?_ ?_ ?_ hend
  ·rw [hst,← hf]; simp [h0]
  ·constructor
   ·simp [hst]
   ·simp
   ·rfl
   ·simp [hst]
   ·simp [hst,boolsV]
   ·simp
  ·simp [h17]
  ·simp [h18]
  ·simp
  ·simp [h1]
end Go.Evl.Zone

namespace Go.Evl.Zone
open Go Go.Evl Go.Evl.Fl
attribute [local simp] VB_ite VG_ite
variable {P:Program}
theorem runT_length (px py:Int):∀ (l:List SI) (t:List Bool) (m:Int),foldR l t.length=some m→((runT px py l t).length:Int)=m
 | [],t,m,h=>by simpa [foldR,runT] using h
 | q::l,t,m,h=>by
   unfold foldR at h
   split at h
   ·simp at h
   ·rename_i hno
    simp only [not_or,Bool.not_eq_false,Int.not_lt] at hno
    have hb:=needsN_le q.op
    have hl:((stepT q px py t).length:Int)=t.length+(1 - needsN q.op):=by unfold stepT; simp; omega
    rw [runT]
    exact runT_length px py l _ m (by rw [hl]; exact h)
def zoneHas (l:List SI) (px py:Int):Bool:=zoneRight l && (near px && near py) && (runT px py l []).getD 0 false
theorem zoneHas_ans {l:List SI} (hok:∀ q∈l,q.ok) {a b:Nat} {px py:Int} (ha:Is a px) (hb:Is b py):ans (env P) 81 [.im (stepsV l) false,.val (.complex .f64 a b)]=some (.val (.bool (zoneHas l px py))):=by
 refine ans_V rfl rfl ?_
 have hr:=zoneRight_ans (P:=P) hok
 have hw:=whole_is (P:=P) ha hb
 cases h1:zoneRight l with
 | false=>simp [c81,hr,h1,zoneHas]
 | true =>
   cases h2:(near px && near py) with
   | false=>simp [c81,hr,h1,hw,h2,zoneHas]
   | true =>
     simp only [zoneRight,Bool.and_eq_true,decide_eq_true_eq] at h1
     obtain ⟨hL,hf⟩:=h1
     have hL0:l≠[]:=fun q=>by subst q; simp [foldR] at hf
     have h1:zoneRight l=true:=by simp [zoneRight,hL,hf]
     simp only [Bool.and_eq_true] at h2
     simp [c81,hr,h1,hw,h2]
     refine loop15_first hok hL ha hb h2.1 h2.2 1 hL0 _ hf ?_ ?_ ?_ ?_ ?_ ?_
     ·simp
     ·simp
     ·simp
     ·simp
     ·simp
     ·rintro st' ⟨r,g,xs,hs⟩
      have hlen:=runT_length px py l [] 1 hf
      obtain ⟨b0,hb0⟩:∃ b0,runT px py l []=[b0]:=by
       match hh:runT px py l [] with
       | []=>rw [hh] at hlen; simp at hlen
       | [b0]=>exact ⟨b0,rfl⟩
       | _::_::_=>rw [hh] at hlen; simp at hlen; omega
      obtain ⟨hv,hbk,hg,hle,heq,hrlt⟩:=hs
      rw [hb0] at hv hle heq
      simp at hv hle
      have hx:xs[0]?=some [.val (.bool b0)]:=by
       match xs,heq with
       | x::xs,heq=>simp [boolsV] at heq; rw [heq]; rfl
      subst hg
      have hx0:∀ h,xs[0]'h=[.val (.bool b0)]:=fun h=>(List.getElem?_eq_some_iff.1 hx).2
      simp [hv,hbk,hrlt,loadR_row,hx,hle,zoneHas,h1,h2,hb0]
end Go.Evl.Zone

namespace Go.Evl.Zone
open Go Go.Evl Go.Evl.Fl
attribute [local simp] VB_ite VG_ite
variable {P:Program}
structure RS where
 op:Int
 x:Int
 y:Int
 s:Int
 deriving DecidableEq
def RS.cells (q:RS):List PV:=[.val (.int .i64 q.op),.val (.int .i64 q.x),.val (.int .i64 q.y),.val (.int .i64 q.s)]
def rsV (l:List RS):List (List PV):=l.map RS.cells
noncomputable def RS.si (q:RS):SI:=⟨q.op,q.x,q.y,q.s,FloatKind.f64.nearest q.x,FloatKind.f64.nearest q.y,FloatKind.f64.nearest q.s⟩
noncomputable def toSI (l:List RS):List SI:=l.map RS.si
@[simp] theorem rsV_length (l:List RS):(rsV l).length=l.length:=by simp [rsV]
@[simp] theorem rsV_len:∀ (l:List RS),allLen 4 (rsV l)=true
 | []=>rfl
 | q::l=>by simp only [rsV,List.map_cons,allLen,RS.cells]; rw [show (List.map RS.cells l)=rsV l from rfl,rsV_len l]; rfl
theorem rsV_at {l:List RS} {i:Nat} {q:RS} (h:l[i]?=some q) (h':i < (rsV l).length):(rsV l)[i]=q.cells:=by
 have:l[i]?=some q:=h
 simp only [rsV,List.getElem_map]
 rw [(List.getElem?_eq_some_iff.1 h).2]
theorem plainss_rs (l:List RS):plainss (rsV l)=some (rsV l):=plainss_ok (by intro y hy; simp [rsV] at hy; obtain ⟨q,_,rfl⟩:=hy; rfl)
theorem plainss_si (l:List SI):plainss (stepsV l)=some (stepsV l):=plainss_ok (by intro y hy; simp [stepsV] at hy; obtain ⟨q,_,rfl⟩:=hy; rfl)
theorem drop_cons {α:Type} {l:List α} {i:Nat} {q:α} {rest:List α} (h:l.drop i=q::rest):l[i]?=some q∧i < l.length∧l.drop (i+1)=rest∧l.take (i+1)=l.take i++[q]:=by
 have hq:l[i]?=some q:=by
  have:(l.drop i)[0]?=some q:=by rw [h]; rfl
  simpa using this
 have hlt:=(List.getElem?_eq_some_iff.1 hq).1
 refine ⟨hq,hlt,by rw [← List.drop_drop,h]; rfl,?_⟩
 rw [List.take_add_one,hq]; rfl
theorem drop_nil {α:Type} {l:List α} {i:Nat} (h:l.drop i=[]) (hi:i≤l.length):i=l.length∧¬ i < l.length∧l.take i=l:=by
 have:=congrArg List.length h
 simp at this
 have e:i=l.length:=by omega
 exact ⟨e,by omega,by rw [e]; exact List.take_length⟩
theorem wrapS {i:Nat} (h:i < 9223372036854775807):IntKind.i64.wrap ((i:Int)+1)=((i+1:Nat):Int):=by rw [wrap64_id (by omega)]; rfl
theorem loop13 (T:Typed P) {L:List RS} {ks:List Fr'} {K:Ex→St→Prop} (hL:L.length≤most):∀ (rest:List RS) (i:Nat) (st:St) (v:PV),L.drop i=rest→i≤L.length→st.σ 0 = .im (rsV L) false→st.σ 4 = .val (.int .i64 i)→st.σ 3=v→Lst st.h 3 v (stepsV (toSI (L.take i))) →
  (∀ st' v,st'.σ 3=v→Lst st'.h 3 v (stepsV (toSI L))→VN (env P) 26 st' ks K)→V (env P) 26 (.loop L26_0) st (.blk 0::ks) K
 | [],i,st,v,hr,hi,h0,h4,h3,hl,hend=>by
   obtain ⟨_,hlt,ht⟩:=drop_nil hr hi
   rw [ht] at hl
   rw [V_loop]
   simp [L26_0,h0,h4,hlt]
   exact hend _ v (by simp [h3]) (by simpa using hl.grow)
 | q::rest,i,st,v,hr,hi,h0,h4,h3,hl,hend=>by
   obtain ⟨hq,hlt,hr',ht⟩:=drop_cons hr
   have hc:=fun h=>rsV_at hq h
   have e6:∀ n:Int,scal P (Go.convert 3 176 (.int .i64 n))=some (.val (.float .f64 (FloatKind.f64.nearest n))):=fun n=>cv_if (by rw [T.t3]; rfl) T.t41
   have s2:∀ x y:Int,ans (env P) 65 [.agg [.val (.int .i64 x),.val (.int .i64 y)]]=some (.val (.complex .f64 (FloatKind.f64.nearest x) (FloatKind.f64.nearest y))):=fun x y=>spot_ans T
   have hw3:=wrapS (i:=i) (by unfold most at hL; omega)
   rw [V_loop]
   simp [L26_0,h0,h4,h3,hlt,hc,RS.cells,s2,e6,chunks,elems,allLen]
   obtain ⟨v',H',wr,rd,e1,e2,e3,_⟩:=(hl.grow (m:=1)).app (slot:=st.h.n) (zs:=[q.si.cells]) (by simp) (by simp) rfl (by simp [toSI]; omega)
   simp only [RS.si,SI.cells] at e1
   simp [e1,hw3,e3,h0,h4]
   refine loop13 T hL rest (i+1) _ v' hr' (by omega) ?_ ?_ ?_ ?_ hend
   ·simp [h0]
   ·simp
   ·simp
   ·rw [ht,show stepsV (toSI (L.take i++[q]))=stepsV (toSI (L.take i))++[q.si.cells] by simp [stepsV,toSI]]
    exact e2.grow
theorem to_ans (T:Typed P) {l:List RS} (hl:l.length≤most):ans (env P) 26 [.im (rsV l) false]=some (.im (stepsV (toSI l)) false):=by
 refine ans_V rfl rfl ?_
 simp [c26]
 refine loop13 T hl l 0 _ _ rfl (by omega) (by simp) (by simp) rfl ?_ ?_
 ·simp; exact Lst.nil
 ·intro st' v h3 hl'
  simp [h3]
  obtain ⟨is,hi⟩:=(hl'.grow (m:=0)).expV (plainss_si _)
  exact ⟨is,by simpa using hi⟩
end Go.Evl.Zone

namespace Go.Evl.Zone
open Go Go.Evl Go.Evl.Fl
attribute [local simp] VB_ite VG_ite
variable {P:Program}
theorem near_ans {x n:Int} (hn:-9223372036854775807≤n∧n≤9223372036854775807):ans (env P) 160 [.val (.int .i64 x),.val (.int .i64 n)]=some (.val (.bool (decide (-n≤x) && decide (x≤n)))):=by
 refine ans_V rfl rfl ?_
 have hw:IntKind.i64.wrap (-n) = -n:=wrap64_id (by omega)
 by_cases h:-n≤x <;> simp [c160,hw,h]
theorem refWhole_ans {x y:Int}:ans (env P) 99 [.agg [.val (.int .i64 x),.val (.int .i64 y)]]=some (.val (.bool (near x && near y))):=by
 refine ans_V rfl rfl ?_
 have h1:ans (env P) 160 [.val (.int .i64 x),.val (.int .i64 1000)]=some (.val (.bool (near x))):=near_ans (by omega)
 have h2:ans (env P) 160 [.val (.int .i64 y),.val (.int .i64 1000)]=some (.val (.bool (near y))):=near_ans (by omega)
 cases hx:near x <;> simp [c99,h1,h2,hx]
theorem place_ans (T:Typed P) (T33:P.underlying 67=some (.complex .f64)) {a b:Nat} {x y:Int} (ha:Is a x) (hb:Is b y) (hx:-9223372036854775808≤x∧x≤9223372036854775807) (hy:-9223372036854775808≤y∧y≤9223372036854775807) :
  ans (env P) 30 [.val (.complex .f64 a b)]=some (placeV x y):=by
 refine ans_V rfl rfl ?_
 have c1:scal P (Go.convert 176 3 (.float .f64 a))=some (.val (.int .i64 x)):=cv_fi (by rw [T.t41]; rfl) T.t3 ha.toInt hx
 have c2:scal P (Go.convert 176 3 (.float .f64 b))=some (.val (.int .i64 y)):=cv_fi (by rw [T.t41]; rfl) T.t3 hb.toInt hy
 simp [c30,c1,c2,placeV]
theorem loop21 (T:Typed P) (T33:P.underlying 67=some (.complex .f64)) {L:List SI} (hok:∀ q∈L,q.ok) (hin:∀ q∈L,∀ z∈[q.x,q.y,q.s],-9223372036854775808≤z∧z≤9223372036854775807) {ks:List Fr'} {K:Ex→St→Prop} (hL:L.length≤most) :
  ∀ (rest:List SI) (i:Nat) (st:St) (v:PV),L.drop i=rest→i≤L.length→st.σ 0 = .im (stepsV L) false→st.σ 4 = .val (.int .i64 i)→st.σ 3=v→Lst st.h 4 v (rsV ((L.take i).map fun q=>⟨q.op,q.x,q.y,q.s⟩)) →
  (∀ st' v,st'.σ 3=v→Lst st'.h 4 v (rsV (L.map fun q=>⟨q.op,q.x,q.y,q.s⟩))→VN (env P) 77 st' ks K)→V (env P) 77 (.loop L77_0) st (.blk 0::ks) K
 | [],i,st,v,hr,hi,h0,h4,h3,hl,hend=>by
   obtain ⟨_,hlt,ht⟩:=drop_nil hr hi
   rw [ht] at hl
   rw [V_loop]
   simp [L77_0,h0,h4,hlt]
   exact hend _ v (by simp [h3]) (by simpa using hl.grow)
 | q::rest,i,st,v,hr,hi,h0,h4,h3,hl,hend=>by
   obtain ⟨hq,hlt,hr',ht⟩:=drop_cons hr
   have hc:∀ h,(stepsV L)[i]'h=q.cells:=fun h=>(List.getElem?_eq_some_iff.1 (stepsV_get hq)).2
   obtain ⟨q1,q2,q3⟩:=hok q (List.mem_of_getElem? hq)
   have hz:=hin q (List.mem_of_getElem? hq)
   have c1:scal P (Go.convert 176 3 (.float .f64 q.sz))=some (.val (.int .i64 q.s)):=cv_fi (by rw [T.t41]; rfl) T.t3 q3.toInt (hz q.s (by simp))
   have s2:=place_ans (P:=P) T T33 q1 q2 (hz q.x (by simp)) (hz q.y (by simp))
   rw [placeV] at s2
   have hw3:=wrapS (i:=i) (by unfold most at hL; omega)
   rw [V_loop]
   simp [L77_0,h0,h4,h3,hlt,hc,SI.cells,s2,c1,chunks,elems,allLen]
   refine VP_app (ys:=rsV ((L.take i).map fun q=>⟨q.op,q.x,q.y,q.s⟩)) (by repeat (first | exact hl | refine Lst.grow ?_ | refine Lst.putN ?_ (by simp))) (by simp) (by simp) rfl (by simp; omega) fun v' H' wr rd e2 e3 _=>?_
   simp [h0,h4,hw3,e3]
   refine loop21 T T33 hok hin hL rest (i+1) _ v' hr' (by omega) ?_ ?_ ?_ ?_ hend
   ·simp [h0]
   ·simp
   ·simp
   ·rw [ht,show ∀ A B:List SI,rsV ((A++B).map fun q=>(⟨q.op,q.x,q.y,q.s⟩:RS))=rsV (A.map fun q=>⟨q.op,q.x,q.y,q.s⟩)++rsV (B.map fun q=>⟨q.op,q.x,q.y,q.s⟩) from fun A B=>by simp [rsV]]
    exact e2.grow
theorem from_ans (T:Typed P) (T33:P.underlying 67=some (.complex .f64)) {l:List SI} (hok:∀ q∈l,q.ok) (hin:∀ q∈l,∀ z∈[q.x,q.y,q.s],-9223372036854775808≤z∧z≤9223372036854775807) (hl:l.length≤most):ans (env P) 77 [.im (stepsV l) false]=some (.im (rsV (l.map fun q=>⟨q.op,q.x,q.y,q.s⟩)) false):=by
 refine ans_V rfl rfl ?_
 simp [c77]
 refine loop21 T T33 hok hin hl l 0 _ _ rfl (by omega) (by simp) (by simp) rfl ?_ ?_
 ·simp; exact Lst.nil
 ·intro st' v h3 hl'
  simp [h3]
  exact (hl'.grow (m:=0)).expV (plainss_rs _)
structure Typed2 (P:Program):Prop extends Typed P where
 t33:P.underlying 67=some (.complex .f64)
 t59 : ∃ fs : Array Field, P.underlying 127 = some (.struct fs) ∧ fs.toList.map (fun f => (f.type, f.offset)) = [(3, 0), (3, 1), (3, 2), (3, 3)] ∧ (fs.toList.all fun f => f.name != "_") = true
 h59:P.stoodInHeld 127=false
 g59:P.eqGuardType P.depth 127=false
theorem fields4 {fs : List Field} {a b c d : TypeId × Nat} (h : fs.map (fun f => (f.type, f.offset)) = [a, b, c, d]) (hn : (fs.all fun f => f.name != "_") = true) : ∃ f0 f1 f2 f3 : Field, fs = [f0, f1, f2, f3] ∧ ((f0.type, f0.offset) = a ∧ (f0.name == "_") = false) ∧ ((f1.type, f1.offset) = b ∧ (f1.name == "_") = false) ∧ ((f2.type, f2.offset) = c ∧ (f2.name == "_") = false) ∧ ((f3.type, f3.offset) = d ∧ (f3.name == "_") = false) := by
 match fs,h,hn with
 | [f0,f1,f2,f3],h,hn =>
   simp only [List.map_cons,List.map_nil,List.cons.injEq,and_true] at h
   simp only [List.all_cons,List.all_nil,Bool.and_true,Bool.and_eq_true,bne,Bool.not_eq_true'] at hn
   exact ⟨f0,f1,f2,f3,rfl,⟨h.1,hn.1⟩,⟨h.2.1,hn.2.1⟩,⟨h.2.2.1,hn.2.2.1⟩,⟨h.2.2.2,hn.2.2.2⟩⟩
theorem rs_neq (T:Typed2 P) {cx cy:Bool} (a b:RS):evBin P .neq 127 cx cy (.agg a.cells) (.agg b.cells)=some (.val (.bool (decide (a≠b)))):=by
 obtain ⟨fs,ht,hf,hn⟩:=T.t59
 obtain ⟨f0,f1,f2,f3,hfs,⟨e0,n0⟩,⟨e1,n1⟩,⟨e2,n2⟩,⟨e3,n3⟩⟩:=fields4 hf hn
 simp only [Prod.mk.injEq] at e0 e1 e2 e3
 have hT:=T.t3
 have h3:∀ {cs:Array Value} {o:Nat} {v:Value},cs[o]?=some v→pureRun P (part 3 cs o)=some v:=fun hx=>pureRun_part hT rfl hx
 have key:pureRun P (Op.eqFields 9999 #[.int .i64 a.op,.int .i64 a.x,.int .i64 a.y,.int .i64 a.s] #[.int .i64 b.op,.int .i64 b.x,.int .i64 b.y,.int .i64 b.s] fs.toList)=some ((a.op == b.op) && ((a.x == b.x) && ((a.y == b.y) && ((a.s == b.s) && true)))):=by
  rw [hfs]
  refine pureRun_eqCons n0 (by rw [e0.1,e0.2]; exact h3 rfl) (by rw [e0.1,e0.2]; exact h3 rfl) (by rw [e0.1]; exact pureRun_equal_int hT) ?_
  refine pureRun_eqCons n1 (by rw [e1.1,e1.2]; exact h3 rfl) (by rw [e1.1,e1.2]; exact h3 rfl) (by rw [e1.1]; exact pureRun_equal_int hT) ?_
  refine pureRun_eqCons n2 (by rw [e2.1,e2.2]; exact h3 rfl) (by rw [e2.1,e2.2]; exact h3 rfl) (by rw [e2.1]; exact pureRun_equal_int hT) ?_
  exact pureRun_eqCons n3 (by rw [e3.1,e3.2]; exact h3 rfl) (by rw [e3.1,e3.2]; exact h3 rfl) (by rw [e3.1]; exact pureRun_equal_int hT) pureRun_eqNil
 rw [(evBin_struct_eql (vs:=[.int .i64 a.op,.int .i64 a.x,.int .i64 a.y,.int .i64 a.s]) (us:=[.int .i64 b.op,.int .i64 b.x,.int .i64 b.y,.int .i64 b.s]) ht T.h59 T.g59 rfl rfl key).2]
 congr 3
 obtain ⟨a1,a2,a3,a4⟩:=a
 obtain ⟨b1,b2,b3,b4⟩:=b
 rw [Bool.eq_iff_iff]
 simp
theorem loop20 (T:Typed2 P) {L M:List RS} {ks:List Fr'} {K:Ex→St→Prop} (hlen:L.length=M.length) (hL:L.length≤most):∀ (rest:List RS) (i:Nat) (st:St),L.drop i=rest→i≤L.length→L.take i=M.take i→st.σ 0 = .im (rsV L) false→st.σ 1 = .im (rsV M) false→st.σ 5 = .val (.int .i64 i) →
  (∀ st',L≠M→st'.σ 4 = .val (.bool false)→K .ret st')→(∀ st',L=M→VN (env P) 73 st' ks K)→V (env P) 73 (.loop L73_0) st (.blk 0::ks) K
 | [],i,st,hr,hi,hp,h0,h1,h5,hret,hend=>by
   obtain ⟨he,hlt,ht⟩:=drop_nil hr hi
   rw [V_loop]
   simp [L73_0,h0,h5,hlt]
   refine hend _ ?_
   rw [ht,he,hlen,List.take_length] at hp
   exact hp
 | q::rest,i,st,hr,hi,hp,h0,h1,h5,hret,hend=>by
   obtain ⟨hq,hlt,hr',ht⟩:=drop_cons hr
   have hc:=fun h=>rsV_at hq h
   have hm:M[i]?=some (M[i]'(by omega)):=List.getElem?_eq_getElem (by omega)
   generalize M[i]'(by omega)=m at hm
   have hd:=fun h=>rsV_at hm h
   have hltM:i < M.length:=by omega
   have hn:=rs_neq T (cx:=false) (cy:=false) q m
   have hw3:=wrapS (i:=i) (by unfold most at hL; omega)
   rw [V_loop]
   by_cases hqm:q=m
   ·subst hqm
    simp [L73_0,h0,h1,h5,hlt,hltM,hc,hd,hn,hw3,RS.cells]
    simp [RS.cells] at hn
    simp [hn,hw3,h5]
    refine loop20 T hlen hL rest (i+1) _ hr' (by omega) ?_ ?_ ?_ ?_ hret hend
    ·rw [ht,List.take_add_one,hm,hp]; rfl
    ·simp [h0]
    ·simp [h1]
    ·simp
   ·simp [L73_0,h0,h1,h5,hlt,hltM,hc,hd,hn,hw3,hqm,RS.cells]
    simp [RS.cells,hqm] at hn
    simp [hn,hqm]
    refine hret _ ?_ (by simp)
    intro e
    rw [e] at hq
    rw [hq] at hm
    exact hqm (Option.some.inj hm)
theorem refSame_ans (T:Typed2 P) {l m:List RS} (hl:l.length≤most):ans (env P) 73 [.im (rsV l) false,.im (rsV m) false]=some (.val (.bool (decide (l=m)))):=by
 refine ans_V rfl rfl ?_
 by_cases hlen:l.length=m.length
 ·have hlen':(l.length:Int)=(m.length:Int):=by omega
  simp [c73,hlen']
  refine loop20 T hlen hl l 0 _ rfl (by omega) rfl (by simp) (by simp) (by simp) ?_ ?_
  ·intro st' hne h4; simp [h4,hne]
  ·intro st' he; simp [he]
 ·have hlen':¬ (l.length:Int)=(m.length:Int):=by omega
  have hne:l≠m:=fun e=>hlen (by rw [e])
  simp [c73,hlen',hne]
end Go.Evl.Zone

namespace Go.Evl.Zone
open Go Go.Evl Go.Evl.Fl
attribute [local simp] VB_ite VG_ite
variable {P:Program}
def u64 (n:Int):Int:=n % 18446744073709551616
def fixOp (q:RS) (n:Int):Int:=if (1+u64 q.op % 6=4∧n < 1)∨(4 < 1+u64 q.op % 6∧n < 2) then 2 else 1+u64 q.op % 6
def fixStep (q:RS) (n:Int):RS :=
 if fixOp q n=2 then ⟨2,spotN q.x,spotN q.y,u64 q.s % 2001⟩
 else if fixOp q n=3 then ⟨3,spotN q.x,spotN q.y,u64 q.s % 4000001 - 2000000⟩
 else ⟨fixOp q n,0,0,0⟩
def fixN (q:RS) (n:Int):Int:=if fixOp q n≤3 then n+1 else if 4 < fixOp q n then n - 1 else n
def fixL:List RS→Int→List RS × Int
 | [],n=>([],n)
 | q::l,n=>(fixStep q n::(fixL l (fixN q n)).1,(fixL l (fixN q n)).2)
def fix (l:List RS):List RS:=if (fixL (l.take 12) 0).2=0 then [⟨1,0,0,0⟩] else (fixL (l.take 12) 0).1++List.replicate ((fixL (l.take 12) 0).2 - 1).toNat ⟨6,0,0,0⟩
theorem fixOp_le (q:RS) (n:Int):1≤fixOp q n∧fixOp q n≤6:=by
 unfold fixOp u64
 split <;> omega
theorem fixN_le {q:RS} {n:Int} (hn:0≤n):0≤fixN q n∧fixN q n≤n+1:=by
 have h1:=fixOp_le q n
 unfold fixN
 split
 ·omega
 ·split
  ·rename_i h
   have:¬ n < 2:=fun q2=>by
    unfold fixOp at h
    split at h
    ·omega
    ·rename_i h3; exact h3 (.inr ⟨by omega,q2⟩)
   omega
  ·omega
theorem fixL_length:∀ (l:List RS) (n:Int),(fixL l n).1.length=l.length
 | [],n=>rfl
 | q::l,n=>by simp [fixL,fixL_length l]
theorem fixL_n:∀ (l:List RS) (n:Int),0≤n→0≤(fixL l n).2∧(fixL l n).2≤n+l.length
 | [],n,h=>by simp [fixL]; omega
 | q::l,n,h=>by
   have h1:=fixN_le (q:=q) h
   have h2:=fixL_n l (fixN q n) h1.1
   simp only [fixL,List.length_cons]
   omega
theorem take_cons {α:Type} {l:List α} {i:Nat} {q:α} {rest:List α} (h:l.drop i=q::rest) (hi:i < 12):(l.take 12).drop i=q::(l.take 12).drop (i+1):=by
 have hq:=(drop_cons h).1
 rw [List.drop_eq_getElem_cons (by simp; have:=(drop_cons h).2.1; omega)]
 congr 1
 rw [List.getElem_take]
 exact (List.getElem?_eq_some_iff.1 hq).2
set_option maxRecDepth 20000 in
set_option maxHeartbeats 4000000 in
theorem loop10 (T:Typed P) {L:List RS} {ks:List Fr'} {K:Ex→St→Prop}:∀ (m i:Nat) (n:Int) (st:St) (v:PV) (ys:List RS),i+m=12→0≤n∧n≤i→ys.length≤i→i≤L.length→st.σ 0 = .im (rsV L) false→st.σ 5 = .val (.int .i64 i)→st.σ 4 = .val (.int .i64 n)→st.σ 3=v→Lst st.h 4 v (rsV ys) →
  (∀ st' v n' zs,st'.σ 3=v→st'.σ 4 = .val (.int .i64 n')→(zs,n')=fixL ((L.take 12).drop i) n→Lst st'.h 4 v (rsV (ys++zs))→VN (env P) 27 st' ks K)→V (env P) 27 (.loop L27_0) st (.blk 0::ks) K:=by
 intro m
 induction m with
 | zero =>
   intro i n st v ys hm hn hys hi h0 h5 h4 h3 hl hend
   have hi12:i=12:=by omega
   subst hi12
   rw [V_loop]
   by_cases hlt:(12:Int) < (L.length:Int)
   ·simp [L27_0,h0,h5,hlt]
    refine hend _ v n [] (by simp [h3]) (by simp [h4]) ?_ (by simpa using hl.grow)
    rw [List.drop_eq_nil_of_le (by simp; omega)]; rfl
   ·simp [L27_0,h0,h5,hlt]
    refine hend _ v n [] (by simp [h3]) (by simp [h4]) ?_ (by simpa using hl.grow)
    rw [List.drop_eq_nil_of_le (by simp; omega)]; rfl
 | succ m ih =>
   intro i n st v ys hm hn hys hi h0 h5 h4 h3 hl hend
   have hi12:i < 12:=by omega
   have hi12':(i:Int) < 12:=by omega
   rw [V_loop]
   cases hr:L.drop i with
   | nil =>
     obtain ⟨_,hlt,_⟩:=drop_nil hr hi
     simp [L27_0,h0,h5,hlt]
     refine hend _ v n [] (by simp [h3]) (by simp [h4]) ?_ (by simpa using hl.grow)
     rw [List.drop_eq_nil_of_le (by simp; omega)]; rfl
   | cons q rest =>
     obtain ⟨hq,hlt,_,_⟩:=drop_cons hr
     have hT:=take_cons hr hi12
     have hc:=fun h=>rsV_at hq h
     have hw3:=wrapS (i:=i) (by omega)
     have s1:ans (env P) 96 [.agg [.val (.int .i64 q.x),.val (.int .i64 q.y)]]=some (.agg [.val (.int .i64 (spotN q.x)),.val (.int .i64 (spotN q.y))]):=refSpot_ans T
     have e3:∀ n:Int,scal P (Go.convert 3 34 (.int .i64 n))=some (.val (.int .u64 (u64 n))):=fun n=>by
      rw [cv_ii (k:=.u64) (by rw [T.t3]; rfl) T.t53,wrapU64]; rfl
     have e4:∀ n:Int,0≤n→n < 18446744→scal P (Go.convert 34 3 (.int .u64 n))=some (.val (.int .i64 n)):=fun n h1 h2=>by
      rw [cv_ii (k:=.i64) (by rw [T.t53]; rfl) T.t3,wrap64_id (by omega)]
     have u0:∀ n:Int,0≤u64 n:=fun n=>by unfold u64; omega
     have e5:∀ n k:Int,0≤k→(u64 n).tmod k=u64 n % k:=fun n k hk=>tmod_pos (u0 n) hk
     have m6:(u64 q.op).tmod 6=u64 q.op % 6:=e5 _ _ (by omega)
     have m2:(u64 q.s).tmod 2001=u64 q.s % 2001:=e5 _ _ (by omega)
     have m4:(u64 q.s).tmod 4000001=u64 q.s % 4000001:=e5 _ _ (by omega)
     have v6:=e4 (u64 q.op % 6) (by omega) (by omega)
     have v2:=e4 (u64 q.s % 2001) (by omega) (by omega)
     have v4:=e4 (u64 q.s % 4000001) (by omega) (by omega)
     have w6:IntKind.i64.wrap (1+u64 q.op % 6)=1+u64 q.op % 6:=wrap64_id (by omega)
     have w4:IntKind.i64.wrap (u64 q.s % 4000001 - 2000000)=u64 q.s % 4000001 - 2000000:=wrap64_id (by omega)
     have wn:IntKind.i64.wrap (n+1)=n+1:=wrap64_id (by omega)
     have wm:IntKind.i64.wrap (n - 1)=n - 1:=wrap64_id (by omega)
     have hnn:=fixN_le (q:=q) hn.1
     have hfin:∀ st' v',st'.σ 0 = .im (rsV L) false→st'.σ 5 = .val (.int .i64 (i+1:Nat))→st'.σ 4 = .val (.int .i64 (fixN q n))→st'.σ 3=v'→Lst st'.h 4 v' (rsV ys++[(fixStep q n).cells])→V (env P) 27 (.loop L27_0) st' (.blk 0::ks) K:=by
      intro st' v' k0 k5 k4 k3 kl
      refine ih (i+1) (fixN q n) st' v' (ys++[fixStep q n]) (by omega) ⟨hnn.1,by omega⟩ (by simp; omega) (by omega) k0 k5 k4 k3 (by rw [show rsV (ys++[fixStep q n])=rsV ys++[(fixStep q n).cells] by simp [rsV]]; exact kl) ?_
      intro st2 v2 n2 zs j3 j4 jf jl
      refine hend st2 v2 n2 (fixStep q n::zs) j3 j4 ?_ (by simpa using jl)
      rw [hT,fixL,← jf]
     clear ih hend hT
     obtain ⟨o,ho⟩:∃ o,o=1+u64 q.op % 6:=⟨_,rfl⟩
     have w6:=w6.trans ho.symm
     have hoc:o=1∨o=2∨o=3∨o=4∨o=5∨o=6:=by omega
     have hmost:ys.length+1≤most:=by unfold most; omega
     rcases hoc with h | h | h | h | h | h <;> subst h
     ·simp [L27_0,h0,h5,h4,h3,hlt,hi12',hc,RS.cells,s1,e3,m6,v6,w6,chunks,elems,allLen,wn,wm]
      refine VP_app (ys:=rsV ys) (by repeat (first | exact hl | refine Lst.grow ?_ | refine Lst.putN ?_ (by simp))) (by simp) (by simp) rfl (by simp; omega) fun v' H' wr rd k2 k3 _=>?_
      simp [h0,h5,hw3,k3,wn,wm]
      refine hfin _ v' ?_ ?_ ?_ ?_ ?_
      ·simp [h0]
      ·simp
      ·simp [fixN,fixOp,← ho,h4]
      ·simp
      ·refine (show [(fixStep q n).cells]=_ from ?_)▸k2.grow
       simp [fixStep,fixOp,← ho,RS.cells,]
     ·simp [L27_0,h0,h5,h4,h3,hlt,hi12',hc,RS.cells,s1,e3,m6,v6,w6,m2,v2,chunks,elems,allLen,wn,wm]
      refine VP_app (ys:=rsV ys) (by repeat (first | exact hl | refine Lst.grow ?_ | refine Lst.putN ?_ (by simp))) (by simp) (by simp) rfl (by simp; omega) fun v' H' wr rd k2 k3 _=>?_
      simp [h0,h5,hw3,k3,wn,wm]
      refine hfin _ v' ?_ ?_ ?_ ?_ ?_
      ·simp [h0]
      ·simp
      ·simp [fixN,fixOp,← ho,h4]
      ·simp
      ·refine (show [(fixStep q n).cells]=_ from ?_)▸k2.grow
       simp [fixStep,fixOp,← ho,RS.cells,]
     ·simp [L27_0,h0,h5,h4,h3,hlt,hi12',hc,RS.cells,s1,e3,m6,v6,w6,m4,v4,w4,chunks,elems,allLen,wn,wm]
      refine VP_app (ys:=rsV ys) (by repeat (first | exact hl | refine Lst.grow ?_ | refine Lst.putN ?_ (by simp))) (by simp) (by simp) rfl (by simp; omega) fun v' H' wr rd k2 k3 _=>?_
      simp [h0,h5,hw3,k3,wn,wm]
      refine hfin _ v' ?_ ?_ ?_ ?_ ?_
      ·simp [h0]
      ·simp
      ·simp [fixN,fixOp,← ho,h4]
      ·simp
      ·refine (show [(fixStep q n).cells]=_ from ?_)▸k2.grow
       simp [fixStep,fixOp,← ho,RS.cells,]
     ·by_cases hlow:n < 1
      ·simp [L27_0,h0,h5,h4,h3,hlt,hi12',hc,RS.cells,s1,e3,m6,v6,w6,hlow,m2,v2,chunks,elems,allLen,wn,wm]
       refine VP_app (ys:=rsV ys) (by repeat (first | exact hl | refine Lst.grow ?_ | refine Lst.putN ?_ (by simp))) (by simp) (by simp) rfl (by simp; omega) fun v' H' wr rd k2 k3 _=>?_
       simp [h0,h5,hw3,k3,wn,wm]
       refine hfin _ v' ?_ ?_ ?_ ?_ ?_
       ·simp [h0]
       ·simp
       ·simp [fixN,fixOp,← ho,hlow,h4]
       ·simp
       ·refine (show [(fixStep q n).cells]=_ from ?_)▸k2.grow
        simp [fixStep,fixOp,← ho,RS.cells,hlow,]
      ·simp [L27_0,h0,h5,h4,h3,hlt,hi12',hc,RS.cells,s1,e3,m6,v6,w6,hlow,chunks,elems,allLen,wn,wm]
       refine VP_app (ys:=rsV ys) (by repeat (first | exact hl | refine Lst.grow ?_ | refine Lst.putN ?_ (by simp))) (by simp) (by simp) rfl (by simp; omega) fun v' H' wr rd k2 k3 _=>?_
       simp [h0,h5,hw3,k3,wn,wm]
       refine hfin _ v' ?_ ?_ ?_ ?_ ?_
       ·simp [h0]
       ·simp
       ·simp [fixN,fixOp,← ho,hlow,h4]
       ·simp
       ·refine (show [(fixStep q n).cells]=_ from ?_)▸k2.grow
        simp [fixStep,fixOp,← ho,RS.cells,hlow,]
     ·by_cases hlow:n < 2
      ·simp [L27_0,h0,h5,h4,h3,hlt,hi12',hc,RS.cells,s1,e3,m6,v6,w6,hlow,m2,v2,chunks,elems,allLen,wn,wm]
       refine VP_app (ys:=rsV ys) (by repeat (first | exact hl | refine Lst.grow ?_ | refine Lst.putN ?_ (by simp))) (by simp) (by simp) rfl (by simp; omega) fun v' H' wr rd k2 k3 _=>?_
       simp [h0,h5,hw3,k3,wn,wm]
       refine hfin _ v' ?_ ?_ ?_ ?_ ?_
       ·simp [h0]
       ·simp
       ·simp [fixN,fixOp,← ho,hlow,h4]
       ·simp
       ·refine (show [(fixStep q n).cells]=_ from ?_)▸k2.grow
        simp [fixStep,fixOp,← ho,RS.cells,hlow,]
      ·simp [L27_0,h0,h5,h4,h3,hlt,hi12',hc,RS.cells,s1,e3,m6,v6,w6,hlow,chunks,elems,allLen,wn,wm]
       refine VP_app (ys:=rsV ys) (by repeat (first | exact hl | refine Lst.grow ?_ | refine Lst.putN ?_ (by simp))) (by simp) (by simp) rfl (by simp; omega) fun v' H' wr rd k2 k3 _=>?_
       simp [h0,h5,hw3,k3,wn,wm]
       refine hfin _ v' ?_ ?_ ?_ ?_ ?_
       ·simp [h0]
       ·simp
       ·simp [fixN,fixOp,← ho,hlow,h4]
       ·simp
       ·refine (show [(fixStep q n).cells]=_ from ?_)▸k2.grow
        simp [fixStep,fixOp,← ho,RS.cells,hlow,]
     ·by_cases hlow:n < 2
      ·simp [L27_0,h0,h5,h4,h3,hlt,hi12',hc,RS.cells,s1,e3,m6,v6,w6,hlow,m2,v2,chunks,elems,allLen,wn,wm]
       refine VP_app (ys:=rsV ys) (by repeat (first | exact hl | refine Lst.grow ?_ | refine Lst.putN ?_ (by simp))) (by simp) (by simp) rfl (by simp; omega) fun v' H' wr rd k2 k3 _=>?_
       simp [h0,h5,hw3,k3,wn,wm]
       refine hfin _ v' ?_ ?_ ?_ ?_ ?_
       ·simp [h0]
       ·simp
       ·simp [fixN,fixOp,← ho,hlow,h4]
       ·simp
       ·refine (show [(fixStep q n).cells]=_ from ?_)▸k2.grow
        simp [fixStep,fixOp,← ho,RS.cells,hlow,]
      ·simp [L27_0,h0,h5,h4,h3,hlt,hi12',hc,RS.cells,s1,e3,m6,v6,w6,hlow,chunks,elems,allLen,wn,wm]
       refine VP_app (ys:=rsV ys) (by repeat (first | exact hl | refine Lst.grow ?_ | refine Lst.putN ?_ (by simp))) (by simp) (by simp) rfl (by simp; omega) fun v' H' wr rd k2 k3 _=>?_
       simp [h0,h5,hw3,k3,wn,wm]
       refine hfin _ v' ?_ ?_ ?_ ?_ ?_
       ·simp [h0]
       ·simp
       ·simp [fixN,fixOp,← ho,hlow,h4]
       ·simp
       ·refine (show [(fixStep q n).cells]=_ from ?_)▸k2.grow
        simp [fixStep,fixOp,← ho,RS.cells,hlow,]
end Go.Evl.Zone

namespace Go.Evl.Zone
open Go Go.Evl Go.Evl.Fl
attribute [local simp] VB_ite VG_ite
variable {P:Program}
theorem loop10b {ks:List Fr'} {K:Ex→St→Prop}:∀ (k:Nat) (n:Int) (st:St) (v:PV) (ys:List RS),n=k+1→n≤100→ys.length+k≤1000→st.σ 4 = .val (.int .i64 n)→st.σ 3=v→Lst st.h 4 v (rsV ys) →
  (∀ st' v,st'.σ 3=v→Lst st'.h 4 v (rsV (ys++List.replicate k ⟨6,0,0,0⟩))→VN (env P) 27 st' ks K)→V (env P) 27 (.loop L27_1) st (.blk 2::ks) K
 | 0,n,st,v,ys,hn,hb,hy,h4,h3,hl,hend=>by
   have hn1:n=1:=by omega
   subst hn1
   rw [V_loop]
   simp [L27_1,h4]
   exact hend _ v (by simp [h3]) (by simpa using hl.grow)
 | k+1,n,st,v,ys,hn,hb,hy,h4,h3,hl,hend=>by
   have h1:1 < n:=by omega
   have hw:IntKind.i64.wrap (n - 1)=n - 1:=wrap64_id (by omega)
   have hmost:ys.length+1≤most:=by unfold most; omega
   rw [V_loop]
   simp [L27_1,h4,h3,h1,chunks,elems,allLen]
   refine VP_app (ys:=rsV ys) (by repeat (first | exact hl | refine Lst.grow ?_ | refine Lst.putN ?_ (by simp))) (by simp) (by simp) rfl (by simp; omega) fun v' H' wr rd k2 k3 _=>?_
   simp [h4,hw,k3]
   refine loop10b k (n - 1) _ v' (ys++[⟨6,0,0,0⟩]) (by omega) (by omega) (by simp; omega) ?_ ?_ ?_ ?_
   ·simp
   ·simp
   ·simpa [rsV,RS.cells] using k2.grow
   ·intro st' v2 j3 jl
    refine hend st' v2 j3 ?_
    rw [List.replicate_succ]
    simpa using jl
theorem fix_ans (T:Typed P) {l:List RS}:ans (env P) 27 [.im (rsV l) false]=some (.im (rsV (fix l)) false):=by
 refine ans_V rfl rfl ?_
 simp [c27]
 refine loop10 T (L:=l) 12 0 0 _ _ [] rfl (by omega) (by simp) (by omega) (by simp) (by simp) (by simp) rfl ?_ ?_
 ·simp; exact Lst.nil
 ·intro st' v n' zs h3 h4 hf hl'
  simp only [List.drop_zero] at hf
  have hlen:=fixL_length (l.take 12) 0
  have hn:=fixL_n (l.take 12) 0 (by omega)
  rw [← hf] at hlen hn
  simp only [List.length_take] at hlen hn
  have hf1:(fixL (l.take 12) 0).1=zs:=by rw [← hf]
  have hf2:(fixL (l.take 12) 0).2=n':=by rw [← hf]
  by_cases h0:n'=0
  ·simp [h4,h0,chunks,allLen]
   unfold fix
   rw [if_pos (by rw [hf2]; exact h0)]
   rfl
  ·simp [h4,h0,h3]
   refine loop10b (n' - 1).toNat n' _ v zs (by omega) (by omega) (by omega) (by simp [h4]) (by simp [h3]) ?_ ?_
   ·simpa using hl'.grow
   ·intro st2 v2 j3 jl
    simp [j3]
    unfold fix
    rw [if_neg (by rw [hf2]; exact h0),hf1,hf2]
    exact (jl.grow (m:=0)).expV (plainss_rs _)
def RS.inB (q:RS):Prop:=near q.x=true∧near q.y=true∧-2000000≤q.s∧q.s≤2000000
theorem fixStep_right (q:RS) (n:Int):(fixStep q n).si.right=true∧(fixStep q n).inB∧(fixStep q n).op=fixOp q n:=by
 have h:=fixOp_le q n
 have h1:=spotN_near q.x
 have h2:=spotN_near q.y
 have e1:u64 q.s % 2001≤2000∧0≤u64 q.s % 2001:=by unfold u64; omega
 have e2:-2000000≤u64 q.s % 4000001 - 2000000∧u64 q.s % 4000001 - 2000000≤2000000:=by unfold u64; omega
 unfold fixStep
 by_cases c2:fixOp q n=2
 ·simp [c2,RS.si,SI.right,rightB,RS.inB,h1,h2]; omega
 ·by_cases ccenotaph_cenotaphlaw05_ZoneHas_:fixOp q n=3
  ·simp [ccenotaph_cenotaphlaw05_ZoneHas_,RS.si,SI.right,rightB,RS.inB,h1,h2]; omega
  ·have:fixOp q n=1∨fixOp q n=4∨fixOp q n=5∨fixOp q n=6:=by omega
   simp [c2,ccenotaph_cenotaphlaw05_ZoneHas_,RS.si,SI.right,rightB,RS.inB,this]
   decide
theorem fixL_fold:∀ (l:List RS) (n:Int),0≤n→foldR (toSI (fixL l n).1) n=some (fixL l n).2∧(∀ q∈(fixL l n).1,q.inB)
 | [],n,_=>⟨rfl,by simp [fixL]⟩
 | q::l,n,hn=>by
   obtain ⟨hr,hi,ho⟩:=fixStep_right q n
   have hN:=fixN_le (q:=q) hn
   obtain ⟨i1,i2⟩:=fixL_fold l (fixN q n) hN.1
   have hle:=fixOp_le q n
   have hneed:n+(1 - needsN (fixStep q n).op)=fixN q n∧¬ n < needsN (fixStep q n).op:=by
    rw [ho]
    have key:(fixOp q n=4→¬ n < 1)∧(4 < fixOp q n→¬ n < 2):=by
     unfold fixOp
     split
     ·omega
     ·rename_i hno
      exact ⟨fun h q=>hno (.inl ⟨h,q⟩),fun h q=>hno (.inr ⟨h,q⟩)⟩
    unfold needsN fixN
    split
    ·rename_i h; rw [h]; have:=key.1 h; simp; omega
    ·split
     ·rename_i h; have:=key.2 (by omega); rw [if_neg (by omega),if_pos (by omega)]; omega
     ·rw [if_pos (by omega)]; omega
   refine ⟨?_,?_⟩
   ·rw [fixL]
    simp only [toSI,List.map_cons,foldR]
    rw [if_neg (by rw [hr]; simp only [RS.si,Bool.true_eq_false,false_or]; exact hneed.2)]
    show foldR (toSI (fixL l (fixN q n)).1) (n+(1 - needsN (fixStep q n).op))=_
    rw [hneed.1,i1]
   ·intro x hx
    rw [fixL] at hx
    rcases List.mem_cons.1 hx with rfl | hx
    ·exact hi
    ·exact i2 x hx
theorem foldR_append:∀ (l m:List SI) (n:Int),foldR (l++m) n=(foldR l n).bind (foldR m)
 | [],m,n=>rfl
 | q::l,m,n=>by
   rw [List.cons_append,foldR,foldR]
   split
   ·rfl
   ·exact foldR_append l m _
theorem foldR_ors:∀ (k:Nat),foldR (toSI (List.replicate k ⟨6,0,0,0⟩)) (k+1)=some 1
 | 0=>rfl
 | k+1=>by
   have h:=foldR_ors k
   rw [List.replicate_succ]
   simp only [toSI,List.map_cons,foldR]
   rw [if_neg]
   ·rw [show ((k+1:Nat):Int)+1+(1 - needsN (RS.si ⟨6,0,0,0⟩).op)=(k:Int)+1 by show _+(1 - 2)=_; omega]
    exact h
   ·have:(RS.si ⟨6,0,0,0⟩).right=true:=by decide
    rw [this]
    show ¬ (true=false∨((k+1:Nat):Int)+1 < 2)
    simp; omega
theorem fix_right (l:List RS):zoneRight (toSI (fix l))=true∧(∀ q∈fix l,q.inB)∧(fix l).length≤23:=by
 obtain ⟨f1,f2⟩:=fixL_fold (l.take 12) 0 (by omega)
 have hn:=fixL_n (l.take 12) 0 (by omega)
 have hlen:=fixL_length (l.take 12) 0
 simp only [List.length_take] at hn hlen
 unfold fix
 split
 ·exact ⟨by decide,by intro q hq; simp at hq; subst hq; exact ⟨by decide,by decide,by decide,by decide⟩,by simp⟩
 ·rename_i h0
  refine ⟨?_,?_,?_⟩
  ·unfold zoneRight
   rw [Bool.and_eq_true,decide_eq_true_eq,decide_eq_true_eq]
   refine ⟨by simp [toSI]; omega,?_⟩
   rw [toSI,List.map_append,foldR_append]
   rw [show List.map RS.si (fixL (l.take 12) 0).1=toSI (fixL (l.take 12) 0).1 from rfl,f1]
   have:=foldR_ors ((fixL (l.take 12) 0).2 - 1).toNat
   rw [show ((((fixL (l.take 12) 0).2 - 1).toNat:Nat):Int)+1=(fixL (l.take 12) 0).2 by omega] at this
   exact this
  ·intro q hq
   rcases List.mem_append.1 hq with h | h
   ·exact f2 q h
   ·rw [List.mem_replicate] at h
    rw [h.2]
    exact ⟨by decide,by decide,by decide,by decide⟩
  ·simp; omega
end Go.Evl.Zone

namespace Go.Evl.Zone
open Go Go.Evl Go.Evl.Fl
variable {P:Program}
set_option maxRecDepth 20000 in
set_option maxHeartbeats 4000000 in
theorem loop27 {L:List RS} {ks:List Fr'} {K:Ex→St→Prop} (hL:L.length≤32):∀ (rest:List RS) (i:Nat) (n:Int) (st:St),L.drop i=rest→i≤L.length→0≤n∧n≤i→st.σ 0 = .im (rsV L) false→st.σ 4 = .val (.int .i64 i)→st.σ 3 = .val (.int .i64 n) →
  (∀ st',foldR (toSI rest) n=none→st'.σ 2 = .val (.bool false)→K .ret st')→(∀ st' m,foldR (toSI rest) n=some m→st'.σ 3 = .val (.int .i64 m)→VN (env P) 98 st' ks K)→V (env P) 98 (.loop L98_0) st (.blk 0::ks) K
 | [],i,n,st,hr,hi,hn,h0,h4,h3,hret,hend=>by
   obtain ⟨_,hlt,_⟩:=drop_nil hr hi
   rw [V_loop]
   simp [L98_0,h0,h4,hlt]
   exact hend _ n rfl (by simp [h3])
 | q::rest,i,n,st,hr,hi,hn,h0,h4,h3,hret,hend=>by
   obtain ⟨hq,hlt,hr',ht⟩:=drop_cons hr
   have hc:=fun h=>rsV_at hq h
   have hw3:=wrapS (i:=i) (by omega)
   have hwh:=refWhole_ans (P:=P) (x:=q.x) (y:=q.y)
   have hns:ans (env P) 160 [.val (.int .i64 q.s),.val (.int .i64 2000000)]=some (.val (.bool (decide (-2000000≤q.s) && decide (q.s≤2000000)))):=near_ans (by omega)
   have wn:IntKind.i64.wrap (n+1)=n+1:=wrap64_id (by omega)
   have wm:IntKind.i64.wrap (n - 1)=n - 1:=wrap64_id (by omega)
   have hfold:foldR (toSI (q::rest)) n=if q.si.right=false∨n < needsN q.op then none else foldR (toSI rest) (n+(1 - needsN q.op)):=rfl
   have hgo:∀ st',q.si.right=true→¬ n < needsN q.op→st'.σ 0 = .im (rsV L) false→st'.σ 4 = .val (.int .i64 (i+1:Nat))→st'.σ 3 = .val (.int .i64 (n+(1 - needsN q.op)))→V (env P) 98 (.loop L98_0) st' (.blk 0::ks) K:=by
    intro st' c1 c2 k0 k4 k3
    have hb:=needsN_le q.op
    rw [hfold,if_neg (by simp [c1,c2])] at hret hend
    exact loop27 hL rest (i+1) _ st' hr' (by omega) (by omega) k0 k4 k3 hret hend
   have hno:∀ st',(q.si.right=false∨n < needsN q.op)→st'.σ 2 = .val (.bool false)→K .ret st':=by
    intro st' c k
    exact hret st' (by rw [hfold,if_pos c]) k
   clear hret hend hfold
   rw [V_loop]
   by_cases c2:q.op=2
   ·cases hw:(near q.x && near q.y) with
    | false =>
      simp [L98_0,h0,h4,h3,hlt,hc,RS.cells,c2,hwh,hw]
      exact hno _ (.inl (by simp only [SI.right,RS.si,rightB,c2,if_true,hw,Bool.false_and])) (by simp)
    | true =>
      have hri:q.si.right=(decide (0≤q.s) && decide (q.s≤2000)):=by simp only [SI.right,RS.si,rightB,c2,if_true,hw,Bool.true_and]
      by_cases s1:q.s < 0
      ·simp [L98_0,h0,h4,h3,hlt,hc,RS.cells,c2,hwh,hw,s1]
       exact hno _ (.inl (by rw [hri]; simp; omega)) (by simp)
      ·by_cases s2:2000 < q.s
       ·simp [L98_0,h0,h4,h3,hlt,hc,RS.cells,c2,hwh,hw,s1,s2]
        exact hno _ (.inl (by rw [hri]; simp; omega)) (by simp)
       ·simp [L98_0,h0,h4,h3,hlt,hc,RS.cells,c2,hwh,hw,s1,s2,wn,hw3]
        refine hgo _ (by rw [hri]; simp; omega) (by simp [needsN,c2]; omega) ?_ ?_ ?_
        ·simp [h0]
        ·simp
        ·simp [needsN,c2]
   ·by_cases ccenotaph_cenotaphlaw05_ZoneHas_:q.op=3
    ·cases hw:(near q.x && near q.y) with
     | false =>
       simp [L98_0,h0,h4,h3,hlt,hc,RS.cells,ccenotaph_cenotaphlaw05_ZoneHas_,hwh,hw]
       exact hno _ (.inl (by simp [SI.right,RS.si,rightB,ccenotaph_cenotaphlaw05_ZoneHas_]; intro h1 h2; simp [h1,h2] at hw)) (by simp)
     | true =>
       have hri:q.si.right=(decide (-2000000≤q.s) && decide (q.s≤2000000)):=by
        simp only [Bool.and_eq_true] at hw
        simp [SI.right,RS.si,rightB,ccenotaph_cenotaphlaw05_ZoneHas_,hw]
       cases hs:(decide (-2000000≤q.s) && decide (q.s≤2000000)) with
       | false =>
         rw [hs] at hns hri
         simp [L98_0,h0,h4,h3,hlt,hc,RS.cells,ccenotaph_cenotaphlaw05_ZoneHas_,hwh,hw,hns]
         exact hno _ (.inl hri) (by simp)
       | true =>
         rw [hs] at hns hri
         simp [L98_0,h0,h4,h3,hlt,hc,RS.cells,ccenotaph_cenotaphlaw05_ZoneHas_,hwh,hw,hns,wn,hw3]
         refine hgo _ hri (by simp [needsN,ccenotaph_cenotaphlaw05_ZoneHas_]; omega) ?_ ?_ ?_
         ·simp [h0]
         ·simp
         ·simp [needsN,ccenotaph_cenotaphlaw05_ZoneHas_]
    ·by_cases c:q.op=1∨q.op=4∨q.op=5∨q.op=6
     ·by_cases hz:q.x=0∧q.y=0∧q.s=0
      ·obtain ⟨z1,z2,z3⟩:=hz
       have hri:q.si.right=true:=by
        rw [show q.si.right=rightB q.op q.x q.y q.s from rfl]
        unfold rightB
        rw [if_neg c2,if_neg ccenotaph_cenotaphlaw05_ZoneHas_,if_pos c,z1,z2,z3]; rfl
       rcases c with c | c | c | c
       ·simp [L98_0,h0,h4,h3,hlt,hc,RS.cells,c,z1,z2,z3,wn,hw3]
        refine hgo _ hri (by simp [needsN,c]; omega) ?_ ?_ ?_
        ·simp [h0]
        ·simp
        ·simp [needsN,c]
       ·by_cases hlow:n < 1
        ·simp [L98_0,h0,h4,h3,hlt,hc,RS.cells,c,z1,z2,z3,wn,hw3,hlow]
         exact hno _ (.inr (by simp [needsN,c]; omega)) (by simp)
        ·simp [L98_0,h0,h4,h3,hlt,hc,RS.cells,c,z1,z2,z3,wn,hw3,hlow]
         refine hgo _ hri (by simp [needsN,c]; omega) ?_ ?_ ?_
         ·simp [h0]
         ·simp
         ·simp [needsN,c,h3]
       ·by_cases hlow:n < 2
        ·simp [L98_0,h0,h4,h3,hlt,hc,RS.cells,c,z1,z2,z3,wn,wm,hw3,hlow]
         exact hno _ (.inr (by simp [needsN,c]; omega)) (by simp)
        ·simp [L98_0,h0,h4,h3,hlt,hc,RS.cells,c,z1,z2,z3,wn,wm,hw3,hlow]
         refine hgo _ hri (by simp [needsN,c]; omega) ?_ ?_ ?_
         ·simp [h0]
         ·simp
         ·simp [needsN,c]; omega
       ·by_cases hlow:n < 2
        ·simp [L98_0,h0,h4,h3,hlt,hc,RS.cells,c,z1,z2,z3,wn,wm,hw3,hlow]
         exact hno _ (.inr (by simp [needsN,c]; omega)) (by simp)
        ·simp [L98_0,h0,h4,h3,hlt,hc,RS.cells,c,z1,z2,z3,wn,wm,hw3,hlow]
         refine hgo _ hri (by simp [needsN,c]; omega) ?_ ?_ ?_
         ·simp [h0]
         ·simp
         ·simp [needsN,c]; omega
      ·have hri:q.si.right=false:=by
        rw [show q.si.right=rightB q.op q.x q.y q.s from rfl]
        unfold rightB
        rw [if_neg c2,if_neg ccenotaph_cenotaphlaw05_ZoneHas_,if_pos c]
        simp only [Bool.and_eq_false_iff,decide_eq_false_iff_not]
        omega
       have hz':q.x≠0∨q.y≠0∨q.s≠0:=by omega
       by_cases z1:q.x=0
       ·by_cases z2:q.y=0
        ·have z3:¬ q.s=0:=by omega
         rcases c with c | c | c | c <;>
          (simp [L98_0,h0,h4,h3,hlt,hc,RS.cells,c,z1,z2,z3]
           exact hno _ (.inl hri) (by simp))
        ·rcases c with c | c | c | c <;>
          (simp [L98_0,h0,h4,h3,hlt,hc,RS.cells,c,z1,z2]
           exact hno _ (.inl hri) (by simp))
       ·rcases c with c | c | c | c <;>
         (simp [L98_0,h0,h4,h3,hlt,hc,RS.cells,c,z1]
          exact hno _ (.inl hri) (by simp))
     ·have hri:q.si.right=false:=by
       rw [show q.si.right=rightB q.op q.x q.y q.s from rfl]
       unfold rightB
       rw [if_neg c2,if_neg ccenotaph_cenotaphlaw05_ZoneHas_,if_neg c]
      simp only [not_or] at c
      simp [L98_0,h0,h4,h3,hlt,hc,RS.cells,c2,ccenotaph_cenotaphlaw05_ZoneHas_,c]
      exact hno _ (.inl hri) (by simp)
theorem refRight_ans {l:List RS}:ans (env P) 98 [.im (rsV l) false]=some (.val (.bool (zoneRight (toSI l)))):=by
 refine ans_V rfl rfl ?_
 by_cases h1:l.length < 1
 ·have hl:l=[]:=List.length_eq_zero_iff.1 (by omega)
  subst hl
  simp [c98]
  decide
 ·have h1':¬ (l.length:Int) < 1:=by omega
  by_cases h32:32 < l.length
  ·have h2:(32:Int) < (l.length:Int):=by omega
   have hz:zoneRight (toSI l)=false:=by simp [zoneRight,toSI]; intro h; omega
   simp [c98,h1',h2,hz]
  ·have h2:¬ (32:Int) < (l.length:Int):=by omega
   simp [c98,h1',h2]
   refine loop27 (by omega) l 0 0 _ rfl (by omega) (by omega) (by simp) (by simp) (by simp) ?_ ?_
   ·intro st' hf hs
    simp [hs,zoneRight,hf]
   ·intro st' m hf hs
    simp [hs,zoneRight,hf]
    simp [toSI]; omega
end Go.Evl.Zone

namespace Go.Evl.Zone
open Go Go.Evl Go.Evl.Fl
variable {P:Program}
def Tr (H:Heap) (v:PV) (t:List Bool):Prop:=(v = .im [] true∧t=[])∨∃ r xs,Rw H 1 v (boolsV t) r xs
theorem Tr.lst {H:Heap} {v:PV} {t:List Bool} (h:Tr H v t):Lst H 1 v (boolsV t):=by
 rcases h with ⟨rfl,rfl⟩ | ⟨r,xs,h⟩
 ·exact Lst.nil
 ·exact h.lst
theorem Tr.len {H:Heap} {v:PV} {t:List Bool} (h:Tr H v t):lenP false v=some t.length:=by
 rw [h.lst.len,boolsV_length]
theorem bools_get {xs:List (List PV)} {t:List Bool} (he:xs.take (boolsV t).length=boolsV t) {i:Nat} {b:Bool} (hb:t[i]?=some b):xs[i]?=some [.val (.bool b)]:=by
 have hi:i < t.length:=(List.getElem?_eq_some_iff.1 hb).1
 have:(xs.take (boolsV t).length)[i]?=some [.val (.bool b)]:=by rw [he]; simp [boolsV,hb]
 rw [List.getElem?_take,boolsV_length,if_pos hi] at this
 exact this
theorem stepT_eq (q:RS) (px py:Int) (t u:List Bool) (k:Nat) (hk:(k:Int)=needsN q.op) (hu:u.length=k) (t0:List Bool) (ht:t=t0++u):stepT q.si px py t=t0++[truthB q.op q.x q.y q.s px py u]:=by
 subst ht
 unfold stepT SI.truth
 have h1:(needsN q.si.op).toNat=k:=by show (needsN q.op).toNat=k; omega
 rw [h1,List.length_append,hu,Nat.add_sub_cancel]
 simp
 rfl
set_option maxRecDepth 20000 in
set_option maxHeartbeats 4000000 in
theorem loop17 {L:List RS} (hin:∀ q∈L,q.si.right=true) {ks:List Fr'} {K:Ex→St→Prop} (hL:L.length≤32) {px py:Int} (n3:near px=true) (n4:near py=true) (m:Int) (rp:Nat) :
  ∀ (rest:List RS) (i:Nat) (t:List Bool) (st:St) (v:PV),L.drop i=rest→i≤L.length→foldR (toSI rest) t.length=some m→t.length≤i→st.σ 0 = .im (rsV L) false→st.σ 6 = .val (.int .i64 i)→st.σ 3 = .ptr rp 0→st.h.at_ rp = .box [.val (.int .i64 px),.val (.int .i64 py)]→rp < st.h.n→st.σ 5=v→Tr st.h v t →
  (∀ st' v,st'.σ 5=v→Tr st'.h v (runT px py (toSI rest) t)→VN (env P) 29 st' ks K)→V (env P) 29 (.loop L29_0) st (.blk 0::ks) K
 | [],i,t,st,v,hr,hi,hf,hti,h0,h6,h3,hb,hbn,h5,htr,hend=>by
   obtain ⟨_,hlt,_⟩:=drop_nil hr hi
   rw [V_loop]
   simp [L29_0,h0,h6,hlt]
   refine hend _ v (by simp [h5]) ?_
   rcases htr with ⟨h,h'⟩ | ⟨r,xs,h⟩
   ·exact .inl ⟨h,h'⟩
   ·exact .inr ⟨r,xs,h.grow⟩
 | q::rest,i,t,st,v,hr,hi,hf,hti,h0,h6,h3,hb,hbn,h5,htr,hend=>by
   obtain ⟨hq,hlt,hr',ht⟩:=drop_cons hr
   have hc:=fun h=>rsV_at hq h
   have hw3:=wrapS (i:=i) (by omega)
   have hri:=hin q (List.mem_of_getElem? hq)
   have hnear:near q.x=true∧near q.y=true∧(q.op=2→0≤q.s∧q.s≤2000):=right_near hri
   have hopr:q.op=1∨q.op=2∨q.op=3∨q.op=4∨q.op=5∨q.op=6:=by
    have:rightB q.op q.x q.y q.s=true:=hri
    unfold rightB at this
    by_cases a:q.op=2
    ·exact .inr (.inl a)
    ·by_cases b:q.op=3
     ·exact .inr (.inr (.inl b))
     ·rw [if_neg a,if_neg b] at this
      split at this
      ·omega
      ·cases this
   obtain ⟨nx,ny,nz⟩:=hnear
   simp only [near,Bool.and_eq_true,decide_eq_true_eq] at nx ny n3 n4
   have hfold:foldR (toSI (q::rest)) t.length=if q.si.right=false∨(t.length:Int) < needsN q.op then none else foldR (toSI rest) (t.length+(1 - needsN q.op)):=rfl
   rw [hfold] at hf
   split at hf
   ·cases hf
   ·rename_i hno
    simp only [not_or,Int.not_lt] at hno
    have hnn:=hno.2
    have hb2:=needsN_le q.op
    have hgo:∀ st' v',st'.σ 0 = .im (rsV L) false→st'.σ 6 = .val (.int .i64 (i+1:Nat))→st'.σ 3 = .ptr rp 0→st'.h.at_ rp = .box [.val (.int .i64 px),.val (.int .i64 py)]→rp < st'.h.n→st'.σ 5=v'→Tr st'.h v' (stepT q.si px py t)→V (env P) 29 (.loop L29_0) st' (.blk 0::ks) K:=by
     intro st' v' k0 k6 k3 kb kn k5 ktr
     have hlenT:((stepT q.si px py t).length:Int)=t.length+(1 - needsN q.op):=by
      unfold stepT; show ((t.take (t.length - (needsN q.op).toNat)++[_]).length:Int)=_; simp; omega
     exact loop17 hin hL (by simp [near,n3]) (by simp [near,n4]) m rp rest (i+1) _ st' v' hr' (by omega) (by rw [hlenT]; exact hf) (by omega) k0 k6 k3 kb kn k5 ktr hend
    clear hend hfold hf
    have hlen:=htr.len
    have hrn:rp≠st.h.n:=by omega
    have hrn':¬ st.h.n=rp:=by omega
    have hbn1:rp < st.h.n+1:=by omega
    rw [V_loop]
    rcases hopr with c | c | c | c | c | c
    ·simp [L29_0,h0,h6,h3,h5,hb,hbn,hbn1,hrn,hlt,hc,RS.cells,c,hlen,chunks,elems,allLen,]
     refine VP_appR (ys:=boolsV t) (zs:=[[.val (.bool (true))]]) (by repeat (first | exact htr.lst | refine Lst.grow ?_ | refine Lst.putN ?_ (by simp))) (by simp) (by simp) rfl (by simp) (by simp [boolsV]; unfold most; omega) fun v' H' wr rd r' xs' k2 k3 k4=>?_
     simp [h0,h6,hw3,k3]
     refine hgo _ v' ?_ ?_ ?_ ?_ ?_ ?_ ?_
     ·simp [h0]
     ·simp
     ·simp [h3]
     ·have kb:=k4 rp [.val (.int .i64 px),.val (.int .i64 py)] (by simp [hb,hrn,hrn',hbn,hbn1])
      simp [kb,k3]; omega
     ·simp [k3]; omega
     ·simp
     ·exact .inr ⟨r',xs',(by have:=k2.grow (m:=0); rw [stepT_eq q px py t [] 0 (by simp [needsN,c]) rfl t (by simp)]; simpa [boolsV,truthB,c] using this)⟩
    ·obtain ⟨nz1,nz2⟩:=nz c
     have m3:=mul_le (a:=px - q.x) (b:=px - q.x) (by unfold sm; omega) (by unfold sm; omega)
     have m4:=mul_le (a:=py - q.y) (b:=py - q.y) (by unfold sm; omega) (by unfold sm; omega)
     have m5:=mul_le (a:=q.s) (b:=q.s) (by unfold sm; omega) (by unfold sm; omega)
     have w4:IntKind.i64.wrap (px - q.x)=px - q.x:=wrap64_id (by omega)
     have w5:IntKind.i64.wrap (py - q.y)=py - q.y:=wrap64_id (by omega)
     have w6:IntKind.i64.wrap ((px - q.x) * (px - q.x))=(px - q.x) * (px - q.x):=wrap64_id (by omega)
     have w7:IntKind.i64.wrap ((py - q.y) * (py - q.y))=(py - q.y) * (py - q.y):=wrap64_id (by omega)
     have w8:IntKind.i64.wrap ((px - q.x) * (px - q.x)+(py - q.y) * (py - q.y))=(px - q.x) * (px - q.x)+(py - q.y) * (py - q.y):=wrap64_id (by omega)
     have w9:IntKind.i64.wrap (q.s * q.s)=q.s * q.s:=wrap64_id (by omega)
     simp [L29_0,h0,h6,h3,h5,hb,hbn,hbn1,hrn,hlt,hc,RS.cells,c,hlen,chunks,elems,allLen,w4,w5,w6,w7,w8,w9]
     refine VP_appR (ys:=boolsV t) (zs:=[[.val (.bool (decide ((px - q.x) * (px - q.x)+(py - q.y) * (py - q.y)≤q.s * q.s)))]]) (by repeat (first | exact htr.lst | refine Lst.grow ?_ | refine Lst.putN ?_ (by simp))) (by simp) (by simp) rfl (by simp) (by simp [boolsV]; unfold most; omega) fun v' H' wr rd r' xs' k2 k3 k4=>?_
     simp [h0,h6,hw3,k3]
     refine hgo _ v' ?_ ?_ ?_ ?_ ?_ ?_ ?_
     ·simp [h0]
     ·simp
     ·simp [h3]
     ·have kb:=k4 rp [.val (.int .i64 px),.val (.int .i64 py)] (by simp [hb,hrn,hrn',hbn,hbn1])
      simp [kb,k3]; omega
     ·simp [k3]; omega
     ·simp
     ·exact .inr ⟨r',xs',(by have:=k2.grow (m:=0); rw [stepT_eq q px py t [] 0 (by simp [needsN,c]) rfl t (by simp)]; simpa [boolsV,truthB,c] using this)⟩
    ·have m3:=mul_le (a:=px) (b:=q.x) (by unfold sm; omega) (by unfold sm; omega)
     have m4:=mul_le (a:=py) (b:=q.y) (by unfold sm; omega) (by unfold sm; omega)
     have w6:IntKind.i64.wrap (px * q.x)=px * q.x:=wrap64_id (by omega)
     have w7:IntKind.i64.wrap (py * q.y)=py * q.y:=wrap64_id (by omega)
     have w8:IntKind.i64.wrap (px * q.x+py * q.y)=px * q.x+py * q.y:=wrap64_id (by omega)
     simp [L29_0,h0,h6,h3,h5,hb,hbn,hbn1,hrn,hlt,hc,RS.cells,c,hlen,chunks,elems,allLen,w6,w7,w8]
     refine VP_appR (ys:=boolsV t) (zs:=[[.val (.bool (decide (q.s≤px * q.x+py * q.y)))]]) (by repeat (first | exact htr.lst | refine Lst.grow ?_ | refine Lst.putN ?_ (by simp))) (by simp) (by simp) rfl (by simp) (by simp [boolsV]; unfold most; omega) fun v' H' wr rd r' xs' k2 k3 k4=>?_
     simp [h0,h6,hw3,k3]
     refine hgo _ v' ?_ ?_ ?_ ?_ ?_ ?_ ?_
     ·simp [h0]
     ·simp
     ·simp [h3]
     ·have kb:=k4 rp [.val (.int .i64 px),.val (.int .i64 py)] (by simp [hb,hrn,hrn',hbn,hbn1])
      simp [kb,k3]; omega
     ·simp [k3]; omega
     ·simp
     ·exact .inr ⟨r',xs',(by have:=k2.grow (m:=0); rw [stepT_eq q px py t [] 0 (by simp [needsN,c]) rfl t (by simp)]; simpa [boolsV,truthB,c] using this)⟩
    ·have hne:needsN q.op=1:=by simp [needsN,c]
     obtain ⟨t0,b,rfl⟩:∃ t0 b,t=t0++[b]:=⟨t.dropLast,t.getLast (by intro e; subst e; simp at hnn; omega),(List.dropLast_concat_getLast _).symm⟩
     rcases htr with ⟨_,h⟩ | ⟨r,xs,h⟩
     ·simp at h
     ·have hv:=h.v
      have hrb:=h.b
      have hrl:=h.lt
      have hx:=bools_get h.eq (i:=t0.length) (b:=b) (by simp)
      have hle:=h.le
      simp [boolsV] at hv hle
      have hrr:¬ r=st.h.n:=by omega
      have hrl1:r < st.h.n+1:=by omega
      have hrp:¬ rp=r:=fun e=>by rw [e,hrb] at hb; cases hb
      have w1:IntKind.i64.wrap (t0.length:Int)=t0.length:=wrap64_id (by simp at hti; omega)
      have hxl:t0.length < xs.length:=by omega
      have hl1:(t0.length:Int) < (t0.length:Int)+1:=by omega
      have hx':∀ h,xs[t0.length]'h=[.val (.bool b)]:=fun h=>(List.getElem?_eq_some_iff.1 hx).2
      rw [hv] at h5
      simp [L29_0,h0,h6,h3,h5,hb,hbn,hbn1,hrn,hlt,hc,RS.cells,c,hlen,chunks,elems,allLen,hrb,hrl,hrl1,hrr,hrp,w1,loadR_row,storeR,hxl,hx',hw3,hl1]
      refine hgo _ v ?_ ?_ ?_ ?_ ?_ ?_ ?_
      ·simp [h0]
      ·simp
      ·simp [h3]
      ·simp [hrp,hrn,hb,hbn,hbn1]
      ·simp; omega
      ·simp [h5,hv]
      ·rw [stepT_eq q px py (t0++[b]) [b] 1 (by rw [hne]; rfl) rfl t0 rfl]
       refine .inr ⟨r,xs.set t0.length [.val (.bool (!b))],?_⟩
       have h2:=(((((h.grow (m:=1)).putN (s:=st.h.n) (b:=.box [.val (.int .i64 0),.val (.int .i64 0),.val (.int .i64 0),.val (.int .i64 0)]) (by simp)).putN (s:=st.h.n) (b:=.box [.val (.int .i64 4),.val (.int .i64 q.x),.val (.int .i64 q.y),.val (.int .i64 q.s)]) (by simp)).grow (m:=0)).set (i:=t0.length) (y:=[.val (.bool (!b))]) rfl).grow (m:=0)
       have e:(boolsV (t0++[b])).set t0.length [.val (.bool (!b))]=boolsV (t0++[!b]):=by simp [boolsV]
       rw [e] at h2
       simpa [truthB,c] using h2
    ·have hne:needsN q.op=2:=by simp [needsN,c]
     obtain ⟨t1,b,rfl⟩:∃ t1 b,t=t1++[b]:=⟨t.dropLast,t.getLast (by intro e; subst e; simp at hnn; omega),(List.dropLast_concat_getLast _).symm⟩
     obtain ⟨t0,a,rfl⟩:∃ t0 a,t1=t0++[a]:=⟨t1.dropLast,t1.getLast (by intro e; subst e; simp at hnn; omega),(List.dropLast_concat_getLast _).symm⟩
     rcases htr with ⟨_,h⟩ | ⟨r,xs,h⟩
     ·simp at h
     ·have hv:=h.v
      have hrb:=h.b
      have hrl:=h.lt
      have hx:=bools_get h.eq (i:=t0.length) (b:=a) (by simp)
      have hy:=bools_get h.eq (i:=t0.length+1) (b:=b) (by simp)
      have hle:=h.le
      simp [boolsV] at hv hle
      have hrr:¬ r=st.h.n:=by omega
      have hrl1:r < st.h.n+1:=by omega
      have hrp:¬ rp=r:=fun e=>by rw [e,hrb] at hb; cases hb
      have hti2:t0.length < 32:=by simp at hti; omega
      have w0:IntKind.i64.wrap (t0.length:Int)=t0.length:=wrap64_id (by omega)
      have w1:IntKind.i64.wrap ((t0.length:Int)+1)=((t0.length+1:Nat):Int):=by rw [wrap64_id (by omega)]; rfl
      have w2:IntKind.i64.wrap ((t0.length:Int)+2 - 1)=((t0.length+1:Nat):Int):=by rw [wrap64_id (by omega)]; omega
      have w3:IntKind.i64.wrap ((t0.length:Int)+2 - 2)=t0.length:=by rw [wrap64_id (by omega)]; omega
      have hxl:t0.length < xs.length:=by omega
      have hyl:t0.length+1 < xs.length:=by omega
      have hx':∀ h,xs[t0.length]'h=[.val (.bool a)]:=fun h=>(List.getElem?_eq_some_iff.1 hx).2
      have hy':∀ h,xs[t0.length+1]'h=[.val (.bool b)]:=fun h=>(List.getElem?_eq_some_iff.1 hy).2
      have hl1:(t0.length:Int) < (t0.length:Int)+2:=by omega
      have hl2:(t0.length:Int)+1 < (t0.length:Int)+2:=by omega
      have hl3:(0:Int)≤(t0.length:Int)+1:=by omega
      have hsl:∀ H:Heap,H.at_ r = .row 1 xs true→sliceP H 1 (.sl r 1 xs.length 0 (t0.length+2)) none (some t0.length) none=some (.sl r 1 xs.length 0 t0.length,[r]):=fun H e=>slice_lo e rfl (by omega) (by omega)
      have hpt:=h.part (m:=t0.length) (by simp [boolsV])
      have hpb:(boolsV (t0++[a]++[b])).take t0.length=boolsV t0:=by simp [boolsV]
      rw [hpb] at hpt
      rw [hv] at h5
      have hfin:stepT q.si px py (t0++[a]++[b])=t0++[a && b]:=by
       rw [stepT_eq q px py (t0++[a]++[b]) [a,b] 2 (by rw [hne]; rfl) rfl t0 (by simp)]
       simp [truthB,c]
      cases a <;> (
       simp [L29_0,h0,h6,h3,h5,hb,hbn,hbn1,hrn,hlt,hc,RS.cells,c,hlen,chunks,elems,allLen,hrb,hrl,hrl1,hrr,hrp,w0,w1,w2,w3,loadR_row,hxl,hyl,hx',hy',hl1,hl2,hl3,hsl]
       refine VP_appR (ys:=boolsV t0) (by repeat (first | exact hpt.lst | refine Lst.grow ?_ | refine Lst.putN ?_ (by simp))) (by simp) (by simp) rfl (by simp) (by simp [boolsV]; unfold most; omega) fun v' H' wr rd r' xs' k2 k3 k4=>?_
       simp [h0,h6,hw3,k3]
       refine hgo _ v' ?_ ?_ ?_ ?_ ?_ ?_ ?_
       ·simp [h0]
       ·simp
       ·simp [h3]
       ·have kb:=k4 rp [.val (.int .i64 px),.val (.int .i64 py)] (by simp [hb,hrn,hrn',hbn,hbn1])
        simp [kb,k3]; omega
       ·simp [k3]; omega
       ·simp
       ·rw [hfin]
        refine .inr ⟨r',xs',?_⟩
        have:=k2.grow (m:=0)
        simpa [boolsV] using this)
    ·have hne:needsN q.op=2:=by simp [needsN,c]
     obtain ⟨t1,b,rfl⟩:∃ t1 b,t=t1++[b]:=⟨t.dropLast,t.getLast (by intro e; subst e; simp at hnn; omega),(List.dropLast_concat_getLast _).symm⟩
     obtain ⟨t0,a,rfl⟩:∃ t0 a,t1=t0++[a]:=⟨t1.dropLast,t1.getLast (by intro e; subst e; simp at hnn; omega),(List.dropLast_concat_getLast _).symm⟩
     rcases htr with ⟨_,h⟩ | ⟨r,xs,h⟩
     ·simp at h
     ·have hv:=h.v
      have hrb:=h.b
      have hrl:=h.lt
      have hx:=bools_get h.eq (i:=t0.length) (b:=a) (by simp)
      have hy:=bools_get h.eq (i:=t0.length+1) (b:=b) (by simp)
      have hle:=h.le
      simp [boolsV] at hv hle
      have hrr:¬ r=st.h.n:=by omega
      have hrl1:r < st.h.n+1:=by omega
      have hrp:¬ rp=r:=fun e=>by rw [e,hrb] at hb; cases hb
      have hti2:t0.length < 32:=by simp at hti; omega
      have w0:IntKind.i64.wrap (t0.length:Int)=t0.length:=wrap64_id (by omega)
      have w1:IntKind.i64.wrap ((t0.length:Int)+1)=((t0.length+1:Nat):Int):=by rw [wrap64_id (by omega)]; rfl
      have w2:IntKind.i64.wrap ((t0.length:Int)+2 - 1)=((t0.length+1:Nat):Int):=by rw [wrap64_id (by omega)]; omega
      have w3:IntKind.i64.wrap ((t0.length:Int)+2 - 2)=t0.length:=by rw [wrap64_id (by omega)]; omega
      have hxl:t0.length < xs.length:=by omega
      have hyl:t0.length+1 < xs.length:=by omega
      have hx':∀ h,xs[t0.length]'h=[.val (.bool a)]:=fun h=>(List.getElem?_eq_some_iff.1 hx).2
      have hy':∀ h,xs[t0.length+1]'h=[.val (.bool b)]:=fun h=>(List.getElem?_eq_some_iff.1 hy).2
      have hl1:(t0.length:Int) < (t0.length:Int)+2:=by omega
      have hl2:(t0.length:Int)+1 < (t0.length:Int)+2:=by omega
      have hl3:(0:Int)≤(t0.length:Int)+1:=by omega
      have hsl:∀ H:Heap,H.at_ r = .row 1 xs true→sliceP H 1 (.sl r 1 xs.length 0 (t0.length+2)) none (some t0.length) none=some (.sl r 1 xs.length 0 t0.length,[r]):=fun H e=>slice_lo e rfl (by omega) (by omega)
      have hpt:=h.part (m:=t0.length) (by simp [boolsV])
      have hpb:(boolsV (t0++[a]++[b])).take t0.length=boolsV t0:=by simp [boolsV]
      rw [hpb] at hpt
      rw [hv] at h5
      have hfin:stepT q.si px py (t0++[a]++[b])=t0++[a || b]:=by
       rw [stepT_eq q px py (t0++[a]++[b]) [a,b] 2 (by rw [hne]; rfl) rfl t0 (by simp)]
       simp [truthB,c]
      cases a <;> (
       simp [L29_0,h0,h6,h3,h5,hb,hbn,hbn1,hrn,hlt,hc,RS.cells,c,hlen,chunks,elems,allLen,hrb,hrl,hrl1,hrr,hrp,w0,w1,w2,w3,loadR_row,hxl,hyl,hx',hy',hl1,hl2,hl3,hsl]
       refine VP_appR (ys:=boolsV t0) (by repeat (first | exact hpt.lst | refine Lst.grow ?_ | refine Lst.putN ?_ (by simp))) (by simp) (by simp) rfl (by simp) (by simp [boolsV]; unfold most; omega) fun v' H' wr rd r' xs' k2 k3 k4=>?_
       simp [h0,h6,hw3,k3]
       refine hgo _ v' ?_ ?_ ?_ ?_ ?_ ?_ ?_
       ·simp [h0]
       ·simp
       ·simp [h3]
       ·have kb:=k4 rp [.val (.int .i64 px),.val (.int .i64 py)] (by simp [hb,hrn,hrn',hbn,hbn1])
        simp [kb,k3]; omega
       ·simp [k3]; omega
       ·simp
       ·rw [hfin]
        refine .inr ⟨r',xs',?_⟩
        have:=k2.grow (m:=0)
        simpa [boolsV] using this)
theorem foldR_right:∀ (l:List RS) (n m:Int),foldR (toSI l) n=some m→∀ q∈l,q.si.right=true
 | [],n,m,h,q,hq=>by cases hq
 | x::l,n,m,h,q,hq=>by
   have h':(if x.si.right=false∨n < needsN x.op then none else foldR (toSI l) (n+(1 - needsN x.op)))=some m:=h
   split at h'
   ·cases h'
   ·rename_i hno
    simp only [not_or,Bool.not_eq_false] at hno
    rcases List.mem_cons.1 hq with rfl | hq
    ·exact hno.1
    ·exact foldR_right l _ m h' q hq
theorem refHas_ans {l:List RS} (hr:zoneRight (toSI l)=true) {px py:Int}:ans (env P) 29 [.im (rsV l) false,placeV px py]=some (.val (.bool (zoneHas (toSI l) px py))):=by
 refine ans_V rfl rfl ?_
 have h1:=refRight_ans (P:=P) (l:=l)
 have h2:=refWhole_ans (P:=P) (x:=px) (y:=py)
 rw [hr] at h1
 cases hw:(near px && near py) with
 | false =>
   rw [hw] at h2
   simp [c29,placeV,h1,h2,zoneHas,hr,hw]
 | true =>
   rw [hw] at h2
   have hz:=hr
   simp only [zoneRight,Bool.and_eq_true,decide_eq_true_eq] at hz
   simp only [Bool.and_eq_true] at hw
   simp [c29,placeV,h1,h2]
   refine loop17 (px:=px) (py:=py) (foldR_right l 0 1 hz.2) (by simpa [toSI] using hz.1) hw.1 hw.2 1 0 l 0 [] _ _ rfl (by omega) hz.2 (by simp) (by simp) (by simp) (by simp) (by simp) (by simp) rfl (by simp; exact .inl ⟨rfl,rfl⟩) ?_
   intro st' v h5 htr
   have hlen:=runT_length px py (toSI l) [] 1 hz.2
   obtain ⟨b0,hb0⟩:∃ b0,runT px py (toSI l) []=[b0]:=by
    match hh:runT px py (toSI l) [] with
    | []=>rw [hh] at hlen; simp at hlen
    | [b0]=>exact ⟨b0,rfl⟩
    | _::_::_=>rw [hh] at hlen; simp at hlen; omega
   rw [hb0] at htr
   rcases htr with ⟨_,h⟩ | ⟨r,xs,h⟩
   ·simp at h
   ·have hv:=h.v
    have hrb:=h.b
    have hrl:=h.lt
    have hx:=bools_get h.eq (i:=0) (b:=b0) (by simp)
    have hx':∀ h,xs[0]'h=[.val (.bool b0)]:=fun h=>(List.getElem?_eq_some_iff.1 hx).2
    have hle:=h.le
    simp [boolsV] at hv hle
    rw [hv] at h5
    have hxl:0 < xs.length:=by omega
    simp [h5,hrb,hrl,loadR_row,hx',hxl,zoneHas,hr,hw,hb0]
end Go.Evl.Zone

namespace Go.Evl.Zone
open Go Go.Evl Go.Evl.Fl
variable {P:Program}
structure Typed3 (P:Program):Prop extends Typed2 P where
 t51 : ∃ fs : Array Field, P.underlying 178 = some (.struct fs) ∧ fs.toList.map (fun f => (f.type, f.offset)) = [(3, 0), (67, 1), (176, 2)] ∧ (fs.toList.all fun f => f.name != "_") = true
 h51:P.stoodInHeld 178=false
 g51:P.eqGuardType P.depth 178=false
theorem floatEq_is {a b:Nat} {m n:Int} (ha:Is a m) (hb:Is b n):Op.floatEq .f64 a b=decide (m=n):=by
 have ho:FloatKind.f64.format.order a b=some (compare m n):=ha.order hb
 unfold Op.floatEq
 rw [ho]
 simp only [compare,compareOfLessAndEq]
 rcases Int.lt_trichotomy m n with h | h | h
 ·have h3:¬ m=n:=by omega
  simp [h,h3]
 ·subst h; simp
 ·have h0:¬ m < n:=by omega
  have h3:¬ m=n:=by omega
  simp [h0,h3]
end Go.Evl.Zone
