/- Part Ta of the proof: what it says stands at its theorems. -/
import Derived.Test.YtghcmmmpmfncbaaGreatDoorProg
import Derived.Test.YtghcmmmpmfncbaaGreatDoorAm3
set_option linter.unusedVariables false
set_option linter.unusedSimpArgs false
set_option linter.unusedSectionVars false
/- The functions of a seat as closures. Printed by mkT.py. -/
namespace Go.AM.S
open _root_.Go.AM.G (R)
open Go Go.AM Go.Proofs
set_option linter.unusedVariables false
set_option maxRecDepth 100000
noncomputable abbrev Pg : Program := Tryz.prog
def lkD {α : Type} (d : α) (l : List (Nat × α)) (i : Nat) : α := (lkL l i).getD d
def cArr : List Nat := [201, 213, 226, 207, 118]
def cUse : List Nat := [4, 5, 6, 7, 8, 9, 10, 11, 12, 13, 14, 15, 16, 17, 18, 19, 20, 21, 22, 23, 24, 25, 28, 29, 31, 32, 33, 34, 35, 36, 37, 38, 39, 40, 41, 42, 43, 44, 45, 46, 47, 48, 49, 50, 51, 52, 54, 55, 56, 57, 58, 59, 60, 61, 62, 63, 64, 65, 66, 67, 68, 69, 70, 71, 72, 73, 74, 75, 76, 77, 79, 81, 82, 83, 84, 85, 86, 87, 93, 94, 95, 96, 97, 98, 99, 101, 102, 103, 104, 106, 107, 108, 110, 111, 112, 113, 114, 115, 116, 117, 118, 119, 120, 121, 122, 123, 124, 125, 126, 127, 128, 129, 130, 131, 132, 136, 137, 138, 139, 141, 142, 143, 153, 154, 155, 157, 168, 169, 172, 173, 174]
def cGlob : List (Nat × List Nat) := [(9, [2, 3, 7]), (16, [22]), (18, [2]), (19, [17]), (20, [57]), (21, [2, 3]), (23, [22, 200, 139, 160]), (29, [14, 64, 81, 196]), (39, [1, 40, 50, 74, 87]), (42, [21]), (50, [40, 57, 74, 105]), (51, [22]), (62, [6, 7, 8, 10, 11, 13, 14]), (65, [21]), (72, [111]), (93, [7, 8, 9, 11, 12, 13]), (104, [13]), (110, [32]), (124, [5]), (128, [30]), (138, [17])]
def cPairs : List (Nat × List (Nat × List (Nat × Nat))) := [(9, [(5, [(3, 6), (5, 6)])]), (16, [(20, [(2, 18), (7, 18), (10, 18)]), (29, [(3, 14), (6, 14)]), (33, [(2, 16), (5, 16)])]), (20, [(7, [(4, 7)])]), (23, [(10, [(5, 8)]), (31, [(5, 30), (9, 30), (16, 30), (20, 30), (24, 30), (28, 30), (5, 34), (9, 34), (16, 34), (20, 34), (24, 34), (28, 34), (30, 34)]), (36, [(0, 6)])]), (29, [(22, [(3, 14)]), (27, [(3, 14)]), (28, [(2, 12)])]), (39, [(7, [(0, 13)]), (8, [(0, 7)]), (13, [(0, 10)]), (14, [(0, 9)]), (16, [(0, 18), (1, 18), (5, 18), (6, 18), (9, 18), (10, 18), (14, 18)])]), (48, [(6, [(15, 18)])]), (49, [(10, [(3, 21), (8, 21), (11, 21), (3, 27), (8, 27), (11, 27)])]), (50, [(8, [(2, 13), (4, 13)]), (10, [(2, 13), (4, 13)]), (12, [(2, 13), (4, 13)]), (17, [(2, 13), (4, 13)])]), (57, [(49, [(3, 10), (5, 10)]), (64, [(2, 13), (4, 13)]), (78, [(2, 12), (4, 12)])]), (70, [(18, [(2, 13), (4, 13), (2, 22), (4, 22)])]), (72, [(9, [(5, 37), (9, 37), (13, 37), (17, 37)]), (30, [(5, 25), (7, 25), (25, 29), (25, 33), (25, 38), (5, 43), (7, 43), (25, 48), (43, 48)])]), (79, [(19, [(3, 5)])]), (85, [(3, [(0, 10), (2, 10), (4, 10), (5, 10), (7, 10), (8, 10)]), (6, [(0, 4)]), (9, [(0, 10), (2, 10), (4, 10), (5, 10), (7, 10), (8, 10)]), (11, [(0, 10), (2, 10), (4, 10), (5, 10), (7, 10), (8, 10)])]), (96, [(16, [(2, 9), (4, 9)]), (24, [(3, 10), (5, 10)])]), (113, [(5, [(5, 25), (7, 25), (25, 29), (25, 33), (25, 38), (5, 42), (7, 42), (25, 47), (42, 47)])]), (114, [(3, [(3, 10), (5, 10)]), (8, [(3, 8), (5, 8)])]), (125, [(1, [(0, 9), (1, 9), (3, 9), (9, 10), (9, 11)])])]
def cPairsH : List (Nat × List (Nat × List (Nat × Nat))) := [(9, [(5, [(3, 6), (5, 6)])]), (14, [(26, [(2, 15), (6, 15)]), (27, [(4, 8)])]), (16, [(20, [(2, 18), (7, 18), (10, 18)]), (29, [(3, 14), (6, 14)]), (33, [(2, 16), (5, 16)])]), (19, [(1, [(0, 6), (2, 6), (3, 6)])]), (20, [(7, [(1, 4), (1, 7), (4, 7), (5, 7)]), (12, [(1, 5)])]), (23, [(10, [(1, 5), (1, 8), (5, 8), (6, 8)]), (15, [(1, 9)]), (23, [(2, 7), (2, 10)]), (29, [(4, 6), (4, 8)]), (31, [(10, 16), (10, 20), (10, 24), (10, 28), (5, 30), (9, 30), (10, 30), (16, 30), (20, 30), (24, 30), (28, 30), (5, 34), (9, 34), (10, 34), (16, 34), (20, 34), (24, 34), (28, 34), (30, 34), (31, 34), (33, 34)]), (36, [(0, 6)])]), (29, [(22, [(3, 14)]), (27, [(3, 14)]), (28, [(2, 12)])]), (39, [(7, [(0, 6), (1, 6), (4, 6), (6, 9), (0, 10), (1, 10), (4, 10), (0, 13)]), (8, [(0, 7)]), (13, [(0, 7), (1, 7), (5, 7), (0, 8), (1, 8), (5, 8), (0, 10)]), (14, [(0, 6), (1, 6), (4, 6), (0, 9)]), (16, [(0, 18), (1, 18), (5, 18), (6, 18), (9, 18), (10, 18), (14, 18), (17, 18)]), (17, [(16, 17)])]), (48, [(6, [(15, 18)])]), (49, [(10, [(3, 21), (8, 21), (11, 21), (3, 27), (8, 27), (11, 27)])]), (50, [(8, [(2, 13), (4, 13)]), (10, [(2, 13), (4, 13)]), (12, [(2, 13), (4, 13)]), (17, [(2, 13), (4, 13)])]), (57, [(49, [(3, 10), (5, 10), (6, 10)]), (64, [(2, 13), (4, 13)]), (78, [(2, 12), (4, 12)])]), (62, [(29, [(0, 7)])]), (63, [(1, [(0, 19)])]), (65, [(2, [(1, 2)]), (3, [(6, 9)])]), (66, [(1, [(0, 1)])]), (68, [(6, [(2, 3), (2, 5), (2, 7), (6, 7), (2, 9), (6, 9)])]), (70, [(18, [(2, 13), (4, 13), (2, 22), (4, 22)])]), (72, [(9, [(5, 37), (9, 37), (13, 37), (17, 37)]), (23, [(4, 5)]), (25, [(4, 5)]), (17, [(4, 5)]), (27, [(3, 4), (3, 7), (6, 7)]), (30, [(5, 25), (7, 25), (25, 29), (25, 33), (25, 38), (5, 43), (7, 43), (25, 48), (43, 48)])]), (74, [(29, [(2, 5), (2, 7)])]), (79, [(19, [(3, 5)])]), (83, [(1, [(1, 2)])]), (85, [(3, [(0, 10), (2, 10), (4, 10), (5, 10), (7, 10), (8, 10), (9, 10)]), (4, [(0, 5), (1, 5)]), (6, [(0, 1), (0, 4), (1, 4), (3, 4)]), (7, [(0, 11), (1, 11)]), (9, [(0, 10), (2, 10), (4, 10), (5, 10), (7, 10), (8, 10), (9, 10)]), (10, [(0, 3), (1, 3), (2, 3), (0, 5), (1, 5)]), (11, [(0, 10), (2, 10), (4, 10), (5, 10), (7, 10), (8, 10), (9, 10)]), (12, [(0, 11), (1, 11)])]), (86, [(1, [(3, 4), (3, 7), (6, 7)])]), (87, [(1, [(0, 7), (2, 7), (4, 7), (7, 9), (7, 10)])]), (95, [(7, [(9, 11)]), (13, [(2, 5)]), (23, [(9, 11)])]), (96, [(16, [(2, 6), (4, 6), (6, 7), (2, 9), (4, 9)]), (24, [(3, 10), (5, 10), (6, 10)])]), (97, [(1, [(0, 3)])]), (110, [(2, [(1, 4)])]), (113, [(5, [(5, 25), (7, 25), (25, 29), (25, 33), (25, 38), (5, 42), (7, 42), (25, 47), (42, 47)])]), (114, [(3, [(3, 10), (5, 10), (6, 10)]), (8, [(3, 8), (5, 8), (7, 8)]), (9, [(11, 14)]), (17, [(2, 6)]), (26, [(11, 14)])]), (125, [(1, [(0, 6), (1, 6), (3, 6), (6, 7), (0, 9), (1, 9), (3, 9), (6, 10), (9, 10), (6, 11), (9, 11)])]), (126, [(13, [(2, 6), (2, 12), (8, 12), (2, 16), (8, 16)])]), (137, [(16, [(1, 6), (2, 6), (1, 12), (2, 12), (8, 12), (1, 16), (2, 16), (8, 16)])]), (138, [(1, [(4, 7)])])]
def Cg : Cfg := { isArr := fun t => cArr.contains t, use := fun f => cUse.contains f, glob := fun f t => (lkD [] cGlob f).contains t, pairs := fun f i => lkD [] (lkD [] cPairs f) i, pairsH := fun f i => lkD [] (lkD [] cPairsH f) i }
noncomputable section
def I (n : Nat) : V := .int .i64 (.ofNat n)
def gl (f : Tm → V) (tm : Tm) : V := Tr.rec (motive := fun _ => V) .dead (fun _ l _ _ _ => f l) tm
def gr (f : Tm → V) (tm : Tm) : V := Tr.rec (motive := fun _ => V) .dead (fun _ _ r _ _ => f r) tm
def pl (f : Tm → V → Tm) (tm : Tm) (w : V) : Tm := Tr.rec (motive := fun _ => Tm) (.nd none (f .lf w) .lf) (fun v l r _ _ => .nd v (f l w) r) tm
def pr (f : Tm → V → Tm) (tm : Tm) (w : V) : Tm := Tr.rec (motive := fun _ => Tm) (.nd none .lf (f .lf w)) (fun v l r _ _ => .nd v l (f r w)) tm
def gn (F : Func) (f id i : Nat) (call : CallF) := gen Pg Cg call (Cg.glob f) (opA F id i)
def gD (F : Func) (f id i : Nat) (call : CallF) := genD Pg Cg call (Cg.glob f) (opA F id i)
def sD (F : Func) (f id : Nat) (call : CallF) := stopD Pg Cg call (Cg.glob f) (rgA F id) (Cg.pairs f id) (Cg.pairsH f id)
def sto (t : Nat) (a x : V) (loc : Lo) (hp : Hp) (j : V → Lo → Hp → R) (slow : R) : R := G.onPtr a (fun r off => G.onRef r (fun s g => stL Pg t s g off x loc (fun loc => j (.tuple []) loc hp)) (fun _ => slow)) (fun _ => none) none
def jE (c : List (Nat × V)) (f : List (Nat × V) → R) : R := f c
def jF (c : List Foot) (f : List Foot → R) : R := f c
def g0 (tm : Tm) : V := Tr.rec (motive := fun _ => V) .dead (fun v _ _ _ _ => Option.rec (motive := fun _ => V) .dead (fun a => a) v) tm
def g1 : Tm → V := gl g0
def g2 : Tm → V := gr g0
def g3 : Tm → V := gl g1
def g4 : Tm → V := gr g1
def g5 : Tm → V := gl g2
def g6 : Tm → V := gr g2
def g7 : Tm → V := gl g3
def g8 : Tm → V := gr g3
def g9 : Tm → V := gl g4
def g10 : Tm → V := gr g4
def g11 : Tm → V := gl g5
def g12 : Tm → V := gr g5
def g13 : Tm → V := gl g6
def g14 : Tm → V := gr g6
def g15 : Tm → V := gl g7
def g16 : Tm → V := gr g7
def g17 : Tm → V := gl g8
def g18 : Tm → V := gr g8
def g19 : Tm → V := gl g9
def g20 : Tm → V := gr g9
def g21 : Tm → V := gl g10
def g22 : Tm → V := gr g10
def g23 : Tm → V := gl g11
def g26 : Tm → V := gr g12
def g27 : Tm → V := gl g13
def g29 : Tm → V := gl g14
def g30 : Tm → V := gr g14
def g33 : Tm → V := gl g16
def g34 : Tm → V := gr g16
def g35 : Tm → V := gl g17
def g36 : Tm → V := gr g17
def g37 : Tm → V := gl g18
def g43 : Tm → V := gl g21
def g44 : Tm → V := gr g21
def g47 : Tm → V := gl g23
def g48 : Tm → V := gr g23
def g54 : Tm → V := gr g26
def g60 : Tm → V := gr g29
def g61 : Tm → V := gl g30
def g67 : Tm → V := gl g33
def g70 : Tm → V := gr g34
def g74 : Tm → V := gr g36
def g75 : Tm → V := gl g37
def g76 : Tm → V := gr g37
def g97 : Tm → V := gl g48
def g135 : Tm → V := gl g67
def g142 : Tm → V := gr g70
def p0 (tm : Tm) (w : V) : Tm := Tr.rec (motive := fun _ => Tm) (.nd (some w) .lf .lf) (fun _ l r _ _ => .nd (some w) l r) tm
def p1 : Tm → V → Tm := pl p0
def p2 : Tm → V → Tm := pr p0
def p3 : Tm → V → Tm := pl p1
def p4 : Tm → V → Tm := pr p1
def p5 : Tm → V → Tm := pl p2
def p6 : Tm → V → Tm := pr p2
def p7 : Tm → V → Tm := pl p3
def p8 : Tm → V → Tm := pr p3
def p9 : Tm → V → Tm := pl p4
def p10 : Tm → V → Tm := pr p4
def p11 : Tm → V → Tm := pl p5
def p12 : Tm → V → Tm := pr p5
def p13 : Tm → V → Tm := pl p6
def p14 : Tm → V → Tm := pr p6
def p15 : Tm → V → Tm := pl p7
def p16 : Tm → V → Tm := pr p7
def p17 : Tm → V → Tm := pl p8
def p18 : Tm → V → Tm := pr p8
def p19 : Tm → V → Tm := pl p9
def p20 : Tm → V → Tm := pr p9
def p21 : Tm → V → Tm := pl p10
def p22 : Tm → V → Tm := pr p10
def p23 : Tm → V → Tm := pl p11
def p24 : Tm → V → Tm := pr p11
def p25 : Tm → V → Tm := pl p12
def p26 : Tm → V → Tm := pr p12
def p27 : Tm → V → Tm := pl p13
def p28 : Tm → V → Tm := pr p13
def p29 : Tm → V → Tm := pl p14
def p30 : Tm → V → Tm := pr p14
def p31 : Tm → V → Tm := pl p15
def p32 : Tm → V → Tm := pr p15
def p33 : Tm → V → Tm := pl p16
def p34 : Tm → V → Tm := pr p16
def p35 : Tm → V → Tm := pl p17
def p36 : Tm → V → Tm := pr p17
def p37 : Tm → V → Tm := pl p18
def p38 : Tm → V → Tm := pr p18
def p39 : Tm → V → Tm := pl p19
def p40 : Tm → V → Tm := pr p19
def p41 : Tm → V → Tm := pl p20
def p42 : Tm → V → Tm := pr p20
def p43 : Tm → V → Tm := pl p21
def p44 : Tm → V → Tm := pr p21
def p45 : Tm → V → Tm := pl p22
def p46 : Tm → V → Tm := pr p22
def p47 : Tm → V → Tm := pl p23
def p48 : Tm → V → Tm := pr p23
def p49 : Tm → V → Tm := pl p24
def p50 : Tm → V → Tm := pr p24
def p51 : Tm → V → Tm := pl p25
def p52 : Tm → V → Tm := pr p25
def p53 : Tm → V → Tm := pl p26
def p54 : Tm → V → Tm := pr p26
def p55 : Tm → V → Tm := pl p27
def p56 : Tm → V → Tm := pr p27
def p57 : Tm → V → Tm := pl p28
def p58 : Tm → V → Tm := pr p28
def p59 : Tm → V → Tm := pl p29
def p60 : Tm → V → Tm := pr p29
def p61 : Tm → V → Tm := pl p30
def p62 : Tm → V → Tm := pr p30
def p63 : Tm → V → Tm := pl p31
def p64 : Tm → V → Tm := pr p31
def p65 : Tm → V → Tm := pl p32
def p66 : Tm → V → Tm := pr p32
def p67 : Tm → V → Tm := pl p33
def p68 : Tm → V → Tm := pr p33
def p69 : Tm → V → Tm := pl p34
def p70 : Tm → V → Tm := pr p34
def p71 : Tm → V → Tm := pl p35
def p72 : Tm → V → Tm := pr p35
def p73 : Tm → V → Tm := pl p36
def p74 : Tm → V → Tm := pr p36
def p75 : Tm → V → Tm := pl p37
def p76 : Tm → V → Tm := pr p37
def p77 : Tm → V → Tm := pl p38
def p78 : Tm → V → Tm := pr p38
def p79 : Tm → V → Tm := pl p39
def p80 : Tm → V → Tm := pr p39
def p81 : Tm → V → Tm := pl p40
def p82 : Tm → V → Tm := pr p40
def p83 : Tm → V → Tm := pl p41
def p84 : Tm → V → Tm := pr p41
def p85 : Tm → V → Tm := pl p42
def p86 : Tm → V → Tm := pr p42
def p87 : Tm → V → Tm := pl p43
def p88 : Tm → V → Tm := pr p43
def p89 : Tm → V → Tm := pl p44
def p90 : Tm → V → Tm := pr p44
def p91 : Tm → V → Tm := pl p45
def p92 : Tm → V → Tm := pr p45
def p93 : Tm → V → Tm := pl p46
def p94 : Tm → V → Tm := pr p46
def p95 : Tm → V → Tm := pl p47
def p96 : Tm → V → Tm := pr p47
def p97 : Tm → V → Tm := pl p48
def p98 : Tm → V → Tm := pr p48
def p99 : Tm → V → Tm := pl p49
def p100 : Tm → V → Tm := pr p49
def p101 : Tm → V → Tm := pl p50
def p102 : Tm → V → Tm := pr p50
def p103 : Tm → V → Tm := pl p51
def p104 : Tm → V → Tm := pr p51
def p105 : Tm → V → Tm := pl p52
def p106 : Tm → V → Tm := pr p52
def p107 : Tm → V → Tm := pl p53
def p108 : Tm → V → Tm := pr p53
def p109 : Tm → V → Tm := pl p54
def p110 : Tm → V → Tm := pr p54
def p111 : Tm → V → Tm := pl p55
def p112 : Tm → V → Tm := pr p55
def p113 : Tm → V → Tm := pl p56
def p114 : Tm → V → Tm := pr p56
def p115 : Tm → V → Tm := pl p57
def p116 : Tm → V → Tm := pr p57
def p117 : Tm → V → Tm := pl p58
def p118 : Tm → V → Tm := pr p58
def p119 : Tm → V → Tm := pl p59
def p120 : Tm → V → Tm := pr p59
def p121 : Tm → V → Tm := pl p60
def p122 : Tm → V → Tm := pr p60
def p123 : Tm → V → Tm := pl p61
def p124 : Tm → V → Tm := pr p61
def p125 : Tm → V → Tm := pl p62
def p126 : Tm → V → Tm := pr p62
def p127 : Tm → V → Tm := pl p63
def p128 : Tm → V → Tm := pr p63
def p129 : Tm → V → Tm := pl p64
def p130 : Tm → V → Tm := pr p64
def p131 : Tm → V → Tm := pl p65
def p132 : Tm → V → Tm := pr p65
def p133 : Tm → V → Tm := pl p66
def p134 : Tm → V → Tm := pr p66
def p135 : Tm → V → Tm := pl p67
def p136 : Tm → V → Tm := pr p67
def p137 : Tm → V → Tm := pl p68
def p138 : Tm → V → Tm := pr p68
def p139 : Tm → V → Tm := pl p69
def p140 : Tm → V → Tm := pr p69
def p141 : Tm → V → Tm := pl p70
def p142 : Tm → V → Tm := pr p70
def p143 : Tm → V → Tm := pl p71
def p144 : Tm → V → Tm := pr p71
def p145 : Tm → V → Tm := pl p72
def p146 : Tm → V → Tm := pr p72
def p147 : Tm → V → Tm := pl p73
def p148 : Tm → V → Tm := pr p73
def p149 : Tm → V → Tm := pl p74
def p150 : Tm → V → Tm := pr p74
def p151 : Tm → V → Tm := pl p75
def p152 : Tm → V → Tm := pr p75
def p153 : Tm → V → Tm := pl p76
def p154 : Tm → V → Tm := pr p76
def p155 : Tm → V → Tm := pl p77
def p156 : Tm → V → Tm := pr p77
def p157 : Tm → V → Tm := pl p78
def p158 : Tm → V → Tm := pr p78
def p159 : Tm → V → Tm := pl p79
def p160 : Tm → V → Tm := pr p79
def p161 : Tm → V → Tm := pl p80
def p162 : Tm → V → Tm := pr p80
def p163 : Tm → V → Tm := pl p81
def p164 : Tm → V → Tm := pr p81
def p165 : Tm → V → Tm := pl p82
def p166 : Tm → V → Tm := pr p82
def p167 : Tm → V → Tm := pl p83
def p168 : Tm → V → Tm := pr p83
def p169 : Tm → V → Tm := pl p84
def p170 : Tm → V → Tm := pr p84
def p171 : Tm → V → Tm := pl p85
def p172 : Tm → V → Tm := pr p85
def p173 : Tm → V → Tm := pl p86
def p174 : Tm → V → Tm := pr p86
def p176 : Tm → V → Tm := pr p87
def p177 : Tm → V → Tm := pl p88
def p178 : Tm → V → Tm := pr p88
def p179 : Tm → V → Tm := pl p89
def p180 : Tm → V → Tm := pr p89
def p182 : Tm → V → Tm := pr p90
def p183 : Tm → V → Tm := pl p91
def p184 : Tm → V → Tm := pr p91
def p185 : Tm → V → Tm := pl p92
def p186 : Tm → V → Tm := pr p92
def p187 : Tm → V → Tm := pl p93
def p188 : Tm → V → Tm := pr p93
def p189 : Tm → V → Tm := pl p94
def p192 : Tm → V → Tm := pr p95
def p194 : Tm → V → Tm := pr p96
def p195 : Tm → V → Tm := pl p97
def p196 : Tm → V → Tm := pr p97
def p198 : Tm → V → Tm := pr p98
def p199 : Tm → V → Tm := pl p99
def p201 : Tm → V → Tm := pl p100
def p202 : Tm → V → Tm := pr p100
def p203 : Tm → V → Tm := pl p101
def p204 : Tm → V → Tm := pr p101
def p205 : Tm → V → Tm := pl p102
def p206 : Tm → V → Tm := pr p102
def p207 : Tm → V → Tm := pl p103
def p208 : Tm → V → Tm := pr p103
def p210 : Tm → V → Tm := pr p104
def p212 : Tm → V → Tm := pr p105
def p214 : Tm → V → Tm := pr p106
def p215 : Tm → V → Tm := pl p107
def p218 : Tm → V → Tm := pr p108
def p219 : Tm → V → Tm := pl p109
def p222 : Tm → V → Tm := pr p110
def p223 : Tm → V → Tm := pl p111
def p227 : Tm → V → Tm := pl p113
def p228 : Tm → V → Tm := pr p113
def p229 : Tm → V → Tm := pl p114
def p231 : Tm → V → Tm := pl p115
def p233 : Tm → V → Tm := pl p116
def p242 : Tm → V → Tm := pr p120
def p250 : Tm → V → Tm := pr p124
def p251 : Tm → V → Tm := pl p125
def p252 : Tm → V → Tm := pr p125
def p255 : Tm → V → Tm := pl p127
def p257 : Tm → V → Tm := pl p128
def p260 : Tm → V → Tm := pr p129
def p271 : Tm → V → Tm := pl p135
def p280 : Tm → V → Tm := pr p139
def p282 : Tm → V → Tm := pr p140
def p283 : Tm → V → Tm := pl p141
def p284 : Tm → V → Tm := pr p141
def p286 : Tm → V → Tm := pr p142
def p287 : Tm → V → Tm := pl p143
def p289 : Tm → V → Tm := pl p144
def p290 : Tm → V → Tm := pr p144
def p292 : Tm → V → Tm := pr p145
def p294 : Tm → V → Tm := pr p146
def p295 : Tm → V → Tm := pl p147
def p315 : Tm → V → Tm := pl p157
def p316 : Tm → V → Tm := pr p157
def p339 : Tm → V → Tm := pl p169
def p340 : Tm → V → Tm := pr p169
def p341 : Tm → V → Tm := pl p170
def p357 : Tm → V → Tm := pl p178
def p358 : Tm → V → Tm := pr p178
def p359 : Tm → V → Tm := pl p179
def p366 : Tm → V → Tm := pr p182
def p374 : Tm → V → Tm := pr p186
def kp4 : List Nat := [0, 1, 4, 5, 6, 7, 8, 9, 10, 11, 12, 13, 14, 15, 17, 30]
def rc4 : RC := (.seq (.reg fun c t l h k => k (p4 t (.bool false)) l h)
 (.seq (.seq (.reg fun c t l h k => cl c 6 [] t l h fun v0 l0 h0 => bO (G.un .not v0) fun v1 => k (p17 t v1) l0 h0)
 (.cond (.tmp 17) (.seq (.reg fun c t l h k => k (p4 t (.bool false)) l h)
 .ret) .skip))
 (.seq (.reg fun c t l h k => cl c 7 [(g0 t), (I 7)] t l h fun v0 l0 h0 => k (p0 t v0) l0 h0)
 (.seq (.reg fun c t l h k => bO (bs Pg 24 5 [(0, (.str ⟨4, 1701999952⟩)), (1, (.str ⟨5, 435744240723⟩)), (2, (.str ⟨3, 7239749⟩)), (3, (.str ⟨3, 7105601⟩)), (4, (.str ⟨3, 7760196⟩))]) fun v0 => cl c 7 [(g1 t), (I 5)] t l h fun v1 l1 h1 => bO (ia Pg 24 v0 v1) fun v2 => bO (ld Pg 9 v2 l1 h1) fun v3 => k (p5 t v3) l1 h1)
 (.seq (.reg fun c t l h k => bO (bin Pg .add 9 true (.str ⟨44, 1154885969238164725967260062046942997985393501267613102062968807678418469255468433739052551413492070376818⟩) (g5 t)) fun v0 => bO (bin Pg .add 9 true v0 (.str ⟨67, 28514346600981441192578107608300533121297665477787452249392566252596240129964878171095550189931629702613829647441576578475977889325081313949238509684233096554784⟩)) fun v1 => k (p6 t v1) l h)
 (.seq (.seq (.reg fun c t l h k => k (p7 t (I 0)) l h)
 (.block 0 (.loop (.seq (.seq (.reg fun c t l h k => bO (bin Pg .lss 3 false (g7 t) (g0 t)) fun v0 => k (p30 t v0) l h)
 (.cond (.tmp 30) .skip (.exit 0)))
 (.seq (.block 1 (.reg fun c t l h k => bO (bin Pg .add 9 true (g6 t) (.str ⟨5, 417156326764⟩)) fun v0 => cl c 13 [(g7 t)] t l h fun v1 l1 h1 => bO (bin Pg .add 9 false v0 v1) fun v2 => bO (bin Pg .add 9 true v2 (.str ⟨5, 173528857888⟩)) fun v3 => cl c 13 [(g7 t)] t l1 h1 fun v4 l4 h4 => bO (bin Pg .add 9 false v3 v4) fun v5 => bO (bin Pg .add 9 true v5 (.str ⟨5, 139291336745⟩)) fun v6 => k (p6 t v6) l4 h4))
 (.reg fun c t l h k => bO (bin Pg .add 3 true (g7 t) (I 1)) fun v0 => k (p7 t v0) l h))))))
 (.seq (.reg fun c t l h k => bO (bin Pg .add 9 true (g6 t) (.str ⟨9, 1092637482316818572065⟩)) fun v0 => cl c 8 [v0] t l h fun v1 l1 h1 => bO (ext v1 0) fun v2 => bO (ext v1 1) fun v3 => k (p9 (p8 t v2) v3) l1 h1)
 (.seq (.reg fun c t l h k => cl c 9 [(g8 t), (I 1)] t l h fun v0 l0 h0 => bO (ext v0 0) fun v1 => bO (ext v0 1) fun v2 => bO (ext v0 2) fun v3 => al Pg 31 10 l0 fun v4 l4 => jn (fun v5 l5 h5 => k (p12 (p11 (p10 t v4) v2) v3) l5 h5) fun j5 => sto 31 v4 v1 l4 h0 j5 (gn Tryz.f4 4 11 7 c (p52 (p10 t v4) v1) t l4 h0 j5))
 (.seq (.reg fun c t l h k => cl c 10 [(g8 t), (I 1)] t l h fun v0 l0 h0 => bO (ext v0 0) fun v1 => bO (ext v0 1) fun v2 => bO (ext v0 2) fun v3 => al Pg 31 13 l0 fun v4 l4 => jn (fun v5 l5 h5 => k (p15 (p14 (p13 t v4) v2) v3) l5 h5) fun j5 => sto 31 v4 v1 l4 h0 j5 (gn Tryz.f4 4 12 7 c (p58 (p13 t v4) v1) t l4 h0 j5))
 (.seq (.reg fun c t l h k => jn (fun v0 l0 h0 => jn (fun v1 l1 h1 => jn (fun v2 l2 h2 => bO (pick (g9 t) v2 (.bool false)) fun v3 => jn (fun v4 l4 h4 => jn (fun v5 l5 h5 => jn (fun v6 l6 h6 => bO (pick v3 v6 (.bool false)) fun v7 => jn (fun v8 l8 h8 => jn (fun v9 l9 h9 => jn (fun v10 l10 h10 => bO (pick v7 v10 (.bool false)) fun v11 => k (p4 t v11) l10 h10) fun j10 => brB (wv v7 true) (j10 (.tuple []) l9 h9) (cl c 12 [v8, v9] t l9 h9 fun v11 l11 h11 => j10 v11 l11 h11)) fun j9 => brB (wv v7 true) (j9 (.tuple []) l8 h8) (j9 (g14 t) l8 h8)) fun j8 => brB (wv v7 true) (j8 (.tuple []) l6 h6) (j8 (g11 t) l6 h6)) fun j6 => brB (wv v3 true) (j6 (.tuple []) l5 h5) (cl c 11 [v4, v5] t l5 h5 fun v7 l7 h7 => j6 v7 l7 h7)) fun j5 => brB (wv v3 true) (j5 (.tuple []) l4 h4) (bO (ld Pg 31 (g13 t) l4 h4) fun v6 => j5 v6 l4 h4)) fun j4 => brB (wv v3 true) (j4 (.tuple []) l2 h2) (bO (ld Pg 31 (g10 t) l2 h2) fun v5 => j4 v5 l2 h2)) fun j2 => brB (wv (g9 t) true) (j2 (.tuple []) l1 h1) (bO (bin Pg .eql 3 false v0 v1) fun v3 => j2 v3 l1 h1)) fun j1 => brB (wv (g9 t) true) (j1 (.tuple []) l0 h0) (j1 (g15 t) l0 h0)) fun j0 => brB (wv (g9 t) true) (j0 (.tuple []) l h) (j0 (g12 t) l h))
 .ret))))))))))

def kp5 : List Nat := [0, 1, 2, 6, 7, 8, 9, 10, 11, 12, 13, 14, 15, 16, 17, 18, 19, 20, 22, 33, 45, 60]
def rc5 : RC := (.seq (.reg fun c t l h k => k (p6 t (.bool false)) l h)
 (.seq (.seq (.reg fun c t l h k => cl c 6 [] t l h fun v0 l0 h0 => bO (G.un .not v0) fun v1 => k (p22 t v1) l0 h0)
 (.cond (.tmp 22) (.seq (.reg fun c t l h k => k (p6 t (.bool false)) l h)
 .ret) .skip))
 (.seq (.reg fun c t l h k => cl c 7 [(g0 t), (I 4)] t l h fun v0 l0 h0 => bO (bin Pg .add 3 true (I 1) v0) fun v1 => k (p0 t v1) l0 h0)
 (.seq (.reg fun c t l h k => bO (bs Pg 24 4 [(0, (.str ⟨4, 1701999952⟩)), (1, (.str ⟨5, 435744240723⟩)), (2, (.str ⟨3, 7239749⟩)), (3, (.str ⟨3, 7105601⟩))]) fun v0 => cl c 7 [(g2 t), (I 4)] t l h fun v1 l1 h1 => bO (ia Pg 24 v0 v1) fun v2 => bO (ld Pg 9 v2 l1 h1) fun v3 => k (p7 t v3) l1 h1)
 (.seq (.reg fun c t l h k => k (p10 (p9 (p8 t (.str ⟨0, 0⟩)) (.str ⟨0, 0⟩)) (.str ⟨0, 0⟩)) l h)
 (.seq (.seq (.reg fun c t l h k => k (p11 t (I 0)) l h)
 (.block 0 (.loop (.seq (.seq (.reg fun c t l h k => bO (bin Pg .lss 3 false (g11 t) (g0 t)) fun v0 => k (p33 t v0) l h)
 (.cond (.tmp 33) .skip (.exit 0)))
 (.seq (.block 1 (.seq (.reg fun c t l h k => cl c 13 [(g11 t)] t l h fun v0 l0 h0 => bO (bin Pg .add 9 true (.str ⟨1, 120⟩) v0) fun v1 => k (p12 t v1) l0 h0)
 (.seq (.reg fun c t l h k => bO (bin Pg .add 9 true (g8 t) (.str ⟨2, 10272⟩)) fun v0 => bO (bin Pg .add 9 false v0 (g12 t)) fun v1 => bO (bin Pg .add 9 true v1 (.str ⟨7, 11668491604081184⟩)) fun v2 => k (p8 t v2) l h)
 (.seq (.seq (.reg fun c t l h k => bO (bin Pg .gtr 3 true (g11 t) (I 0)) fun v0 => k (p45 t v0) l h)
 (.cond (.tmp 45) (.reg fun c t l h k => bO (bin Pg .add 9 true (g9 t) (.str ⟨2, 8236⟩)) fun v0 => bO (bin Pg .add 9 true (g10 t) (.str ⟨2, 8236⟩)) fun v1 => k (p10 (p9 t v0) v1) l h) .skip))
 (.seq (.reg fun c t l h k => bO (bin Pg .add 9 false (g10 t) (g12 t)) fun v0 => k (p10 t v0) l h)
 (.seq (.reg fun c t l h k => bO (bin Pg .add 9 false (g9 t) (g12 t)) fun v0 => k (p9 t v0) l h)
 (.seq (.reg fun c t l h k => cl c 7 [(g1 t), (g0 t)] t l h fun v0 l0 h0 => bO (bin Pg .eql 3 false (g11 t) v0) fun v1 => k (p60 t v1) l0 h0)
 (.cond (.tmp 60) (.reg fun c t l h k => bO (bin Pg .add 9 true (g9 t) (.str ⟨4, 824192288⟩)) fun v0 => k (p9 t v0) l h) .skip))))))))
 (.reg fun c t l h k => bO (bin Pg .add 3 true (g11 t) (I 1)) fun v0 => k (p11 t v0) l h))))))
 (.seq (.reg fun c t l h k => bO (bin Pg .add 9 true (.str ⟨9, 1883901716091127489900⟩) (g8 t)) fun v0 => bO (bin Pg .add 9 true v0 (.str ⟨3, 2112032⟩)) fun v1 => bO (bin Pg .add 9 false v1 (g7 t)) fun v2 => bO (bin Pg .add 9 true v2 (.str ⟨15, 168494014330469369972963807681472800⟩)) fun v3 => bO (bin Pg .add 9 false v3 (g10 t)) fun v4 => bO (bin Pg .add 9 true v4 (.str ⟨29, 1089153047497944002421368212735091640777249051138804117363814305065248⟩)) fun v5 => bO (bin Pg .add 9 false v5 (g9 t)) fun v6 => bO (bin Pg .add 9 true v6 (.str ⟨3, 3881769⟩)) fun v7 => cl c 8 [v7] t l h fun v8 l8 h8 => bO (ext v8 0) fun v9 => bO (ext v8 1) fun v10 => k (p14 (p13 t v9) v10) l8 h8)
 (.seq (.reg fun c t l h k => cl c 9 [(g13 t), (I 0)] t l h fun v0 l0 h0 => bO (ext v0 0) fun v1 => bO (ext v0 1) fun v2 => bO (ext v0 2) fun v3 => al Pg 31 15 l0 fun v4 l4 => jn (fun v5 l5 h5 => k (p17 (p16 (p15 t v4) v2) v3) l5 h5) fun j5 => sto 31 v4 v1 l4 h0 j5 (gn Tryz.f5 5 18 7 c (p82 (p15 t v4) v1) t l4 h0 j5))
 (.seq (.reg fun c t l h k => cl c 10 [(g13 t), (I 0)] t l h fun v0 l0 h0 => bO (ext v0 0) fun v1 => bO (ext v0 1) fun v2 => bO (ext v0 2) fun v3 => al Pg 31 18 l0 fun v4 l4 => jn (fun v5 l5 h5 => k (p20 (p19 (p18 t v4) v2) v3) l5 h5) fun j5 => sto 31 v4 v1 l4 h0 j5 (gn Tryz.f5 5 19 7 c (p88 (p18 t v4) v1) t l4 h0 j5))
 (.seq (.reg fun c t l h k => jn (fun v0 l0 h0 => jn (fun v1 l1 h1 => jn (fun v2 l2 h2 => bO (pick (g14 t) v2 (.bool false)) fun v3 => jn (fun v4 l4 h4 => jn (fun v5 l5 h5 => jn (fun v6 l6 h6 => bO (pick v3 v6 (.bool false)) fun v7 => jn (fun v8 l8 h8 => jn (fun v9 l9 h9 => jn (fun v10 l10 h10 => bO (pick v7 v10 (.bool false)) fun v11 => k (p6 t v11) l10 h10) fun j10 => brB (wv v7 true) (j10 (.tuple []) l9 h9) (cl c 12 [v8, v9] t l9 h9 fun v11 l11 h11 => j10 v11 l11 h11)) fun j9 => brB (wv v7 true) (j9 (.tuple []) l8 h8) (j9 (g19 t) l8 h8)) fun j8 => brB (wv v7 true) (j8 (.tuple []) l6 h6) (j8 (g16 t) l6 h6)) fun j6 => brB (wv v3 true) (j6 (.tuple []) l5 h5) (cl c 11 [v4, v5] t l5 h5 fun v7 l7 h7 => j6 v7 l7 h7)) fun j5 => brB (wv v3 true) (j5 (.tuple []) l4 h4) (bO (ld Pg 31 (g18 t) l4 h4) fun v6 => j5 v6 l4 h4)) fun j4 => brB (wv v3 true) (j4 (.tuple []) l2 h2) (bO (ld Pg 31 (g15 t) l2 h2) fun v5 => j4 v5 l2 h2)) fun j2 => brB (wv (g14 t) true) (j2 (.tuple []) l1 h1) (bO (bin Pg .eql 3 false v0 v1) fun v3 => j2 v3 l1 h1)) fun j1 => brB (wv (g14 t) true) (j1 (.tuple []) l0 h0) (j1 (g20 t) l0 h0)) fun j0 => brB (wv (g14 t) true) (j0 (.tuple []) l h) (j0 (g17 t) l h))
 .ret))))))))))

def kp6 : List Nat := [0, 1, 2, 3, 4, 5]
def rc6 : RC := (.seq (.reg fun c t l h k => k (p0 t (.bool false)) l h)
 (.seq (.reg fun c t l h k => cl c 8 [(.str ⟨54, 2566071938429717572083751096160603454468598382496993043384542121843799202159372388330353134064570016472876593163762891002647700844⟩)] t l h fun v0 l0 h0 => bO (ext v0 0) fun v1 => bO (ext v0 1) fun v2 => k (p2 (p1 t v1) v2) l0 h0)
 (.seq (.reg fun c t l h k => cl c 9 [(g1 t), (I 0)] t l h fun v0 l0 h0 => bO (ext v0 0) fun v1 => bO (ext v0 1) fun v2 => bO (ext v0 2) fun v3 => al Pg 31 3 l0 fun v4 l4 => jn (fun v5 l5 h5 => k (p5 (p4 (p3 t v4) v2) v3) l5 h5) fun j5 => sto 31 v4 v1 l4 h0 j5 (gn Tryz.f6 6 2 7 c (p13 (p3 t v4) v1) t l4 h0 j5))
 (.seq (.reg fun c t l h k => jn (fun v0 l0 h0 => jn (fun v1 l1 h1 => bO (pick (g2 t) v1 (.bool false)) fun v2 => jn (fun v3 l3 h3 => jn (fun v4 l4 h4 => jn (fun v5 l5 h5 => bO (pick v2 v5 (.bool false)) fun v6 => jn (fun v7 l7 h7 => jn (fun v8 l8 h8 => jn (fun v9 l9 h9 => bO (pick v6 v9 (.bool false)) fun v10 => k (p0 t v10) l9 h9) fun j9 => brB (wv v6 true) (j9 (.tuple []) l8 h8) (bO (bin Pg .eql 9 true v8 (.str ⟨32, 18617551603701411612178884074553561884218060091341724874451252915939850468648⟩)) fun v10 => j9 v10 l8 h8)) fun j8 => brB (wv v6 true) (j8 (.tuple []) l7 h7) (cl c 14 [v7] t l7 h7 fun v9 l9 h9 => j8 v9 l9 h9)) fun j7 => brB (wv v6 true) (j7 (.tuple []) l5 h5) (bO (ld Pg 31 (g3 t) l5 h5) fun v8 => j7 v8 l5 h5)) fun j5 => brB (wv v2 true) (j5 (.tuple []) l4 h4) (bO (bin Pg .eql 3 true v4 (I 2)) fun v6 => j5 v6 l4 h4)) fun j4 => brB (wv v2 true) (j4 (.tuple []) l3 h3) (bO (len (Pg.underlying 32) v3) fun v5 => j4 v5 l3 h3)) fun j3 => brB (wv v2 true) (j3 (.tuple []) l1 h1) (j3 (g4 t) l1 h1)) fun j1 => brB (wv (g2 t) true) (j1 (.tuple []) l0 h0) (bO (bin Pg .eql 3 true v0 (I 0)) fun v2 => j1 v2 l0 h0)) fun j0 => brB (wv (g2 t) true) (j0 (.tuple []) l h) (j0 (g5 t) l h))
 .ret))))

def kp7 : List Nat := [0, 1, 4, 9]
def rc7 : RC := (.seq (.reg fun c t l h k => k (p4 t (I 0)) l h)
 (.seq (.reg fun c t l h k => bO (bin Pg .rem 3 false (g0 t) (g1 t)) fun v0 => k (p0 t v0) l h)
 (.seq (.seq (.reg fun c t l h k => bO (bin Pg .lss 3 true (g0 t) (I 0)) fun v0 => k (p9 t v0) l h)
 (.cond (.tmp 9) (.reg fun c t l h k => bO (bin Pg .add 3 false (g0 t) (g1 t)) fun v0 => k (p0 t v0) l h) .skip))
 (.seq (.reg fun c t l h k => k (p4 t (g0 t)) l h)
 .ret))))

def kp8 : List Nat := [0, 2, 3, 4, 5, 7, 14]
def rc8 : RC := (.seq (.reg fun c t l h k => k (p3 (p2 t .nils) (.bool false)) l h)
 (.seq (.reg fun c t l h k => cl c 15 [(g0 t)] t l h fun v0 l0 h0 => bO (ext v0 0) fun v1 => bO (ext v0 1) fun v2 => k (p5 (p4 t v1) v2) l0 h0)
 (.seq (.seq (.reg fun c t l h k => bO (G.un .not (g5 t)) fun v0 => k (p14 t v0) l h)
 (.cond (.tmp 14) (.seq (.reg fun c t l h k => k (p3 (p2 t .nils) (.bool false)) l h)
 .ret) .skip))
 (.seq (.reg fun c t l h k => cl c 16 [(g4 t)] t l h fun v0 l0 h0 => bO (ext v0 0) fun v1 => bO (ext v0 1) fun v2 => k (p7 t v2) l0 h0)
 (.seq (.reg fun c t l h k => bO (bin Pg .eql 3 true (g7 t) (I 0)) fun v0 => k (p3 (p2 t (g4 t)) v0) l h)
 .ret)))))

def kp9 : List Nat := [0, 1, 2, 3, 4, 5, 6, 7, 8, 9, 17]
def rc9 : RC := (.seq (.reg fun c t l h k => gn Tryz.f9 9 0 0 c (p0 t (g0 t)) t l h (fun v0 l0 h0 => gn Tryz.f9 9 0 1 c (p1 t (g1 t)) t l0 h0 (fun v1 l1 h1 => al Pg 31 4 l1 fun v2 l2 => k (p6 (p5 (p4 (p3 (p2 t v0) v1) v2) .nils) (I 0)) l2 h1)))
 (.seq (.reg fun c t l h k => bO (ld Pg 25 (g2 t) l h) fun v0 => bO (ld Pg 3 (g3 t) l h) fun v1 => cl c 17 [v0, v1] t l h fun v2 l2 h2 => bO (ext v2 0) fun v3 => bO (ext v2 1) fun v4 => gn Tryz.f9 9 1 6 c t t l2 h2 (fun v5 l5 h5 => jn (fun v6 l6 h6 => k (p8 (p7 t v5) v4) l6 h6) fun j6 => sto 53 v5 v3 l5 h5 j6 (gn Tryz.f9 9 1 7 c (p14 (p7 t v5) v3) t l5 h5 j6)))
 (.seq (.seq (.reg fun c t l h k => bO (G.un .not (g8 t)) fun v0 => k (p17 t v0) l h)
 (.cond (.tmp 17) (.seq (.reg fun c t l h k => gn Tryz.f9 9 3 0 c t t l h (fun v0 l0 h0 => jn (fun v1 l1 h1 => k (p6 (p5 t .nils) (I 0)) l1 h1) fun j1 => sto 31 (g4 t) v0 l0 h0 j1 (gn Tryz.f9 9 3 1 c (p18 (p4 t (g4 t)) v0) t l0 h0 j1)))
 .ret) .skip))
 (.seq (.reg fun c t l h k => gn Tryz.f9 9 4 0 c (p7 (p3 (p2 t (g2 t)) (g3 t)) (g7 t)) t l h (fun v0 l0 h0 => cl c 18 [v0] t l0 h0 fun v1 l1 h1 => al Pg 57 9 l1 fun v2 l2 => jn (fun v3 l3 h3 => k (p9 t v2) l3 h3) fun j3 => sto 57 v2 v1 l2 h1 j3 (gn Tryz.f9 9 4 3 c (p20 (p9 t v2) v1) t l2 h1 j3)))
 (.seq (.reg fun c t l h k => bO (fa Pg 57 (g9 t) 0) fun v0 => bO (ld Pg 31 v0 l h) fun v1 => bO (fa Pg 57 (g9 t) 1) fun v2 => bO (ld Pg 32 v2 l h) fun v3 => bO (fa Pg 57 (g9 t) 2) fun v4 => bO (ld Pg 33 v4 l h) fun v5 => jE ((26, v5) :: (25, v4) :: (24, v3) :: (23, v2) :: (22, v1) :: (21, v0) :: []) fun e6 => jF ((ldF v4) :: ft0 :: (ldF v2) :: ft0 :: (ldF v0) :: ft0 :: []) fun q6 => gD Tryz.f9 9 5 6 c (p22 (p4 t (g4 t)) v1) l h (fun v6 f6 l6 h6 => finD (rgA Tryz.f9 5).toList [(3, 6), (5, 6)] [(3, 6), (5, 6)] (ft0 :: ft0 :: f6 :: q6) (k (p6 (p5 t v3) v5) l6 h6)) (sD Tryz.f9 9 5 c 6 none e6 q6 t l h))
 .ret)))))

def kp10 : List Nat := [0, 1, 4, 5, 6, 7, 8, 9]
def rc10 : RC := (.seq (.reg fun c t l h k => al Pg 31 4 l fun v0 l0 => k (p6 (p5 (p4 t v0) .nils) (I 0)) l0 h)
 (.seq (.reg fun c t l h k => cl c 23 [(g0 t), (g1 t)] t l h fun v0 l0 h0 => bO (ext v0 0) fun v1 => bO (ext v0 1) fun v2 => bO (ext v0 2) fun v3 => al Pg 74 7 l0 fun v4 l4 => jn (fun v5 l5 h5 => k (p9 (p8 (p7 t v4) v2) v3) l5 h5) fun j5 => sto 74 v4 v1 l4 h0 j5 (gn Tryz.f10 10 1 8 c (p14 (p7 t v4) v1) t l4 h0 j5))
 (.seq (.reg fun c t l h k => bO (fa Pg 74 (g7 t) 0) fun v0 => bO (ld Pg 31 v0 l h) fun v1 => jn (fun v2 l2 h2 => k (p6 (p5 t (g8 t)) (g9 t)) l2 h2) fun j2 => sto 31 (g4 t) v1 l h j2 (gn Tryz.f10 10 2 4 c (p18 (p4 t (g4 t)) v1) t l h j2))
 .ret)))

def kp11 : List Nat := [0, 1, 2, 3, 4, 5, 18, 20, 21, 28, 35, 49, 57, 62, 75]
def rc11 : RC := (.seq (.reg fun c t l h k => gn Tryz.f11 11 0 0 c (p0 t (g0 t)) t l h (fun v0 l0 h0 => gn Tryz.f11 11 0 1 c (p1 t (g1 t)) t l0 h0 (fun v1 l1 h1 => k (p4 (p3 (p2 t v0) v1) (.bool false)) l1 h1)))
 (.seq (.seq (.reg fun c t l h k => bO (fa Pg 31 (g2 t) 0) fun v0 => bO (ld Pg 3 v0 l h) fun v1 => bO (fa Pg 31 (g3 t) 0) fun v2 => bO (ld Pg 3 v2 l h) fun v3 => bO (bin Pg .neq 3 false v1 v3) fun v4 => jn (fun v5 l5 h5 => jn (fun v6 l6 h6 => jn (fun v7 l7 h7 => jn (fun v8 l8 h8 => jn (fun v9 l9 h9 => jn (fun v10 l10 h10 => bO (pick v4 (.bool true) v10) fun v11 => k (p18 t v11) l10 h10) fun j10 => brB (wv v4 false) (j10 (.tuple []) l9 h9) (bO (G.un .not v9) fun v11 => j10 v11 l9 h9)) fun j9 => brB (wv v4 false) (j9 (.tuple []) l8 h8) (cl c 24 [v6, v8] t l8 h8 fun v10 l10 h10 => j9 v10 l10 h10)) fun j8 => brB (wv v4 false) (j8 (.tuple []) l7 h7) (bO (ld Pg 28 v7 l7 h7) fun v9 => j8 v9 l7 h7)) fun j7 => brB (wv v4 false) (j7 (.tuple []) l6 h6) (bO (fa Pg 31 (g3 t) 4) fun v8 => j7 v8 l6 h6)) fun j6 => brB (wv v4 false) (j6 (.tuple []) l5 h5) (bO (ld Pg 28 v5 l5 h5) fun v7 => j6 v7 l5 h5)) fun j5 => brB (wv v4 false) (j5 (.tuple []) l h) (bO (fa Pg 31 (g2 t) 4) fun v6 => j5 v6 l h))
 (.cond (.tmp 18) (.seq (.reg fun c t l h k => k (p4 t (.bool false)) l h)
 .ret) .skip))
 (.seq (.seq (.reg fun c t l h k => bO (fa Pg 31 (g2 t) 0) fun v0 => bO (ld Pg 3 v0 l h) fun v1 => k (p20 t v1) l h)
 (.block 0 (.seq (.reg fun c t l h k => bO (bin Pg .eql 3 true (g20 t) (I 1)) fun v0 => k (p21 t v0) l h)
 (.cond (.tmp 21) (.seq (.reg fun c t l h k => bO (fa Pg 31 (g2 t) 3) fun v0 => bO (ld Pg 9 v0 l h) fun v1 => bO (fa Pg 31 (g3 t) 3) fun v2 => bO (ld Pg 9 v2 l h) fun v3 => bO (bin Pg .eql 9 false v1 v3) fun v4 => k (p4 t v4) l h)
 .ret) (.seq (.reg fun c t l h k => bO (bin Pg .eql 3 true (g20 t) (I 17)) fun v0 => k (p28 t v0) l h)
 (.cond (.tmp 28) (.seq (.reg fun c t l h k => bO (fa Pg 31 (g2 t) 1) fun v0 => bO (ld Pg 9 v0 l h) fun v1 => bO (fa Pg 31 (g3 t) 1) fun v2 => bO (ld Pg 9 v2 l h) fun v3 => bO (bin Pg .eql 9 false v1 v3) fun v4 => k (p4 t v4) l h)
 .ret) (.seq (.reg fun c t l h k => bO (bin Pg .eql 3 true (g20 t) (I 18)) fun v0 => k (p35 t v0) l h)
 (.cond (.tmp 35) (.seq (.reg fun c t l h k => bO (fa Pg 31 (g2 t) 1) fun v0 => bO (ld Pg 9 v0 l h) fun v1 => bO (fa Pg 31 (g3 t) 1) fun v2 => bO (ld Pg 9 v2 l h) fun v3 => bO (bin Pg .eql 9 false v1 v3) fun v4 => jn (fun v5 l5 h5 => jn (fun v6 l6 h6 => jn (fun v7 l7 h7 => jn (fun v8 l8 h8 => jn (fun v9 l9 h9 => bO (pick v4 v9 (.bool false)) fun v10 => k (p4 t v10) l9 h9) fun j9 => brB (wv v4 true) (j9 (.tuple []) l8 h8) (bO (bin Pg .eql 3 false v6 v8) fun v10 => j9 v10 l8 h8)) fun j8 => brB (wv v4 true) (j8 (.tuple []) l7 h7) (bO (ld Pg 3 v7 l7 h7) fun v9 => j8 v9 l7 h7)) fun j7 => brB (wv v4 true) (j7 (.tuple []) l6 h6) (bO (fa Pg 31 (g3 t) 2) fun v8 => j7 v8 l6 h6)) fun j6 => brB (wv v4 true) (j6 (.tuple []) l5 h5) (bO (ld Pg 3 v5 l5 h5) fun v7 => j6 v7 l5 h5)) fun j5 => brB (wv v4 true) (j5 (.tuple []) l h) (bO (fa Pg 31 (g2 t) 2) fun v6 => j5 v6 l h))
 .ret) (.seq (.reg fun c t l h k => bO (bin Pg .eql 3 true (g20 t) (I 19)) fun v0 => k (p49 t v0) l h)
 (.cond (.tmp 49) (.seq (.seq (.reg fun c t l h k => bO (fa Pg 31 (g2 t) 5) fun v0 => bO (ld Pg 29 v0 l h) fun v1 => bO (len (Pg.underlying 29) v1) fun v2 => bO (fa Pg 31 (g3 t) 5) fun v3 => bO (ld Pg 29 v3 l h) fun v4 => bO (len (Pg.underlying 29) v4) fun v5 => bO (bin Pg .neq 3 false v2 v5) fun v6 => k (p57 t v6) l h)
 (.cond (.tmp 57) (.seq (.reg fun c t l h k => k (p4 t (.bool false)) l h)
 .ret) .skip))
 (.seq (.seq (.reg fun c t l h k => k (p5 t (I 0)) l h)
 (.block 1 (.loop (.seq (.seq (.reg fun c t l h k => bO (fa Pg 31 (g2 t) 5) fun v0 => bO (ld Pg 29 v0 l h) fun v1 => bO (len (Pg.underlying 29) v1) fun v2 => bO (bin Pg .lss 3 false (g5 t) v2) fun v3 => k (p62 t v3) l h)
 (.cond (.tmp 62) .skip (.exit 1)))
 (.seq (.block 2 (.seq (.reg fun c t l h k => bO (fa Pg 31 (g2 t) 5) fun v0 => bO (ld Pg 29 v0 l h) fun v1 => bO (ia Pg 29 v1 (g5 t)) fun v2 => bO (ld Pg 79 v2 l h) fun v3 => bO (fa Pg 31 (g3 t) 5) fun v4 => bO (ld Pg 29 v4 l h) fun v5 => bO (ia Pg 29 v5 (g5 t)) fun v6 => bO (ld Pg 79 v6 l h) fun v7 => bO (bin Pg .neq 79 false v3 v7) fun v8 => k (p75 t v8) l h)
 (.cond (.tmp 75) (.seq (.reg fun c t l h k => k (p4 t (.bool false)) l h)
 .ret) .skip)))
 (.reg fun c t l h k => bO (bin Pg .add 3 true (g5 t) (I 1)) fun v0 => k (p5 t v0) l h))))))
 (.seq (.reg fun c t l h k => bO (fa Pg 31 (g2 t) 6) fun v0 => bO (ld Pg 28 v0 l h) fun v1 => bO (fa Pg 31 (g3 t) 6) fun v2 => bO (ld Pg 28 v2 l h) fun v3 => cl c 24 [v1, v3] t l h fun v4 l4 h4 => k (p4 t v4) l4 h4)
 .ret))) .skip))))))))))
 (.seq (.reg fun c t l h k => k (p4 t (.bool true)) l h)
 .ret))))

def kp12 : List Nat := [0, 1, 4, 5, 10, 14, 54]
def rc12 : RC := (.seq (.reg fun c t l h k => k (p4 t (.bool false)) l h)
 (.seq (.seq (.reg fun c t l h k => bO (len (Pg.underlying 32) (g0 t)) fun v0 => bO (len (Pg.underlying 32) (g1 t)) fun v1 => bO (bin Pg .neq 3 false v0 v1) fun v2 => k (p10 t v2) l h)
 (.cond (.tmp 10) (.seq (.reg fun c t l h k => k (p4 t (.bool false)) l h)
 .ret) .skip))
 (.seq (.seq (.reg fun c t l h k => k (p5 t (I 0)) l h)
 (.block 0 (.loop (.seq (.seq (.reg fun c t l h k => bO (len (Pg.underlying 32) (g0 t)) fun v0 => bO (bin Pg .lss 3 false (g5 t) v0) fun v1 => k (p14 t v1) l h)
 (.cond (.tmp 14) .skip (.exit 0)))
 (.seq (.block 1 (.seq (.reg fun c t l h k => bO (ia Pg 32 (g0 t) (g5 t)) fun v0 => bO (fa Pg 82 v0 0) fun v1 => bO (ld Pg 9 v1 l h) fun v2 => bO (ia Pg 32 (g1 t) (g5 t)) fun v3 => bO (fa Pg 82 v3 0) fun v4 => bO (ld Pg 9 v4 l h) fun v5 => bO (bin Pg .neq 9 false v2 v5) fun v6 => jn (fun v7 f7 l7 h7 => jn (fun v8 f8 l8 h8 => jn (fun v9 f9 l9 h9 => jn (fun v10 f10 l10 h10 => jn (fun v11 f11 l11 h11 => jn (fun v12 f12 l12 h12 => jn (fun v13 f13 l13 h13 => jn (fun v14 f14 l14 h14 => jn (fun v15 f15 l15 h15 => jn (fun v16 f16 l16 h16 => jn (fun v17 f17 l17 h17 => bO (pick v6 (.bool true) v17) fun v18 => jn (fun v19 f19 l19 h19 => jn (fun v20 f20 l20 h20 => jn (fun v21 f21 l21 h21 => jn (fun v22 f22 l22 h22 => jn (fun v23 f23 l23 h23 => jn (fun v24 f24 l24 h24 => jn (fun v25 f25 l25 h25 => jn (fun v26 f26 l26 h26 => jn (fun v27 f27 l27 h27 => jn (fun v28 f28 l28 h28 => jn (fun v29 f29 l29 h29 => jn (fun v30 f30 l30 h30 => bO (pick v18 (.bool true) v30) fun v31 => finD (rgA Tryz.f12 6).toList [] [] (ft0 :: f30 :: f29 :: f28 :: f27 :: f26 :: f25 :: f24 :: f23 :: f22 :: f21 :: f20 :: f19 :: ft0 :: ft0 :: f17 :: f16 :: f15 :: f14 :: f13 :: f12 :: f11 :: f10 :: f9 :: f8 :: f7 :: ft0 :: ft0 :: (ldF v4) :: ft0 :: ft0 :: ft0 :: ft0 :: (ldF v1) :: ft0 :: ft0 :: ft0 :: ft0 :: []) (k (p54 t v31) l30 h30)) fun j30 => brB (wv v18 false) (j30 (.tuple []) ft0 l29 h29) (bO (G.un .not v29) fun v31 => j30 v31 ft0 l29 h29)) fun j29 => brB (wv v18 false) (j29 (.tuple []) ft0 l28 h28) (jE ((51, v28) :: (50, v27) :: (49, v26) :: (48, v25) :: (47, v24) :: (46, v23) :: (45, v22) :: (44, v21) :: (43, v20) :: (42, v19) :: (41, v18) :: (40, v18) :: (39, v17) :: (38, v16) :: (37, v15) :: (36, v14) :: (35, v13) :: (34, v12) :: (33, v11) :: (32, v10) :: (31, v9) :: (30, v8) :: (29, v7) :: (28, v6) :: (27, v6) :: (26, v5) :: (25, v4) :: (24, v3) :: (23, (g5 t)) :: (22, (g1 t)) :: (21, v2) :: (20, v1) :: (19, v0) :: (18, (g5 t)) :: (17, (g0 t)) :: []) fun e30 => jF (f28 :: f27 :: f26 :: f25 :: f24 :: f23 :: f22 :: f21 :: f20 :: f19 :: ft0 :: ft0 :: f17 :: f16 :: f15 :: f14 :: f13 :: f12 :: f11 :: f10 :: f9 :: f8 :: f7 :: ft0 :: ft0 :: (ldF v4) :: ft0 :: ft0 :: ft0 :: ft0 :: (ldF v1) :: ft0 :: ft0 :: ft0 :: ft0 :: []) fun q30 => clD c 25 [v23, v28] l28 h28 (fun v30 f30 l30 h30 => j29 v30 f30 l30 h30) (sD Tryz.f12 12 6 c 35 (some 52) e30 q30 t l28 h28))) fun j28 => brB (wv v18 false) (j28 (.tuple []) ft0 l27 h27) (bO (ld Pg 80 v27 l27 h27) fun v29 => j28 v29 (ldF v27) l27 h27)) fun j27 => brB (wv v18 false) (j27 (.tuple []) ft0 l26 h26) (bO (fa Pg 82 v26 1) fun v28 => j27 v28 ft0 l26 h26)) fun j26 => brB (wv v18 false) (j26 (.tuple []) ft0 l25 h25) (bO (ia Pg 32 v24 v25) fun v27 => j26 v27 ft0 l25 h25)) fun j25 => brB (wv v18 false) (j25 (.tuple []) ft0 l24 h24) (j25 (g5 t) ft0 l24 h24)) fun j24 => brB (wv v18 false) (j24 (.tuple []) ft0 l23 h23) (j24 (g1 t) ft0 l23 h23)) fun j23 => brB (wv v18 false) (j23 (.tuple []) ft0 l22 h22) (bO (ld Pg 80 v22 l22 h22) fun v24 => j23 v24 (ldF v22) l22 h22)) fun j22 => brB (wv v18 false) (j22 (.tuple []) ft0 l21 h21) (bO (fa Pg 82 v21 1) fun v23 => j22 v23 ft0 l21 h21)) fun j21 => brB (wv v18 false) (j21 (.tuple []) ft0 l20 h20) (bO (ia Pg 32 v19 v20) fun v22 => j21 v22 ft0 l20 h20)) fun j20 => brB (wv v18 false) (j20 (.tuple []) ft0 l19 h19) (j20 (g5 t) ft0 l19 h19)) fun j19 => brB (wv v18 false) (j19 (.tuple []) ft0 l17 h17) (j19 (g0 t) ft0 l17 h17)) fun j17 => brB (wv v6 false) (j17 (.tuple []) ft0 l16 h16) (bO (bin Pg .neq 3 false v11 v16) fun v18 => j17 v18 ft0 l16 h16)) fun j16 => brB (wv v6 false) (j16 (.tuple []) ft0 l15 h15) (bO (ld Pg 3 v15 l15 h15) fun v17 => j16 v17 (ldF v15) l15 h15)) fun j15 => brB (wv v6 false) (j15 (.tuple []) ft0 l14 h14) (bO (fa Pg 82 v14 2) fun v16 => j15 v16 ft0 l14 h14)) fun j14 => brB (wv v6 false) (j14 (.tuple []) ft0 l13 h13) (bO (ia Pg 32 v12 v13) fun v15 => j14 v15 ft0 l13 h13)) fun j13 => brB (wv v6 false) (j13 (.tuple []) ft0 l12 h12) (j13 (g5 t) ft0 l12 h12)) fun j12 => brB (wv v6 false) (j12 (.tuple []) ft0 l11 h11) (j12 (g1 t) ft0 l11 h11)) fun j11 => brB (wv v6 false) (j11 (.tuple []) ft0 l10 h10) (bO (ld Pg 3 v10 l10 h10) fun v12 => j11 v12 (ldF v10) l10 h10)) fun j10 => brB (wv v6 false) (j10 (.tuple []) ft0 l9 h9) (bO (fa Pg 82 v9 2) fun v11 => j10 v11 ft0 l9 h9)) fun j9 => brB (wv v6 false) (j9 (.tuple []) ft0 l8 h8) (bO (ia Pg 32 v7 v8) fun v10 => j9 v10 ft0 l8 h8)) fun j8 => brB (wv v6 false) (j8 (.tuple []) ft0 l7 h7) (j8 (g5 t) ft0 l7 h7)) fun j7 => brB (wv v6 false) (j7 (.tuple []) ft0 l h) (j7 (g0 t) ft0 l h))
 (.cond (.tmp 54) (.seq (.reg fun c t l h k => k (p4 t (.bool false)) l h)
 .ret) .skip)))
 (.reg fun c t l h k => bO (bin Pg .add 3 true (g5 t) (I 1)) fun v0 => k (p5 t v0) l h))))))
 (.seq (.reg fun c t l h k => k (p4 t (.bool true)) l h)
 .ret))))

def kp13 : List Nat := [0, 2, 4, 10]
def rc13 : RC := (.seq (.reg fun c t l h k => k (p2 t (.str ⟨0, 0⟩)) l h)
 (.seq (.seq (.reg fun c t l h k => bO (bin Pg .lss 3 true (g0 t) (I 0)) fun v0 => k (p4 t v0) l h)
 (.cond (.tmp 4) (.seq (.reg fun c t l h k => bO (G.un .neg (g0 t)) fun v0 => cl c 13 [v0] t l h fun v1 l1 h1 => bO (bin Pg .add 9 true (.str ⟨1, 45⟩) v1) fun v2 => k (p2 t v2) l1 h1)
 .ret) .skip))
 (.seq (.seq (.reg fun c t l h k => bO (bin Pg .lss 3 true (g0 t) (I 10)) fun v0 => k (p10 t v0) l h)
 (.cond (.tmp 10) (.seq (.reg fun c t l h k => bO (bin Pg .add 3 true (g0 t) (I 1)) fun v0 => bO (slc Pg 9 (.str ⟨10, 270211885617516653982000⟩) (some (g0 t)) (some v0) none) fun v1 => k (p2 t v1) l h)
 .ret) .skip))
 (.seq (.reg fun c t l h k => bO (bin Pg .quo 3 true (g0 t) (I 10)) fun v0 => cl c 13 [v0] t l h fun v1 l1 h1 => bO (bin Pg .rem 3 true (g0 t) (I 10)) fun v2 => cl c 13 [v2] t l1 h1 fun v3 l3 h3 => bO (bin Pg .add 9 false v1 v3) fun v4 => k (p2 t v4) l3 h3)
 .ret))))

def kp14 : List Nat := [0, 1, 2, 3, 4, 5, 6, 7, 9, 17, 24, 35, 43, 45, 47, 51, 56, 61, 67, 71, 109]
def rc14 : RC := (.seq (.reg fun c t l h k => gn Tryz.f14 14 0 0 c (p0 t (g0 t)) t l h (fun v0 l0 h0 => k (p2 (p1 t v0) (.str ⟨0, 0⟩)) l0 h0))
 (.seq (.reg fun c t l h k => k (p3 t (.str ⟨1, 63⟩)) l h)
 (.seq (.seq (.reg fun c t l h k => bO (fa Pg 31 (g1 t) 0) fun v0 => bO (ld Pg 3 v0 l h) fun v1 => k (p9 t v1) l h)
 (.block 0 (.seq (.reg fun c t l h k => bO (bin Pg .eql 3 true (g9 t) (I 1)) fun v0 => k (p24 t v0) l h)
 (.cond (.tmp 24) (.seq (.seq (.reg fun c t l h k => bO (fa Pg 31 (g1 t) 3) fun v0 => bO (ld Pg 9 v0 l h) fun v1 => bO (len (Pg.underlying 9) v1) fun v2 => bO (bin Pg .gtr 3 true v2 (I 0)) fun v3 => jn (fun v4 l4 h4 => jn (fun v5 l5 h5 => jn (fun v6 l6 h6 => jn (fun v7 l7 h7 => bO (pick v3 v7 (.bool false)) fun v8 => k (p35 t v8) l7 h7) fun j7 => brB (wv v3 true) (j7 (.tuple []) l6 h6) (bO (bin Pg .eql 5 true v6 (.int .u8 (.ofNat 45))) fun v8 => j7 v8 l6 h6)) fun j6 => brB (wv v3 true) (j6 (.tuple []) l5 h5) (bO (idx Pg 9 v5 (I 0)) fun v7 => j6 v7 l5 h5)) fun j5 => brB (wv v3 true) (j5 (.tuple []) l4 h4) (bO (ld Pg 9 v4 l4 h4) fun v6 => j5 v6 l4 h4)) fun j4 => brB (wv v3 true) (j4 (.tuple []) l h) (bO (fa Pg 31 (g1 t) 3) fun v5 => j4 v5 l h))
 (.cond (.tmp 35) (.seq (.reg fun c t l h k => bO (fa Pg 31 (g1 t) 3) fun v0 => bO (ld Pg 9 v0 l h) fun v1 => bO (slc Pg 9 v1 (some (I 1)) none none) fun v2 => bO (bin Pg .add 9 true (.str ⟨3, 2108712⟩) v2) fun v3 => bO (bin Pg .add 9 true v3 (.str ⟨1, 41⟩)) fun v4 => k (p2 t v4) l h)
 .ret) .skip))
 (.seq (.reg fun c t l h k => bO (fa Pg 31 (g1 t) 3) fun v0 => bO (ld Pg 9 v0 l h) fun v1 => k (p2 t v1) l h)
 .ret)) (.seq (.reg fun c t l h k => bO (bin Pg .eql 3 true (g9 t) (I 2)) fun v0 => k (p43 t v0) l h)
 (.cond (.tmp 43) (.seq (.reg fun c t l h k => k (p2 t (.str ⟨4, 1702195828⟩)) l h)
 .ret) (.seq (.reg fun c t l h k => bO (bin Pg .eql 3 true (g9 t) (I 3)) fun v0 => k (p45 t v0) l h)
 (.cond (.tmp 45) (.seq (.reg fun c t l h k => k (p2 t (.str ⟨5, 435728179558⟩)) l h)
 .ret) (.seq (.reg fun c t l h k => bO (bin Pg .eql 3 true (g9 t) (I 18)) fun v0 => k (p47 t v0) l h)
 (.cond (.tmp 47) (.seq (.reg fun c t l h k => bO (fa Pg 31 (g1 t) 1) fun v0 => bO (ld Pg 9 v0 l h) fun v1 => k (p2 t v1) l h)
 .ret) (.seq (.reg fun c t l h k => bO (bin Pg .eql 3 true (g9 t) (I 17)) fun v0 => k (p51 t v0) l h)
 (.cond (.tmp 51) (.seq (.seq (.reg fun c t l h k => bO (fa Pg 31 (g1 t) 4) fun v0 => bO (ld Pg 28 v0 l h) fun v1 => bO (len (Pg.underlying 28) v1) fun v2 => bO (bin Pg .eql 3 true v2 (I 0)) fun v3 => k (p56 t v3) l h)
 (.cond (.tmp 56) (.seq (.reg fun c t l h k => bO (fa Pg 31 (g1 t) 1) fun v0 => bO (ld Pg 9 v0 l h) fun v1 => k (p2 t v1) l h)
 .ret) .skip))
 (.reg fun c t l h k => bO (fa Pg 31 (g1 t) 1) fun v0 => bO (ld Pg 9 v0 l h) fun v1 => k (p3 t v1) l h)) (.seq (.reg fun c t l h k => bO (bin Pg .eql 3 true (g9 t) (I 19)) fun v0 => k (p61 t v0) l h)
 (.cond (.tmp 61) (.seq (.reg fun c t l h k => k (p4 t (.str ⟨9, 740206124420868040232⟩)) l h)
 (.seq (.seq (.reg fun c t l h k => k (p5 t (I 0)) l h)
 (.block 1 (.loop (.seq (.seq (.reg fun c t l h k => bO (fa Pg 31 (g1 t) 5) fun v0 => bO (ld Pg 29 v0 l h) fun v1 => bO (len (Pg.underlying 29) v1) fun v2 => bO (bin Pg .lss 3 false (g5 t) v2) fun v3 => k (p67 t v3) l h)
 (.cond (.tmp 67) .skip (.exit 1)))
 (.seq (.block 2 (.seq (.seq (.reg fun c t l h k => bO (bin Pg .gtr 3 true (g5 t) (I 0)) fun v0 => k (p71 t v0) l h)
 (.cond (.tmp 71) (.reg fun c t l h k => bO (bin Pg .add 9 true (g4 t) (.str ⟨1, 32⟩)) fun v0 => k (p4 t v0) l h) .skip))
 (.reg fun c t l h k => bO (fa Pg 31 (g1 t) 5) fun v0 => bO (ld Pg 29 v0 l h) fun v1 => bO (ia Pg 29 v1 (g5 t)) fun v2 => bO (fa Pg 79 v2 0) fun v3 => bO (ld Pg 9 v3 l h) fun v4 => bO (bin Pg .add 9 false (g4 t) v4) fun v5 => bO (bin Pg .add 9 true v5 (.str ⟨1, 32⟩)) fun v6 => bO (fa Pg 31 (g1 t) 5) fun v7 => bO (ld Pg 29 v7 l h) fun v8 => bO (ia Pg 29 v8 (g5 t)) fun v9 => bO (fa Pg 79 v9 1) fun v10 => bO (ld Pg 3 v10 l h) fun v11 => jE ((88, v11) :: (87, v10) :: (86, v9) :: (85, (g5 t)) :: (84, v8) :: (83, v7) :: (82, v6) :: (81, v5) :: (80, v4) :: (79, v3) :: (78, v2) :: (77, (g5 t)) :: (76, v1) :: (75, v0) :: (74, (g4 t)) :: []) fun e12 => jF ((ldF v10) :: ft0 :: ft0 :: ft0 :: (ldF v7) :: ft0 :: ft0 :: ft0 :: (ldF v3) :: ft0 :: ft0 :: ft0 :: (ldF v0) :: ft0 :: ft0 :: []) fun q12 => clD c 26 [v11] l h (fun v12 f12 l12 h12 => bO (bin Pg .add 9 false v6 v12) fun v13 => finD (rgA Tryz.f14 26).toList [] [(2, 15), (6, 15)] (ft0 :: ft0 :: f12 :: q12) (k (p4 t v13) l12 h12)) (sD Tryz.f14 14 26 c 15 (some 89) e12 q12 t l h))))
 (.reg fun c t l h k => bO (bin Pg .add 3 true (g5 t) (I 1)) fun v0 => k (p5 t v0) l h))))))
 (.seq (.reg fun c t l h k => bO (bin Pg .add 9 true (g4 t) (.str ⟨11, 39207196780204254424473641⟩)) fun v0 => bO (fa Pg 31 (g1 t) 6) fun v1 => bO (ld Pg 28 v1 l h) fun v2 => jE ((94, v2) :: (93, v1) :: (92, v0) :: (91, (g4 t)) :: []) fun e3 => jF ((ldF v1) :: ft0 :: ft0 :: ft0 :: []) fun q3 => clD c 27 [v2] l h (fun v3 f3 l3 h3 => bO (bin Pg .add 9 false v0 v3) fun v4 => bO (bin Pg .add 9 true v4 (.str ⟨2, 8233⟩)) fun v5 => bO (fa Pg 31 (g1 t) 4) fun v6 => bO (ld Pg 28 v6 l3 h3) fun v7 => jE ((99, v7) :: (98, v6) :: (97, v5) :: (96, v4) :: (95, v3) :: e3) fun e8 => jF ((ldF v6) :: ft0 :: ft0 :: ft0 :: f3 :: q3) fun q8 => clD c 27 [v7] l3 h3 (fun v8 f8 l8 h8 => bO (bin Pg .add 9 false v5 v8) fun v9 => bO (bin Pg .add 9 true v9 (.str ⟨1, 41⟩)) fun v10 => finD (rgA Tryz.f14 27).toList [] [(4, 8)] (ft0 :: ft0 :: ft0 :: f8 :: q8) (k (p2 t v10) l8 h8)) (sD Tryz.f14 14 27 c 9 (some 100) e8 q8 t l3 h3)) (sD Tryz.f14 14 27 c 4 (some 95) e3 q3 t l h))
 .ret))) (.seq (.reg fun c t l h k => bO (fa Pg 31 (g1 t) 0) fun v0 => bO (ld Pg 3 v0 l h) fun v1 => bO (bin Pg .geq 3 true v1 (I 4)) fun v2 => jn (fun v3 l3 h3 => jn (fun v4 l4 h4 => jn (fun v5 l5 h5 => bO (pick v2 v5 (.bool false)) fun v6 => k (p17 t v6) l5 h5) fun j5 => brB (wv v2 true) (j5 (.tuple []) l4 h4) (bO (bin Pg .leq 3 true v4 (I 16)) fun v6 => j5 v6 l4 h4)) fun j4 => brB (wv v2 true) (j4 (.tuple []) l3 h3) (bO (ld Pg 3 v3 l3 h3) fun v5 => j4 v5 l3 h3)) fun j3 => brB (wv v2 true) (j3 (.tuple []) l h) (bO (fa Pg 31 (g1 t) 0) fun v4 => j3 v4 l h))
 (.cond (.tmp 17) (.reg fun c t l h k => bO (bs Pg 24 13 [(0, (.str ⟨3, 7630702⟩)), (1, (.str ⟨3, 6581857⟩)), (2, (.str ⟨2, 29295⟩)), (3, (.str ⟨2, 15933⟩)), (4, (.str ⟨3, 6710889⟩)), (5, (.str ⟨1, 61⟩)), (6, (.str ⟨2, 15676⟩)), (7, (.str ⟨1, 60⟩)), (8, (.str ⟨1, 43⟩)), (9, (.str ⟨1, 45⟩)), (10, (.str ⟨3, 6776174⟩)), (11, (.str ⟨1, 42⟩)), (12, (.str ⟨3, 6648937⟩))]) fun v0 => bO (fa Pg 31 (g1 t) 0) fun v1 => bO (ld Pg 3 v1 l h) fun v2 => bO (bin Pg .sub 3 true v2 (I 4)) fun v3 => bO (ia Pg 24 v0 v3) fun v4 => bO (ld Pg 9 v4 l h) fun v5 => k (p3 t v5) l h) .skip))))))))))))))))
 (.seq (.reg fun c t l h k => bO (bin Pg .add 9 true (.str ⟨1, 40⟩) (g3 t)) fun v0 => k (p6 t v0) l h)
 (.seq (.seq (.reg fun c t l h k => k (p7 t (I 0)) l h)
 (.block 3 (.loop (.seq (.seq (.reg fun c t l h k => bO (fa Pg 31 (g1 t) 4) fun v0 => bO (ld Pg 28 v0 l h) fun v1 => bO (len (Pg.underlying 28) v1) fun v2 => bO (bin Pg .lss 3 false (g7 t) v2) fun v3 => k (p109 t v3) l h)
 (.cond (.tmp 109) .skip (.exit 3)))
 (.seq (.block 4 (.reg fun c t l h k => bO (bin Pg .add 9 true (g6 t) (.str ⟨1, 32⟩)) fun v0 => bO (fa Pg 31 (g1 t) 4) fun v1 => bO (ld Pg 28 v1 l h) fun v2 => bO (ia Pg 28 v2 (g7 t)) fun v3 => bO (ld Pg 31 v3 l h) fun v4 => cl c 14 [v4] t l h fun v5 l5 h5 => bO (bin Pg .add 9 false v0 v5) fun v6 => k (p6 t v6) l5 h5))
 (.reg fun c t l h k => bO (bin Pg .add 3 true (g7 t) (I 1)) fun v0 => k (p7 t v0) l h))))))
 (.seq (.reg fun c t l h k => bO (bin Pg .add 9 true (g6 t) (.str ⟨1, 41⟩)) fun v0 => k (p2 t v0) l h)
 .ret))))))

def kp15 : List Nat := [0, 2, 3, 4, 5, 6, 8, 15]
def rc15 : RC := (.seq (.reg fun c t l h k => k (p3 (p2 t .nils) (.bool false)) l h)
 (.seq (.reg fun c t l h k => cl c 28 [(g0 t)] t l h fun v0 l0 h0 => bO (ext v0 0) fun v1 => bO (ext v0 1) fun v2 => k (p5 (p4 t v1) v2) l0 h0)
 (.seq (.seq (.reg fun c t l h k => bO (G.un .not (g5 t)) fun v0 => k (p15 t v0) l h)
 (.cond (.tmp 15) (.seq (.reg fun c t l h k => k (p3 (p2 t .nils) (.bool false)) l h)
 .ret) .skip))
 (.seq (.reg fun c t l h k => cl c 29 [(g4 t)] t l h fun v0 l0 h0 => bO (ext v0 0) fun v1 => bO (ext v0 1) fun v2 => bO (ext v0 2) fun v3 => k (p8 (p6 t v1) v3) l0 h0)
 (.seq (.reg fun c t l h k => bO (bin Pg .eql 3 true (g8 t) (I 0)) fun v0 => k (p3 (p2 t (g6 t)) v0) l h)
 .ret)))))

def kp16 : List Nat := [0, 2, 3, 4, 5, 6, 7, 8, 9, 10, 11, 12, 13, 14, 15, 16, 17, 18, 19, 33, 41, 62, 79, 91, 129, 147, 171, 198, 215, 228, 257]
def rc16 : RC := (.seq (.reg fun c t l h k => k (p3 (p2 t (I 0)) (I 0)) l h)
 (.seq (.reg fun c t l h k => gn Tryz.f16 16 1 1 c (p20 t (g0 t)) t l h (fun v0 l0 h0 => gn Tryz.f16 16 1 2 c (p21 t v0) t l0 h0 (fun v1 l1 h1 => k (p4 t v1) l1 h1)))
 (.seq (.reg fun c t l h k => k (p5 t (.int .i64 (.negSucc 0))) l h)
 (.seq (.seq (.reg fun c t l h k => k (p6 t (I 0)) l h)
 (.block 0 (.loop (.seq (.seq (.reg fun c t l h k => bO (len (Pg.underlying 25) (g0 t)) fun v0 => bO (bin Pg .lss 3 false (g6 t) v0) fun v1 => jn (fun v2 l2 h2 => jn (fun v3 l3 h3 => jn (fun v4 l4 h4 => jn (fun v5 l5 h5 => jn (fun v6 l6 h6 => bO (pick v1 v6 (.bool false)) fun v7 => k (p33 t v7) l6 h6) fun j6 => brB (wv v1 true) (j6 (.tuple []) l5 h5) (bO (bin Pg .eql 3 true v5 (I 0)) fun v7 => j6 v7 l5 h5)) fun j5 => brB (wv v1 true) (j5 (.tuple []) l4 h4) (bO (ld Pg 3 v4 l4 h4) fun v6 => j5 v6 l4 h4)) fun j4 => brB (wv v1 true) (j4 (.tuple []) l3 h3) (bO (fa Pg 89 v3 1) fun v5 => j4 v5 l3 h3)) fun j3 => brB (wv v1 true) (j3 (.tuple []) l2 h2) (bO (nilC v2) fun v4 => j3 v4 l2 h2)) fun j2 => brB (wv v1 true) (j2 (.tuple []) l h) (j2 (g4 t) l h))
 (.cond (.tmp 33) .skip (.exit 0)))
 (.seq (.block 1 (.seq (.reg fun c t l h k => bO (ia Pg 25 (g0 t) (g6 t)) fun v0 => bO (ld Pg 53 v0 l h) fun v1 => al Pg 53 7 l fun v2 l2 => jn (fun v3 l3 h3 => k (p7 t v2) l3 h3) fun j3 => sto 53 v2 v1 l2 h j3 (gn Tryz.f16 16 6 5 c (p39 (p7 t v2) v1) t l2 h j3))
 (.seq (.seq (.reg fun c t l h k => bO (fa Pg 53 (g7 t) 0) fun v0 => bO (ld Pg 4 v0 l h) fun v1 => k (p41 t v1) l h)
 (.cond (.tmp 41) (.exit 1) .skip))
 (.seq (.reg fun c t l h k => bO (bin Pg .add 3 true (g5 t) (I 1)) fun v0 => k (p5 t v0) l h)
 (.seq (.reg fun c t l h k => bO (fa Pg 53 (g7 t) 3) fun v0 => bO (ld Pg 4 v0 l h) fun v1 => jn (fun v2 l2 h2 => jn (fun v3 l3 h3 => jn (fun v4 l4 h4 => bO (pick v1 v4 (.bool false)) fun v5 => k (p8 t v5) l4 h4) fun j4 => brB (wv v1 true) (j4 (.tuple []) l3 h3) (bO (bin Pg .neq 3 true v3 (I 5)) fun v5 => j4 v5 l3 h3)) fun j3 => brB (wv v1 true) (j3 (.tuple []) l2 h2) (bO (ld Pg 3 v2 l2 h2) fun v4 => j3 v4 l2 h2)) fun j2 => brB (wv v1 true) (j2 (.tuple []) l h) (bO (fa Pg 53 (g7 t) 5) fun v3 => j2 v3 l h))
 (.seq (.seq (.reg fun c t l h k => bO (fa Pg 53 (g7 t) 10) fun v0 => bO (ld Pg 47 v0 l h) fun v1 => bO (len (Pg.underlying 47) v1) fun v2 => bO (bin Pg .gtr 3 true v2 (I 0)) fun v3 => bO (bin Pg .neq 4 false (g8 t) v3) fun v4 => jn (fun v5 l5 h5 => jn (fun v6 l6 h6 => jn (fun v7 l7 h7 => jn (fun v8 l8 h8 => bO (pick v4 (.bool true) v8) fun v9 => k (p62 t v9) l8 h8) fun j8 => brB (wv v4 false) (j8 (.tuple []) l7 h7) (bO (bin Pg .gtr 3 true v7 (I 4)) fun v9 => j8 v9 l7 h7)) fun j7 => brB (wv v4 false) (j7 (.tuple []) l6 h6) (bO (len (Pg.underlying 47) v6) fun v8 => j7 v8 l6 h6)) fun j6 => brB (wv v4 false) (j6 (.tuple []) l5 h5) (bO (ld Pg 47 v5 l5 h5) fun v7 => j6 v7 l5 h5)) fun j5 => brB (wv v4 false) (j5 (.tuple []) l h) (bO (fa Pg 53 (g7 t) 10) fun v6 => j5 v6 l h))
 (.cond (.tmp 62) (.reg fun c t l h k => bO (fa Pg 53 (g7 t) 12) fun v0 => bO (ld Pg 3 v0 l h) fun v1 => cl c 30 [(g4 t), v1, (I 184)] t l h fun v2 l2 h2 => k t l2 h2) .skip))
 (.seq (.reg fun c t l h k => bO (fa Pg 53 (g7 t) 5) fun v0 => bO (ld Pg 3 v0 l h) fun v1 => bO (bin Pg .neq 3 true v1 (I 1)) fun v2 => jn (fun v3 l3 h3 => jn (fun v4 l4 h4 => jn (fun v5 l5 h5 => bO (pick v2 v5 (.bool false)) fun v6 => k (p9 t v6) l5 h5) fun j5 => brB (wv v2 true) (j5 (.tuple []) l4 h4) (bO (bin Pg .neq 3 true v4 (I 3)) fun v6 => j5 v6 l4 h4)) fun j4 => brB (wv v2 true) (j4 (.tuple []) l3 h3) (bO (ld Pg 3 v3 l3 h3) fun v5 => j4 v5 l3 h3)) fun j3 => brB (wv v2 true) (j3 (.tuple []) l h) (bO (fa Pg 53 (g7 t) 5) fun v4 => j3 v4 l h))
 (.seq (.reg fun c t l h k => k (p10 t .nils) l h)
 (.seq (.seq (.reg fun c t l h k => k (p11 t (I 0)) l h)
 (.block 2 (.loop (.seq (.seq (.reg fun c t l h k => bO (fa Pg 53 (g7 t) 4) fun v0 => bO (ld Pg 46 v0 l h) fun v1 => bO (len (Pg.underlying 46) v1) fun v2 => bO (bin Pg .lss 3 false (g11 t) v2) fun v3 => k (p79 t v3) l h)
 (.cond (.tmp 79) .skip (.exit 2)))
 (.seq (.block 3 (.seq (.seq (.reg fun c t l h k => k (p12 t (I 0)) l h)
 (.block 4 (.loop (.seq (.seq (.reg fun c t l h k => bO (fa Pg 53 (g7 t) 4) fun v0 => bO (ld Pg 46 v0 l h) fun v1 => bO (ia Pg 46 v1 (g11 t)) fun v2 => bO (fa Pg 92 v2 1) fun v3 => bO (fa Pg 49 v3 2) fun v4 => bO (ld Pg 47 v4 l h) fun v5 => bO (len (Pg.underlying 47) v5) fun v6 => bO (bin Pg .lss 3 false (g12 t) v6) fun v7 => k (p91 t v7) l h)
 (.cond (.tmp 91) .skip (.exit 4)))
 (.seq (.block 5 (.reg fun c t l h k => bO (fa Pg 53 (g7 t) 4) fun v0 => bO (ld Pg 46 v0 l h) fun v1 => bO (ia Pg 46 v1 (g11 t)) fun v2 => bO (fa Pg 92 v2 1) fun v3 => bO (fa Pg 49 v3 2) fun v4 => bO (ld Pg 47 v4 l h) fun v5 => bO (ia Pg 47 v5 (g12 t)) fun v6 => bO (ld Pg 51 v6 l h) fun v7 => bO (len (Pg.underlying 80) (g10 t)) fun v8 => bO (len (Pg.underlying 80) (g10 t)) fun v9 => bO (slc Pg 80 (g10 t) none (some v8) (some v9)) fun v10 => jE ((110, v10) :: (109, v9) :: (108, (g10 t)) :: (107, v8) :: (106, (g10 t)) :: (105, (g10 t)) :: (104, v7) :: (103, v6) :: (102, (g12 t)) :: (101, v5) :: (100, v4) :: (99, v3) :: (98, v2) :: (97, (g11 t)) :: (96, v1) :: (95, v0) :: (94, (g4 t)) :: []) fun e11 => jF (ft0 :: ft0 :: ft0 :: ft0 :: ft0 :: ft0 :: (ldF v6) :: ft0 :: ft0 :: (ldF v4) :: ft0 :: ft0 :: ft0 :: ft0 :: (ldF v0) :: ft0 :: ft0 :: []) fun q11 => gD Tryz.f16 16 20 17 c t l h (fun v11 f11 l11 h11 => jE ((111, v11) :: e11) fun e12 => jF (f11 :: q11) fun q12 => gD Tryz.f16 16 20 18 c (p111 (p110 t v10) v11) l11 h11 (fun v12 f12 l12 h12 => jE ((113, (g5 t)) :: (112, v12) :: e12) fun e13 => jF (ft0 :: f12 :: q12) fun q13 => clD c 31 [(g4 t), v7, v12, (I 2), (g5 t), (.bool false)] l12 h12 (fun v13 f13 l13 h13 => finD (rgA Tryz.f16 20).toList [(2, 18), (7, 18), (10, 18)] [(2, 18), (7, 18), (10, 18)] (f13 :: q13) (k t l13 h13)) (sD Tryz.f16 16 20 c 20 (some 114) e13 q13 t l12 h12)) (sD Tryz.f16 16 20 c 18 (some 112) e12 q12 t l11 h11)) (sD Tryz.f16 16 20 c 17 (some 111) e11 q11 t l h)))
 (.reg fun c t l h k => bO (bin Pg .add 3 true (g12 t) (I 1)) fun v0 => k (p12 t v0) l h))))))
 (.reg fun c t l h k => bO (fa Pg 53 (g7 t) 4) fun v0 => bO (ld Pg 46 v0 l h) fun v1 => bO (ia Pg 46 v1 (g11 t)) fun v2 => bO (fa Pg 92 v2 1) fun v3 => bO (fa Pg 49 v3 0) fun v4 => bO (ld Pg 3 v4 l h) fun v5 => bO (bs Pg 80 1 [(0, v5)]) fun v6 => gn Tryz.f16 16 21 9 c (p123 (p115 t (g10 t)) v6) t l h (fun v7 l7 h7 => k (p10 t v7) l7 h7))))
 (.reg fun c t l h k => bO (bin Pg .add 3 true (g11 t) (I 1)) fun v0 => k (p11 t v0) l h))))))
 (.seq (.seq (.reg fun c t l h k => k (p13 t (I 0)) l h)
 (.block 6 (.loop (.seq (.seq (.reg fun c t l h k => bO (fa Pg 53 (g7 t) 7) fun v0 => bO (ld Pg 47 v0 l h) fun v1 => bO (len (Pg.underlying 47) v1) fun v2 => bO (bin Pg .lss 3 false (g13 t) v2) fun v3 => k (p129 t v3) l h)
 (.cond (.tmp 129) .skip (.exit 6)))
 (.seq (.block 7 (.reg fun c t l h k => bO (fa Pg 53 (g7 t) 7) fun v0 => bO (ld Pg 47 v0 l h) fun v1 => bO (ia Pg 47 v1 (g13 t)) fun v2 => bO (ld Pg 51 v2 l h) fun v3 => cl c 31 [(g4 t), v3, (g10 t), (I 2), (g5 t), (g9 t)] t l h fun v4 l4 h4 => k t l4 h4))
 (.reg fun c t l h k => bO (bin Pg .add 3 true (g13 t) (I 1)) fun v0 => k (p13 t v0) l h))))))
 (.seq (.seq (.reg fun c t l h k => k (p14 t (I 0)) l h)
 (.block 8 (.loop (.seq (.seq (.reg fun c t l h k => bO (fa Pg 53 (g7 t) 6) fun v0 => bO (fa Pg 49 v0 2) fun v1 => bO (ld Pg 47 v1 l h) fun v2 => bO (len (Pg.underlying 47) v2) fun v3 => bO (bin Pg .lss 3 false (g14 t) v3) fun v4 => k (p147 t v4) l h)
 (.cond (.tmp 147) .skip (.exit 8)))
 (.seq (.block 9 (.reg fun c t l h k => bO (fa Pg 53 (g7 t) 6) fun v0 => bO (fa Pg 49 v0 2) fun v1 => bO (ld Pg 47 v1 l h) fun v2 => bO (ia Pg 47 v2 (g14 t)) fun v3 => bO (ld Pg 51 v3 l h) fun v4 => bO (len (Pg.underlying 80) (g10 t)) fun v5 => bO (len (Pg.underlying 80) (g10 t)) fun v6 => bO (slc Pg 80 (g10 t) none (some v5) (some v6)) fun v7 => jE ((162, v7) :: (161, v6) :: (160, (g10 t)) :: (159, v5) :: (158, (g10 t)) :: (157, (g10 t)) :: (156, v4) :: (155, v3) :: (154, (g14 t)) :: (153, v2) :: (152, v1) :: (151, v0) :: (150, (g4 t)) :: []) fun e8 => jF (ft0 :: ft0 :: ft0 :: ft0 :: ft0 :: ft0 :: (ldF v3) :: ft0 :: ft0 :: (ldF v1) :: ft0 :: ft0 :: ft0 :: []) fun q8 => gD Tryz.f16 16 29 13 c t l h (fun v8 f8 l8 h8 => jE ((163, v8) :: e8) fun e9 => jF (f8 :: q8) fun q9 => gD Tryz.f16 16 29 14 c (p163 (p162 t v7) v8) l8 h8 (fun v9 f9 l9 h9 => jE ((165, (g5 t)) :: (164, v9) :: e9) fun e10 => jF (ft0 :: f9 :: q9) fun q10 => clD c 31 [(g4 t), v4, v9, (I 2), (g5 t), (.bool false)] l9 h9 (fun v10 f10 l10 h10 => finD (rgA Tryz.f16 29).toList [(3, 14), (6, 14)] [(3, 14), (6, 14)] (f10 :: q10) (k t l10 h10)) (sD Tryz.f16 16 29 c 16 (some 166) e10 q10 t l9 h9)) (sD Tryz.f16 16 29 c 14 (some 164) e9 q9 t l8 h8)) (sD Tryz.f16 16 29 c 13 (some 163) e8 q8 t l h)))
 (.reg fun c t l h k => bO (bin Pg .add 3 true (g14 t) (I 1)) fun v0 => k (p14 t v0) l h))))))
 (.seq (.seq (.reg fun c t l h k => k (p15 t (I 0)) l h)
 (.block 10 (.loop (.seq (.seq (.reg fun c t l h k => bO (fa Pg 53 (g7 t) 9) fun v0 => bO (ld Pg 47 v0 l h) fun v1 => bO (len (Pg.underlying 47) v1) fun v2 => bO (bin Pg .lss 3 false (g15 t) v2) fun v3 => k (p171 t v3) l h)
 (.cond (.tmp 171) .skip (.exit 10)))
 (.seq (.block 11 (.reg fun c t l h k => bO (fa Pg 53 (g7 t) 9) fun v0 => bO (ld Pg 47 v0 l h) fun v1 => bO (ia Pg 47 v1 (g15 t)) fun v2 => bO (ld Pg 51 v2 l h) fun v3 => bO (len (Pg.underlying 80) (g10 t)) fun v4 => bO (len (Pg.underlying 80) (g10 t)) fun v5 => bO (slc Pg 80 (g10 t) none (some v4) (some v5)) fun v6 => bO (fa Pg 53 (g7 t) 6) fun v7 => bO (fa Pg 49 v7 0) fun v8 => bO (ld Pg 3 v8 l h) fun v9 => jE ((188, v9) :: (187, v8) :: (186, v7) :: (185, v6) :: (184, v5) :: (183, (g10 t)) :: (182, v4) :: (181, (g10 t)) :: (180, (g10 t)) :: (179, v3) :: (178, v2) :: (177, (g15 t)) :: (176, v1) :: (175, v0) :: (174, (g4 t)) :: []) fun e10 => jF ((ldF v8) :: ft0 :: ft0 :: ft0 :: ft0 :: ft0 :: ft0 :: ft0 :: ft0 :: (ldF v2) :: ft0 :: ft0 :: (ldF v0) :: ft0 :: ft0 :: []) fun q10 => gD Tryz.f16 16 33 15 c (p188 t v9) l h (fun v10 f10 l10 h10 => jE ((189, v10) :: e10) fun e11 => jF (f10 :: q10) fun q11 => gD Tryz.f16 16 33 16 c (p189 (p185 t v6) v10) l10 h10 (fun v11 f11 l11 h11 => jE ((192, (g9 t)) :: (191, (g5 t)) :: (190, v11) :: e11) fun e12 => jF (ft0 :: ft0 :: f11 :: q11) fun q12 => clD c 31 [(g4 t), v3, v11, (I 2), (g5 t), (g9 t)] l11 h11 (fun v12 f12 l12 h12 => finD (rgA Tryz.f16 33).toList [(2, 16), (5, 16)] [(2, 16), (5, 16)] (f12 :: q12) (k t l12 h12)) (sD Tryz.f16 16 33 c 19 (some 193) e12 q12 t l11 h11)) (sD Tryz.f16 16 33 c 16 (some 190) e11 q11 t l10 h10)) (sD Tryz.f16 16 33 c 15 (some 189) e10 q10 t l h)))
 (.reg fun c t l h k => bO (bin Pg .add 3 true (g15 t) (I 1)) fun v0 => k (p15 t v0) l h))))))
 (.seq (.seq (.reg fun c t l h k => k (p16 t (I 0)) l h)
 (.block 12 (.loop (.seq (.seq (.reg fun c t l h k => bO (fa Pg 53 (g7 t) 10) fun v0 => bO (ld Pg 47 v0 l h) fun v1 => bO (len (Pg.underlying 47) v1) fun v2 => bO (bin Pg .lss 3 false (g16 t) v2) fun v3 => k (p198 t v3) l h)
 (.cond (.tmp 198) .skip (.exit 12)))
 (.seq (.block 13 (.reg fun c t l h k => bO (fa Pg 53 (g7 t) 10) fun v0 => bO (ld Pg 47 v0 l h) fun v1 => bO (ia Pg 47 v1 (g16 t)) fun v2 => bO (ld Pg 51 v2 l h) fun v3 => cl c 31 [(g4 t), v3, (g10 t), (I 1), (g5 t), (g9 t)] t l h fun v4 l4 h4 => k t l4 h4))
 (.reg fun c t l h k => bO (bin Pg .add 3 true (g16 t) (I 1)) fun v0 => k (p16 t v0) l h))))))
 (.seq (.seq (.reg fun c t l h k => bO (nilC (g4 t)) fun v0 => bO (fa Pg 89 v0 1) fun v1 => bO (ld Pg 3 v1 l h) fun v2 => bO (bin Pg .neq 3 true v2 (I 0)) fun v3 => k (p215 t v3) l h)
 (.cond (.tmp 215) (.exit 0) .skip))
 (.seq (.reg fun c t l h k => bO (fa Pg 53 (g7 t) 11) fun v0 => bO (ld Pg 51 v0 l h) fun v1 => bO (fa Pg 53 (g7 t) 6) fun v2 => bO (fa Pg 49 v2 0) fun v3 => bO (ld Pg 3 v3 l h) fun v4 => cl c 32 [(g4 t), v1, (g10 t), v4] t l h fun v5 l5 h5 => k t l5 h5)
 (.seq (.seq (.reg fun c t l h k => bO (nilC (g4 t)) fun v0 => bO (fa Pg 89 v0 1) fun v1 => bO (ld Pg 3 v1 l h) fun v2 => bO (bin Pg .neq 3 true v2 (I 0)) fun v3 => k (p228 t v3) l h)
 (.cond (.tmp 228) (.exit 0) .skip))
 (.seq (.reg fun c t l h k => bO (fa Pg 53 (g7 t) 11) fun v0 => bO (ld Pg 51 v0 l h) fun v1 => cl c 33 [(g0 t), v1] t l h fun v2 l2 h2 => bO (ext v2 0) fun v3 => bO (ext v2 1) fun v4 => bO (ext v2 2) fun v5 => k (p19 (p18 (p17 t v3) v4) v5) l2 h2)
 (.seq (.reg fun c t l h k => jn (fun v0 l0 h0 => jn (fun v1 l1 h1 => bO (pick (g17 t) v1 (.bool false)) fun v2 => jn (fun v3 l3 h3 => jn (fun v4 l4 h4 => jn (fun v5 l5 h5 => jn (fun v6 l6 h6 => jn (fun v7 l7 h7 => jn (fun v8 l8 h8 => bO (pick v2 (.bool true) v8) fun v9 => jn (fun v10 l10 h10 => jn (fun v11 l11 h11 => jn (fun v12 l12 h12 => jn (fun v13 l13 h13 => jn (fun v14 l14 h14 => jn (fun v15 l15 h15 => bO (pick v9 (.bool true) v15) fun v16 => k (p257 t v16) l15 h15) fun j15 => brB (wv v9 false) (j15 (.tuple []) l14 h14) (bO (pick v11 v14 (.bool false)) fun v16 => j15 v16 l14 h14)) fun j14 => brB (wv v11 true) (j14 (.tuple []) l13 h13) (bO (bin Pg .neq 3 true v13 (I 5)) fun v15 => j14 v15 l13 h13)) fun j13 => brB (wv v11 true) (j13 (.tuple []) l12 h12) (bO (ld Pg 3 v12 l12 h12) fun v14 => j13 v14 l12 h12)) fun j12 => brB (wv v11 true) (j12 (.tuple []) l11 h11) (bO (fa Pg 53 (g7 t) 5) fun v13 => j12 v13 l11 h11)) fun j11 => brB (wv v9 false) (j11 (.tuple []) l10 h10) (j11 v10 l10 h10)) fun j10 => brB (wv v9 false) (j10 (.tuple []) l8 h8) (j10 (g19 t) l8 h8)) fun j8 => brB (wv v2 false) (j8 (.tuple []) l7 h7) (bO (pick v4 v7 (.bool false)) fun v9 => j8 v9 l7 h7)) fun j7 => brB (wv v4 true) (j7 (.tuple []) l6 h6) (bO (bin Pg .lss 3 true v6 (I 3)) fun v8 => j7 v8 l6 h6)) fun j6 => brB (wv v4 true) (j6 (.tuple []) l5 h5) (bO (ld Pg 3 v5 l5 h5) fun v7 => j6 v7 l5 h5)) fun j5 => brB (wv v4 true) (j5 (.tuple []) l4 h4) (bO (fa Pg 53 (g7 t) 5) fun v6 => j5 v6 l4 h4)) fun j4 => brB (wv v2 false) (j4 (.tuple []) l3 h3) (j4 v3 l3 h3)) fun j3 => brB (wv v2 false) (j3 (.tuple []) l1 h1) (j3 (g18 t) l1 h1)) fun j1 => brB (wv (g17 t) true) (j1 (.tuple []) l0 h0) (bO (G.un .not v0) fun v2 => j1 v2 l0 h0)) fun j0 => brB (wv (g17 t) true) (j0 (.tuple []) l h) (j0 (g9 t) l h))
 (.cond (.tmp 257) (.reg fun c t l h k => bO (fa Pg 53 (g7 t) 11) fun v0 => bO (fa Pg 51 v0 6) fun v1 => bO (ld Pg 3 v1 l h) fun v2 => cl c 30 [(g4 t), v2, (I 181)] t l h fun v3 l3 h3 => k t l3 h3) .skip)))))))))))))))))))
 (.reg fun c t l h k => bO (bin Pg .add 3 true (g6 t) (I 1)) fun v0 => k (p6 t v0) l h))))))
 (.seq (.reg fun c t l h k => bO (nilC (g4 t)) fun v0 => bO (fa Pg 89 v0 2) fun v1 => bO (ld Pg 3 v1 l h) fun v2 => bO (nilC (g4 t)) fun v3 => bO (fa Pg 89 v3 1) fun v4 => bO (ld Pg 3 v4 l h) fun v5 => k (p3 (p2 t v2) v5) l h)
 .ret)))))

def kp17 : List Nat := [0, 1, 4, 5, 6, 16]
def rc17 : RC := (.seq (.reg fun c t l h k => al Pg 53 4 l fun v0 l0 => k (p5 (p4 t v0) (.bool false)) l0 h)
 (.seq (.reg fun c t l h k => cl c 34 [(g0 t)] t l h fun v0 l0 h0 => k (p6 t v0) l0 h0)
 (.seq (.seq (.reg fun c t l h k => bO (bin Pg .lss 3 true (g1 t) (I 0)) fun v0 => jn (fun v1 l1 h1 => jn (fun v2 l2 h2 => jn (fun v3 l3 h3 => jn (fun v4 l4 h4 => bO (pick v0 (.bool true) v4) fun v5 => k (p16 t v5) l4 h4) fun j4 => brB (wv v0 false) (j4 (.tuple []) l3 h3) (bO (bin Pg .geq 3 false v1 v3) fun v5 => j4 v5 l3 h3)) fun j3 => brB (wv v0 false) (j3 (.tuple []) l2 h2) (bO (len (Pg.underlying 80) v2) fun v4 => j3 v4 l2 h2)) fun j2 => brB (wv v0 false) (j2 (.tuple []) l1 h1) (j2 (g6 t) l1 h1)) fun j1 => brB (wv v0 false) (j1 (.tuple []) l h) (j1 (g1 t) l h))
 (.cond (.tmp 16) (.seq (.reg fun c t l h k => gn Tryz.f17 17 3 0 c t t l h (fun v0 l0 h0 => jn (fun v1 l1 h1 => k (p5 t (.bool false)) l1 h1) fun j1 => sto 53 (g4 t) v0 l0 h0 j1 (gn Tryz.f17 17 3 1 c (p17 (p4 t (g4 t)) v0) t l0 h0 j1)))
 .ret) .skip))
 (.seq (.reg fun c t l h k => bO (ia Pg 80 (g6 t) (g1 t)) fun v0 => bO (ld Pg 3 v0 l h) fun v1 => bO (ia Pg 25 (g0 t) v1) fun v2 => bO (ld Pg 53 v2 l h) fun v3 => jn (fun v4 l4 h4 => k (p5 t (.bool true)) l4 h4) fun j4 => sto 53 (g4 t) v3 l h j4 (gn Tryz.f17 17 4 7 c (p24 (p4 t (g4 t)) v3) t l h j4))
 .ret))))

def kp18 : List Nat := [0, 2]
def rc18 : RC := (.seq (.reg fun c t l h k => gn Tryz.f18 18 0 0 c t t l h (fun v0 l0 h0 => k (p2 t v0) l0 h0))
 (.seq (.reg fun c t l h k => gn Tryz.f18 18 1 0 c (p2 t (g2 t)) t l h (fun v0 l0 h0 => gn Tryz.f18 18 1 1 c (p3 t v0) t l0 h0 (fun v1 l1 h1 => k t l1 h1)))
 (.seq (.reg fun c t l h k => gn Tryz.f18 18 2 1 c (p4 t (g0 t)) t l h (fun v0 l0 h0 => jn (fun v1 l1 h1 => k t l1 h1) fun j1 => sto 57 (g2 t) v0 l0 h0 j1 (gn Tryz.f18 18 2 2 c (p5 (p2 t (g2 t)) v0) t l0 h0 j1)))
 .ret)))

def kp19 : List Nat := [0, 1, 2, 3, 4, 5, 6, 7, 8, 24, 32]
def rc19 : RC := (.seq (.reg fun c t l h k => al Pg 57 3 l fun v0 l0 => k (p3 t v0) l0 h)
 (.seq (.reg fun c t l h k => bO (ld Pg 25 (g0 t) l h) fun v0 => jE ((9, v0) :: []) fun e1 => jF ((ldF (g0 t)) :: []) fun q1 => gD Tryz.f19 19 1 1 c (p9 t v0) l h (fun v1 f1 l1 h1 => bO (ld Pg 3 (g1 t) l1 h1) fun v2 => bO (ld Pg 53 (g2 t) l1 h1) fun v3 => bO (ld Pg 25 (g0 t) l1 h1) fun v4 => bO (ld Pg 3 (g1 t) l1 h1) fun v5 => jE ((14, v5) :: (13, v4) :: (12, v3) :: (11, v2) :: (10, v1) :: e1) fun e6 => jF ((ldF (g1 t)) :: (ldF (g0 t)) :: (ldF (g2 t)) :: (ldF (g1 t)) :: f1 :: q1) fun q6 => clD c 20 [v4, v5] l1 h1 (fun v6 f6 l6 h6 => jE ((15, v6) :: e6) fun e7 => jF (f6 :: q6) fun q7 => gD Tryz.f19 19 1 7 c (p15 (p12 (p11 (p10 t v1) v2) v3) v6) l6 h6 (fun v7 f7 l7 h7 => jE ((16, v7) :: e7) fun e8 => jF (f7 :: q7) fun q8 => gD Tryz.f19 19 1 8 c (p16 t v7) l7 h7 (fun v8 f8 l8 h8 => finD (rgA Tryz.f19 1).toList [] [(0, 6), (2, 6), (3, 6)] (ft0 :: f8 :: q8) (k (p4 t v8) l8 h8)) (sD Tryz.f19 19 1 c 8 (some 17) e8 q8 t l7 h7)) (sD Tryz.f19 19 1 c 7 (some 16) e7 q7 t l6 h6)) (sD Tryz.f19 19 1 c 6 (some 15) e6 q6 t l1 h1)) (sD Tryz.f19 19 1 c 1 (some 10) e1 q1 t l h))
 (.seq (.reg fun c t l h k => cl c 21 [(g4 t)] t l h fun v0 l0 h0 => bO (ext v0 0) fun v1 => bO (ext v0 1) fun v2 => al Pg 67 5 l0 fun v3 l3 => jn (fun v4 l4 h4 => k (p6 (p5 t v3) v2) l4 h4) fun j4 => sto 67 v3 v1 l3 h0 j4 (gn Tryz.f19 19 2 6 c (p21 (p5 t v3) v1) t l3 h0 j4))
 (.seq (.seq (.reg fun c t l h k => bO (G.un .not (g6 t)) fun v0 => k (p24 t v0) l h)
 (.cond (.tmp 24) (.seq (.reg fun c t l h k => gn Tryz.f19 19 4 0 c t t l h (fun v0 l0 h0 => jn (fun v1 l1 h1 => k t l1 h1) fun j1 => sto 57 (g3 t) v0 l0 h0 j1 (gn Tryz.f19 19 4 1 c (p25 (p3 t (g3 t)) v0) t l0 h0 j1)))
 .ret) .skip))
 (.seq (.reg fun c t l h k => bO (ld Pg 67 (g5 t) l h) fun v0 => cl c 22 [v0] t l h fun v1 l1 h1 => bO (ext v1 0) fun v2 => bO (ext v1 1) fun v3 => al Pg 31 7 l1 fun v4 l4 => jn (fun v5 l5 h5 => k (p8 (p7 t v4) v3) l5 h5) fun j5 => sto 31 v4 v2 l4 h1 j5 (gn Tryz.f19 19 5 6 c (p29 (p7 t v4) v2) t l4 h1 j5))
 (.seq (.seq (.reg fun c t l h k => bO (bin Pg .neq 33 true (g8 t) (I 0)) fun v0 => k (p32 t v0) l h)
 (.cond (.tmp 32) (.seq (.reg fun c t l h k => gn Tryz.f19 19 7 1 c (p33 t (g8 t)) t l h (fun v0 l0 h0 => jn (fun v1 l1 h1 => k t l1 h1) fun j1 => sto 57 (g3 t) v0 l0 h0 j1 (gn Tryz.f19 19 7 2 c (p34 (p3 t (g3 t)) v0) t l0 h0 j1)))
 .ret) .skip))
 (.seq (.reg fun c t l h k => bO (ld Pg 31 (g7 t) l h) fun v0 => bO (nilC (g4 t)) fun v1 => bO (fa Pg 65 v1 5) fun v2 => bO (ld Pg 32 v2 l h) fun v3 => jE ((39, v3) :: (38, v2) :: (37, v1) :: (36, (g4 t)) :: (35, v0) :: []) fun e4 => jF ((ldF v2) :: ft0 :: ft0 :: ft0 :: (ldF (g7 t)) :: []) fun q4 => gD Tryz.f19 19 8 5 c (p39 (p35 t v0) v3) l h (fun v4 f4 l4 h4 => jE ((40, v4) :: e4) fun e5 => jF (f4 :: q4) fun q5 => gD Tryz.f19 19 8 6 c (p40 (p3 t (g3 t)) v4) l4 h4 (fun v5 f5 l5 h5 => finD (rgA Tryz.f19 8).toList [] [] (f5 :: q5) (k t l5 h5)) (sD Tryz.f19 19 8 c 6 none e5 q5 t l4 h4)) (sD Tryz.f19 19 8 c 5 (some 40) e4 q4 t l h))
 .ret)))))))

def kp20 : List Nat := [0, 1, 4, 5, 6, 7, 9, 11, 13, 14, 15, 25, 34, 35, 36, 37, 43]
def rc20 : RC := (.seq (.reg fun c t l h k => k (p4 t .nils) l h)
 (.seq (.reg fun c t l h k => k (p5 t .nils) l h)
 (.seq (.seq (.reg fun c t l h k => bO (bin Pg .add 3 true (g1 t) (I 1)) fun v0 => k (p14 (p13 t v0) (I 0)) l h)
 (.block 0 (.loop (.seq (.reg fun c t l h k => bO (bin Pg .lss 3 false (g14 t) (g13 t)) fun v0 => k (p15 t v0) l h)
 (.seq (.cond (.tmp 15) .skip (.exit 0))
 (.seq (.block 1 (.seq (.reg fun c t l h k => k (p6 t (g14 t)) l h)
 (.seq (.reg fun c t l h k => cl c 17 [(g0 t), (g6 t)] t l h fun v0 l0 h0 => bO (ext v0 0) fun v1 => bO (ext v0 1) fun v2 => al Pg 53 7 l0 fun v3 l3 => jn (fun v4 l4 h4 => k (p7 t v3) l4 h4) fun j4 => sto 53 v3 v1 l3 h0 j4 (gn Tryz.f20 20 5 7 c (p21 (p7 t v3) v1) t l3 h0 j4))
 (.seq (.seq (.reg fun c t l h k => bO (fa Pg 53 (g7 t) 5) fun v0 => bO (ld Pg 3 v0 l h) fun v1 => bO (bin Pg .neq 3 true v1 (I 1)) fun v2 => k (p25 t v2) l h)
 (.cond (.tmp 25) (.exit 1) .skip))
 (.seq (.reg fun c t l h k => jE ((26, (g6 t)) :: []) fun e0 => jF (ft0 :: []) fun q0 => clD c 36 [(.str ⟨1, 100⟩), (g6 t)] l h (fun v0 f0 l0 h0 => bO (fa Pg 53 (g7 t) 6) fun v1 => bO (fa Pg 49 v1 0) fun v2 => bO (ld Pg 3 v2 l0 h0) fun v3 => jE ((30, v3) :: (29, v2) :: (28, v1) :: (27, v0) :: e0) fun e4 => jF ((ldF v2) :: ft0 :: ft0 :: f0 :: q0) fun q4 => clD c 37 [v3] l0 h0 (fun v4 f4 l4 h4 => jE ((31, v4) :: e4) fun e5 => jF (f4 :: q4) fun q5 => gD Tryz.f20 20 7 6 c (p31 (p27 t v0) v4) l4 h4 (fun v5 f5 l5 h5 => jE ((32, v5) :: e5) fun e6 => jF (f5 :: q5) fun q6 => gD Tryz.f20 20 7 7 c t l5 h5 (fun v6 f6 l6 h6 => jE ((9, v6) :: e6) fun e7 => jF (f6 :: q6) fun q7 => gD Tryz.f20 20 7 8 c (p32 (p9 t v6) v5) l6 h6 (fun v7 f7 l7 h7 => finD (rgA Tryz.f20 7).toList [(4, 7)] [(1, 4), (1, 7), (4, 7), (5, 7)] (f7 :: q7) (k (p9 t v6) l7 h7)) (sD Tryz.f20 20 7 c 8 none e7 q7 t l6 h6)) (sD Tryz.f20 20 7 c 7 (some 9) e6 q6 t l5 h5)) (sD Tryz.f20 20 7 c 6 (some 32) e5 q5 t l4 h4)) (sD Tryz.f20 20 7 c 5 (some 31) e4 q4 t l0 h0)) (sD Tryz.f20 20 7 c 1 (some 27) e0 q0 t l h))
 (.seq (.seq (.reg fun c t l h k => bO (fa Pg 53 (g7 t) 4) fun v0 => bO (ld Pg 46 v0 l h) fun v1 => bO (len (Pg.underlying 46) v1) fun v2 => k (p36 (p35 (p34 t v1) v2) (I 0)) l h)
 (.block 2 (.loop (.seq (.reg fun c t l h k => bO (bin Pg .lss 3 false (g36 t) (g35 t)) fun v0 => k (p37 t v0) l h)
 (.seq (.cond (.tmp 37) .skip (.exit 2))
 (.seq (.block 3 (.seq (.reg fun c t l h k => bO (ia Pg 46 (g34 t) (g36 t)) fun v0 => bO (ld Pg 92 v0 l h) fun v1 => al Pg 92 11 l fun v2 l2 => jn (fun v3 l3 h3 => k (p11 t v2) l3 h3) fun j3 => sto 92 v2 v1 l2 h j3 (gn Tryz.f20 20 10 3 c (p39 (p11 t v2) v1) t l2 h j3))
 (.seq (.reg fun c t l h k => bO (fa Pg 92 (g11 t) 1) fun v0 => bO (fa Pg 49 v0 0) fun v1 => bO (ld Pg 3 v1 l h) fun v2 => bO (bin Pg .neq 3 true v2 (I 3)) fun v3 => k (p43 t v3) l h)
 (.cond (.tmp 43) (.reg fun c t l h k => bO (fa Pg 82 (g9 t) 1) fun v0 => bO (ld Pg 80 v0 l h) fun v1 => bO (fa Pg 92 (g11 t) 1) fun v2 => bO (fa Pg 49 v2 0) fun v3 => bO (ld Pg 3 v3 l h) fun v4 => jE ((48, v4) :: (47, v3) :: (46, v2) :: (45, v1) :: (44, v0) :: []) fun e5 => jF ((ldF v3) :: ft0 :: ft0 :: (ldF v0) :: ft0 :: []) fun q5 => clD c 37 [v4] l h (fun v5 f5 l5 h5 => jE ((49, v5) :: e5) fun e6 => jF (f5 :: q5) fun q6 => gD Tryz.f20 20 12 6 c (p49 t v5) l5 h5 (fun v6 f6 l6 h6 => jE ((50, v6) :: e6) fun e7 => jF (f6 :: q6) fun q7 => gD Tryz.f20 20 12 7 c (p50 (p45 t v1) v6) l6 h6 (fun v7 f7 l7 h7 => bO (fa Pg 82 (g9 t) 1) fun v8 => jE ((52, v8) :: (51, v7) :: e7) fun e9 => jF (ft0 :: f7 :: q7) fun q9 => gD Tryz.f20 20 12 9 c (p51 (p52 t v8) v7) l7 h7 (fun v9 f9 l9 h9 => finD (rgA Tryz.f20 12).toList [] [(1, 5)] (f9 :: q9) (k t l9 h9)) (sD Tryz.f20 20 12 c 9 none e9 q9 t l7 h7)) (sD Tryz.f20 20 12 c 7 (some 51) e7 q7 t l6 h6)) (sD Tryz.f20 20 12 c 6 (some 50) e6 q6 t l5 h5)) (sD Tryz.f20 20 12 c 5 (some 49) e5 q5 t l h)) .skip))))
 (.reg fun c t l h k => bO (bin Pg .add 3 true (g36 t) (I 1)) fun v0 => k (p36 t v0) l h)))))))
 (.reg fun c t l h k => bO (ld Pg 82 (g9 t) l h) fun v0 => bO (bs Pg 32 1 [(0, v0)]) fun v1 => gn Tryz.f20 20 14 3 c (p56 (p54 t (g5 t)) v1) t l h (fun v2 l2 h2 => k (p5 t v2) l2 h2))))))))
 (.reg fun c t l h k => bO (bin Pg .add 3 true (g14 t) (I 1)) fun v0 => k (p14 t v0) l h)))))))
 (.seq (.reg fun c t l h k => k (p4 t (g5 t)) l h)
 .ret))))

def kp21 : List Nat := [0, 2, 3]
def rc21 : RC := (.seq (.reg fun c t l h k => gn Tryz.f21 21 0 0 c t t l h (fun v0 l0 h0 => gn Tryz.f21 21 0 1 c t t l0 h0 (fun v1 l1 h1 => k (p3 (p2 t v0) v1) l1 h1)))
 (.seq (.reg fun c t l h k => gn Tryz.f21 21 1 0 c (p3 (p2 t (g2 t)) (g3 t)) t l h (fun v0 l0 h0 => gn Tryz.f21 21 1 1 c (p4 t v0) t l0 h0 (fun v1 l1 h1 => k t l1 h1)))
 (.seq (.reg fun c t l h k => cl c 39 [(g0 t)] t l h fun v0 l0 h0 => jn (fun v1 l1 h1 => jn (fun v2 l2 h2 => k t l2 h2) fun j2 => sto 4 (g3 t) (.bool true) l1 h1 j2 (gn Tryz.f21 21 2 3 c (p3 t (g3 t)) t l1 h1 j2)) fun j1 => sto 67 (g2 t) v0 l0 h0 j1 (gn Tryz.f21 21 2 2 c (p6 (p2 t (g2 t)) v0) t l0 h0 j1))
 .ret)))

def kp22 : List Nat := [0, 1, 2, 3, 4, 9]
def rc22 : RC := (.seq (.reg fun c t l h k => gn Tryz.f22 22 0 0 c (p0 t (g0 t)) t l h (fun v0 l0 h0 => al Pg 31 2 l0 fun v1 l1 => k (p3 (p2 (p1 t v0) v1) (I 0)) l1 h0))
 (.seq (.block 0 (.seq (.reg fun c t l h k => bO (fa Pg 67 (g1 t) 1) fun v0 => bO (ld Pg 3 v0 l h) fun v1 => bO (bin Pg .gtr 3 true v1 (I 50000)) fun v2 => k (p4 t v2) l h)
 (.cond (.tmp 4) (.seq (.reg fun c t l h k => gn Tryz.f22 22 2 0 c t t l h (fun v0 l0 h0 => jn (fun v1 l1 h1 => k (p3 t (I 34)) l1 h1) fun j1 => sto 31 (g2 t) v0 l0 h0 j1 (gn Tryz.f22 22 2 1 c (p8 (p2 t (g2 t)) v0) t l0 h0 j1)))
 .ret) (.seq (.reg fun c t l h k => bO (fa Pg 67 (g1 t) 2) fun v0 => bO (ld Pg 3 v0 l h) fun v1 => bO (bin Pg .gtr 3 true v1 (I 200)) fun v2 => k (p9 t v2) l h)
 (.cond (.tmp 9) (.seq (.reg fun c t l h k => gn Tryz.f22 22 4 0 c t t l h (fun v0 l0 h0 => jn (fun v1 l1 h1 => k (p3 t (I 33)) l1 h1) fun j1 => sto 31 (g2 t) v0 l0 h0 j1 (gn Tryz.f22 22 4 1 c (p13 (p2 t (g2 t)) v0) t l0 h0 j1)))
 .ret) .skip)))))
 (.seq (.reg fun c t l h k => bO (fa Pg 67 (g1 t) 0) fun v0 => bO (ld Pg 31 v0 l h) fun v1 => cl c 40 [v1] t l h fun v2 l2 h2 => jn (fun v3 l3 h3 => k (p3 t (I 0)) l3 h3) fun j3 => sto 31 (g2 t) v2 l2 h2 j3 (gn Tryz.f22 22 5 3 c (p16 (p2 t (g2 t)) v2) t l2 h2 j3))
 .ret)))

def kp23 : List Nat := [0, 1, 4, 5, 6, 7, 8, 9, 10, 12, 13, 14, 15, 16, 17, 18, 42, 53, 66, 76, 101, 112, 147, 204, 223]
def rc23 : RC := (.seq (.reg fun c t l h k => al Pg 74 4 l fun v0 l0 => k (p6 (p5 (p4 t v0) .nils) (I 0)) l0 h)
 (.seq (.reg fun c t l h k => gn Tryz.f23 23 1 2 c (p20 (p19 t (g0 t)) (g1 t)) t l h (fun v0 l0 h0 => gn Tryz.f23 23 1 3 c (p21 t v0) t l0 h0 (fun v1 l1 h1 => k (p7 t v1) l1 h1)))
 (.seq (.reg fun c t l h k => cl c 41 [(g0 t), (g1 t)] t l h fun v0 l0 h0 => bO (ext v0 0) fun v1 => bO (ext v0 1) fun v2 => bO (nilC (g7 t)) fun v3 => bO (fa Pg 108 v3 2) fun v4 => jn (fun v5 l5 h5 => k t l5 h5) fun j5 => sto 53 v4 v1 l0 h0 j5 (gn Tryz.f23 23 2 9 c (p28 (p31 t v4) v1) t l0 h0 j5))
 (.seq (.reg fun c t l h k => bO (nilC (g7 t)) fun v0 => bO (fa Pg 108 v0 2) fun v1 => bO (ld Pg 53 v1 l h) fun v2 => cl c 42 [v2] t l h fun v3 l3 h3 => bO (nilC (g7 t)) fun v4 => bO (fa Pg 108 v4 4) fun v5 => jn (fun v6 l6 h6 => k t l6 h6) fun j6 => sto 80 v5 v3 l3 h3 j6 (gn Tryz.f23 23 3 8 c (p37 (p39 t v5) v3) t l3 h3 j6))
 (.seq (.reg fun c t l h k => k (p8 t .nils) l h)
 (.seq (.seq (.reg fun c t l h k => k (p9 t (I 0)) l h)
 (.block 0 (.loop (.seq (.seq (.reg fun c t l h k => bO (bin Pg .leq 3 false (g9 t) (g1 t)) fun v0 => k (p42 t v0) l h)
 (.cond (.tmp 42) .skip (.exit 0)))
 (.seq (.block 1 (.seq (.reg fun c t l h k => cl c 41 [(g0 t), (g9 t)] t l h fun v0 l0 h0 => bO (ext v0 0) fun v1 => bO (ext v0 1) fun v2 => al Pg 53 10 l0 fun v3 l3 => jn (fun v4 l4 h4 => k (p10 t v3) l4 h4) fun j4 => sto 53 v3 v1 l3 h0 j4 (gn Tryz.f23 23 8 7 c (p49 (p10 t v3) v1) t l3 h0 j4))
 (.seq (.seq (.reg fun c t l h k => bO (fa Pg 53 (g10 t) 5) fun v0 => bO (ld Pg 3 v0 l h) fun v1 => bO (bin Pg .neq 3 true v1 (I 1)) fun v2 => k (p53 t v2) l h)
 (.cond (.tmp 53) (.exit 1) .skip))
 (.seq (.reg fun c t l h k => jE ((54, (g9 t)) :: []) fun e0 => jF (ft0 :: []) fun q0 => clD c 43 [(g9 t)] l h (fun v0 f0 l0 h0 => bO (bin Pg .add 9 true (.str ⟨1, 100⟩) v0) fun v1 => bO (fa Pg 53 (g10 t) 6) fun v2 => bO (fa Pg 49 v2 0) fun v3 => bO (ld Pg 3 v3 l0 h0) fun v4 => jE ((59, v4) :: (58, v3) :: (57, v2) :: (56, v1) :: (55, v0) :: e0) fun e5 => jF ((ldF v3) :: ft0 :: ft0 :: ft0 :: f0 :: q0) fun q5 => clD c 44 [v4] l0 h0 (fun v5 f5 l5 h5 => jE ((60, v5) :: e5) fun e6 => jF (f5 :: q5) fun q6 => gD Tryz.f23 23 10 7 c (p60 (p56 t v1) v5) l5 h5 (fun v6 f6 l6 h6 => jE ((61, v6) :: e6) fun e7 => jF (f6 :: q6) fun q7 => gD Tryz.f23 23 10 8 c t l6 h6 (fun v7 f7 l7 h7 => jE ((12, v7) :: e7) fun e8 => jF (f7 :: q7) fun q8 => gD Tryz.f23 23 10 9 c (p61 (p12 t v7) v6) l7 h7 (fun v8 f8 l8 h8 => finD (rgA Tryz.f23 10).toList [(5, 8)] [(1, 5), (1, 8), (5, 8), (6, 8)] (f8 :: q8) (k (p12 t v7) l8 h8)) (sD Tryz.f23 23 10 c 9 none e8 q8 t l7 h7)) (sD Tryz.f23 23 10 c 8 (some 12) e7 q7 t l6 h6)) (sD Tryz.f23 23 10 c 7 (some 61) e6 q6 t l5 h5)) (sD Tryz.f23 23 10 c 6 (some 60) e5 q5 t l0 h0)) (sD Tryz.f23 23 10 c 1 (some 55) e0 q0 t l h))
 (.seq (.seq (.reg fun c t l h k => k (p13 t (I 0)) l h)
 (.block 2 (.loop (.seq (.seq (.reg fun c t l h k => bO (fa Pg 53 (g10 t) 4) fun v0 => bO (ld Pg 46 v0 l h) fun v1 => bO (len (Pg.underlying 46) v1) fun v2 => bO (bin Pg .lss 3 false (g13 t) v2) fun v3 => k (p66 t v3) l h)
 (.cond (.tmp 66) .skip (.exit 2)))
 (.seq (.block 3 (.seq (.reg fun c t l h k => bO (fa Pg 53 (g10 t) 4) fun v0 => bO (ld Pg 46 v0 l h) fun v1 => bO (ia Pg 46 v1 (g13 t)) fun v2 => bO (fa Pg 92 v2 1) fun v3 => bO (fa Pg 49 v3 0) fun v4 => bO (ld Pg 3 v4 l h) fun v5 => bO (bin Pg .neq 3 true v5 (I 3)) fun v6 => k (p76 t v6) l h)
 (.cond (.tmp 76) (.reg fun c t l h k => bO (fa Pg 82 (g12 t) 1) fun v0 => bO (ld Pg 80 v0 l h) fun v1 => bO (fa Pg 53 (g10 t) 4) fun v2 => bO (ld Pg 46 v2 l h) fun v3 => bO (ia Pg 46 v3 (g13 t)) fun v4 => bO (fa Pg 92 v4 1) fun v5 => bO (fa Pg 49 v5 0) fun v6 => bO (ld Pg 3 v6 l h) fun v7 => jE ((85, v7) :: (84, v6) :: (83, v5) :: (82, v4) :: (81, (g13 t)) :: (80, v3) :: (79, v2) :: (78, v1) :: (77, v0) :: []) fun e8 => jF ((ldF v6) :: ft0 :: ft0 :: ft0 :: ft0 :: (ldF v2) :: ft0 :: (ldF v0) :: ft0 :: []) fun q8 => clD c 44 [v7] l h (fun v8 f8 l8 h8 => jE ((86, v8) :: e8) fun e9 => jF (f8 :: q8) fun q9 => gD Tryz.f23 23 15 10 c (p86 t v8) l8 h8 (fun v9 f9 l9 h9 => jE ((87, v9) :: e9) fun e10 => jF (f9 :: q9) fun q10 => gD Tryz.f23 23 15 11 c (p87 (p78 t v1) v9) l9 h9 (fun v10 f10 l10 h10 => bO (fa Pg 82 (g12 t) 1) fun v11 => jE ((89, v11) :: (88, v10) :: e10) fun e12 => jF (ft0 :: f10 :: q10) fun q12 => gD Tryz.f23 23 15 13 c (p88 (p89 t v11) v10) l10 h10 (fun v12 f12 l12 h12 => finD (rgA Tryz.f23 15).toList [] [(1, 9)] (f12 :: q12) (k t l12 h12)) (sD Tryz.f23 23 15 c 13 none e12 q12 t l10 h10)) (sD Tryz.f23 23 15 c 11 (some 88) e10 q10 t l9 h9)) (sD Tryz.f23 23 15 c 10 (some 87) e9 q9 t l8 h8)) (sD Tryz.f23 23 15 c 9 (some 86) e8 q8 t l h)) .skip)))
 (.reg fun c t l h k => bO (bin Pg .add 3 true (g13 t) (I 1)) fun v0 => k (p13 t v0) l h))))))
 (.reg fun c t l h k => bO (ld Pg 82 (g12 t) l h) fun v0 => bO (bs Pg 32 1 [(0, v0)]) fun v1 => gn Tryz.f23 23 16 3 c (p92 (p90 t (g8 t)) v1) t l h (fun v2 l2 h2 => k (p8 t v2) l2 h2)))))))
 (.reg fun c t l h k => bO (bin Pg .add 3 true (g9 t) (I 1)) fun v0 => k (p9 t v0) l h))))))
 (.seq (.seq (.reg fun c t l h k => k (p14 t (I 0)) l h)
 (.block 4 (.loop (.seq (.seq (.reg fun c t l h k => bO (nilC (g7 t)) fun v0 => bO (fa Pg 108 v0 2) fun v1 => bO (fa Pg 53 v1 4) fun v2 => bO (ld Pg 46 v2 l h) fun v3 => bO (len (Pg.underlying 46) v3) fun v4 => bO (bin Pg .lss 3 false (g14 t) v4) fun v5 => k (p101 t v5) l h)
 (.cond (.tmp 101) .skip (.exit 4)))
 (.seq (.block 5 (.seq (.reg fun c t l h k => cl c 45 [(.bool true)] t l h fun v0 l0 h0 => al Pg 74 15 l0 fun v1 l1 => jn (fun v2 l2 h2 => k (p15 t v1) l2 h2) fun j2 => sto 74 v1 v0 l1 h0 j2 (gn Tryz.f23 23 20 2 c (p104 (p15 t v1) v0) t l1 h0 j2))
 (.seq (.seq (.reg fun c t l h k => bO (nilC (g7 t)) fun v0 => bO (fa Pg 108 v0 4) fun v1 => bO (ld Pg 80 v1 l h) fun v2 => bO (ia Pg 80 v2 (g14 t)) fun v3 => bO (ld Pg 3 v3 l h) fun v4 => bO (bin Pg .neq 3 true v4 (I 3)) fun v5 => k (p112 t v5) l h)
 (.cond (.tmp 112) (.seq (.reg fun c t l h k => cl c 43 [(g14 t)] t l h fun v0 l0 h0 => bO (bin Pg .add 9 true (.str ⟨1, 112⟩) v0) fun v1 => cl c 46 [v1, .nils] t l0 h0 fun v2 l2 h2 => jn (fun v3 l3 h3 => k t l3 h3) fun j3 => sto 74 (g15 t) v2 l2 h2 j3 (gn Tryz.f23 23 22 4 c (p116 (p15 t (g15 t)) v2) t l2 h2 j3))
 (.reg fun c t l h k => jE ((118, (g14 t)) :: (117, (g8 t)) :: []) fun e0 => jF (ft0 :: ft0 :: []) fun q0 => clD c 43 [(g14 t)] l h (fun v0 f0 l0 h0 => bO (bin Pg .add 9 true (.str ⟨1, 112⟩) v0) fun v1 => bO (nilC (g7 t)) fun v2 => bO (fa Pg 108 v2 4) fun v3 => bO (ld Pg 80 v3 l0 h0) fun v4 => bO (ia Pg 80 v4 (g14 t)) fun v5 => bO (ld Pg 3 v5 l0 h0) fun v6 => jE ((127, v6) :: (126, v5) :: (125, (g14 t)) :: (124, v4) :: (123, v3) :: (122, v2) :: (121, (g7 t)) :: (120, v1) :: (119, v0) :: e0) fun e7 => jF ((ldF v5) :: ft0 :: ft0 :: (ldF v3) :: ft0 :: ft0 :: ft0 :: ft0 :: f0 :: q0) fun q7 => clD c 44 [v6] l0 h0 (fun v7 f7 l7 h7 => jE ((128, v7) :: e7) fun e8 => jF (f7 :: q7) fun q8 => gD Tryz.f23 23 23 12 c (p128 (p120 t v1) v7) l7 h7 (fun v8 f8 l8 h8 => jE ((129, v8) :: e8) fun e9 => jF (f8 :: q8) fun q9 => gD Tryz.f23 23 23 13 c (p129 t v8) l8 h8 (fun v9 f9 l9 h9 => jE ((130, v9) :: e9) fun e10 => jF (f9 :: q9) fun q10 => gD Tryz.f23 23 23 14 c (p130 (p117 t (g8 t)) v9) l9 h9 (fun v10 f10 l10 h10 => finD (rgA Tryz.f23 23).toList [] [(2, 7), (2, 10)] (ft0 :: f10 :: q10) (k (p8 t v10) l10 h10)) (sD Tryz.f23 23 23 c 14 (some 131) e10 q10 t l9 h9)) (sD Tryz.f23 23 23 c 13 (some 130) e9 q9 t l8 h8)) (sD Tryz.f23 23 23 c 12 (some 129) e8 q8 t l7 h7)) (sD Tryz.f23 23 23 c 11 (some 128) e7 q7 t l0 h0)) (sD Tryz.f23 23 23 c 2 (some 119) e0 q0 t l h))) .skip))
 (.reg fun c t l h k => bO (nilC (g7 t)) fun v0 => bO (fa Pg 108 v0 3) fun v1 => bO (ld Pg 106 v1 l h) fun v2 => bO (ld Pg 74 (g15 t) l h) fun v3 => jE ((137, v3) :: (136, v2) :: (135, v1) :: (134, v0) :: (133, (g7 t)) :: (132, (g7 t)) :: []) fun e4 => jF ((ldF (g15 t)) :: (ldF v1) :: ft0 :: ft0 :: ft0 :: ft0 :: []) fun q4 => gD Tryz.f23 23 24 6 c (p137 t v3) l h (fun v4 f4 l4 h4 => jE ((138, v4) :: e4) fun e5 => jF (f4 :: q4) fun q5 => gD Tryz.f23 23 24 7 c (p138 (p136 t v2) v4) l4 h4 (fun v5 f5 l5 h5 => bO (nilC (g7 t)) fun v6 => bO (fa Pg 108 v6 3) fun v7 => jE ((141, v7) :: (140, v6) :: (139, v5) :: e5) fun e8 => jF (ft0 :: ft0 :: f5 :: q5) fun q8 => gD Tryz.f23 23 24 10 c (p139 (p141 t v7) v5) l5 h5 (fun v8 f8 l8 h8 => finD (rgA Tryz.f23 24).toList [] [] (f8 :: q8) (k t l8 h8)) (sD Tryz.f23 23 24 c 10 none e8 q8 t l5 h5)) (sD Tryz.f23 23 24 c 7 (some 139) e5 q5 t l4 h4)) (sD Tryz.f23 23 24 c 6 (some 138) e4 q4 t l h)))))
 (.reg fun c t l h k => bO (bin Pg .add 3 true (g14 t) (I 1)) fun v0 => k (p14 t v0) l h))))))
 (.seq (.reg fun c t l h k => cl c 47 [(g0 t)] t l h fun v0 l0 h0 => k (p16 t v0) l0 h0)
 (.seq (.seq (.reg fun c t l h k => k (p17 t (I 0)) l h)
 (.block 6 (.loop (.seq (.seq (.reg fun c t l h k => bO (len (Pg.underlying 24) (g16 t)) fun v0 => bO (bin Pg .lss 3 false (g17 t) v0) fun v1 => k (p147 t v1) l h)
 (.cond (.tmp 147) .skip (.exit 6)))
 (.seq (.block 7 (.seq (.reg fun c t l h k => bO (nilC (g7 t)) fun v0 => bO (fa Pg 108 v0 5) fun v1 => bO (ld Pg 106 v1 l h) fun v2 => jE ((155, (g17 t)) :: (154, v2) :: (153, v1) :: (152, v0) :: (151, (g7 t)) :: (150, (g7 t)) :: []) fun e3 => jF (ft0 :: (ldF v1) :: ft0 :: ft0 :: ft0 :: ft0 :: []) fun q3 => clD c 43 [(g17 t)] l h (fun v3 f3 l3 h3 => bO (bin Pg .add 9 true (.str ⟨1, 99⟩) v3) fun v4 => jE ((157, v4) :: (156, v3) :: e3) fun e5 => jF (ft0 :: f3 :: q3) fun q5 => clD c 46 [v4, .nils] l3 h3 (fun v5 f5 l5 h5 => jE ((158, v5) :: e5) fun e6 => jF (f5 :: q5) fun q6 => gD Tryz.f23 23 29 9 c (p158 t v5) l5 h5 (fun v6 f6 l6 h6 => jE ((159, v6) :: e6) fun e7 => jF (f6 :: q6) fun q7 => gD Tryz.f23 23 29 10 c (p159 (p154 t v2) v6) l6 h6 (fun v7 f7 l7 h7 => bO (nilC (g7 t)) fun v8 => bO (fa Pg 108 v8 5) fun v9 => jE ((162, v9) :: (161, v8) :: (160, v7) :: e7) fun e10 => jF (ft0 :: ft0 :: f7 :: q7) fun q10 => gD Tryz.f23 23 29 13 c (p160 (p162 t v9) v7) l7 h7 (fun v10 f10 l10 h10 => finD (rgA Tryz.f23 29).toList [] [(4, 6), (4, 8)] (f10 :: q10) (k t l10 h10)) (sD Tryz.f23 23 29 c 13 none e10 q10 t l7 h7)) (sD Tryz.f23 23 29 c 10 (some 160) e7 q7 t l6 h6)) (sD Tryz.f23 23 29 c 9 (some 159) e6 q6 t l5 h5)) (sD Tryz.f23 23 29 c 8 (some 158) e5 q5 t l3 h3)) (sD Tryz.f23 23 29 c 6 (some 156) e3 q3 t l h))
 (.reg fun c t l h k => cl c 43 [(g17 t)] t l h fun v0 l0 h0 => bO (bin Pg .add 9 true (.str ⟨1, 99⟩) v0) fun v1 => gn Tryz.f23 23 30 4 c (p166 t v1) t l0 h0 (fun v2 l2 h2 => bO (bs Pg 32 1 [(0, v2)]) fun v3 => gn Tryz.f23 23 30 6 c (p168 (p163 t (g8 t)) v3) t l2 h2 (fun v4 l4 h4 => k (p8 t v4) l4 h4)))))
 (.reg fun c t l h k => bO (bin Pg .add 3 true (g17 t) (I 1)) fun v0 => k (p17 t v0) l h))))))
 (.seq (.reg fun c t l h k => bO (nilC (g7 t)) fun v0 => bO (fa Pg 108 v0 3) fun v1 => bO (ld Pg 106 v1 l h) fun v2 => bO (nilC (g7 t)) fun v3 => bO (fa Pg 108 v3 5) fun v4 => bO (ld Pg 106 v4 l h) fun v5 => jE ((179, v5) :: (178, v4) :: (177, v3) :: (176, (g7 t)) :: (175, v2) :: (174, v1) :: (173, v0) :: (172, (g7 t)) :: (171, (g1 t)) :: (170, (g0 t)) :: []) fun e6 => jF ((ldF v4) :: ft0 :: ft0 :: ft0 :: (ldF v1) :: ft0 :: ft0 :: ft0 :: ft0 :: ft0 :: []) fun q6 => clD c 49 [(g0 t), (g1 t), v2, v5] l h (fun v6 f6 l6 h6 => bO (nilC (g7 t)) fun v7 => bO (fa Pg 108 v7 2) fun v8 => bO (fa Pg 53 v8 11) fun v9 => bO (ld Pg 51 v9 l6 h6) fun v10 => bO (nilC (g7 t)) fun v11 => bO (fa Pg 108 v11 3) fun v12 => bO (ld Pg 106 v12 l6 h6) fun v13 => bO (nilC (g7 t)) fun v14 => bO (fa Pg 108 v14 4) fun v15 => bO (ld Pg 80 v15 l6 h6) fun v16 => bO (nilC (g7 t)) fun v17 => bO (fa Pg 108 v17 5) fun v18 => bO (ld Pg 106 v18 l6 h6) fun v19 => jE ((198, v19) :: (197, v18) :: (196, v17) :: (195, (g7 t)) :: (194, v16) :: (193, v15) :: (192, v14) :: (191, (g7 t)) :: (190, v13) :: (189, v12) :: (188, v11) :: (187, (g7 t)) :: (186, v10) :: (185, v9) :: (184, v8) :: (183, v7) :: (182, (g7 t)) :: (181, (g7 t)) :: (180, v6) :: e6) fun e20 => jF ((ldF v18) :: ft0 :: ft0 :: ft0 :: (ldF v15) :: ft0 :: ft0 :: ft0 :: (ldF v12) :: ft0 :: ft0 :: ft0 :: (ldF v9) :: ft0 :: ft0 :: ft0 :: ft0 :: ft0 :: f6 :: q6) fun q20 => gD Tryz.f23 23 31 29 c t l6 h6 (fun v20 f20 l20 h20 => jE ((199, v20) :: e20) fun e21 => jF (f20 :: q20) fun q21 => gD Tryz.f23 23 31 30 c (p199 t v20) l20 h20 (fun v21 f21 l21 h21 => jE ((200, v21) :: e21) fun e22 => jF (f21 :: q21) fun q22 => clD c 50 [(g7 t), v10, v13, v16, v19, v21] l21 h21 (fun v22 f22 l22 h22 => jE ((201, v22) :: e22) fun e23 => jF (f22 :: q22) fun q23 => gD Tryz.f23 23 31 32 c (p201 (p180 t v6) v22) l22 h22 (fun v23 f23 l23 h23 => jE ((202, v23) :: e23) fun e24 => jF (f23 :: q23) fun q24 => clD c 48 [(I 7), v23] l23 h23 (fun v24 f24 l24 h24 => jE ((203, v24) :: e24) fun e25 => jF (f24 :: q24) fun q25 => gD Tryz.f23 23 31 34 c t l24 h24 (fun v25 f25 l25 h25 => jE ((18, v25) :: e25) fun e26 => jF (f25 :: q25) fun q26 => gD Tryz.f23 23 31 35 c (p203 (p18 t v25) v24) l25 h25 (fun v26 f26 l26 h26 => finD (rgA Tryz.f23 31).toList [(5, 30), (9, 30), (16, 30), (20, 30), (24, 30), (28, 30), (5, 34), (9, 34), (16, 34), (20, 34), (24, 34), (28, 34), (30, 34)] [(10, 16), (10, 20), (10, 24), (10, 28), (5, 30), (9, 30), (10, 30), (16, 30), (20, 30), (24, 30), (28, 30), (5, 34), (9, 34), (10, 34), (16, 34), (20, 34), (24, 34), (28, 34), (30, 34), (31, 34), (33, 34)] (f26 :: q26) (k (p18 t v25) l26 h26)) (sD Tryz.f23 23 31 c 35 none e26 q26 t l25 h25)) (sD Tryz.f23 23 31 c 34 (some 18) e25 q25 t l24 h24)) (sD Tryz.f23 23 31 c 33 (some 203) e24 q24 t l23 h23)) (sD Tryz.f23 23 31 c 32 (some 202) e23 q23 t l22 h22)) (sD Tryz.f23 23 31 c 31 (some 201) e22 q22 t l21 h21)) (sD Tryz.f23 23 31 c 30 (some 200) e21 q21 t l20 h20)) (sD Tryz.f23 23 31 c 29 (some 199) e20 q20 t l6 h6)) (sD Tryz.f23 23 31 c 10 (some 180) e6 q6 t l h))
 (.seq (.block 8 (.seq (.reg fun c t l h k => bO (nilC (g7 t)) fun v0 => bO (fa Pg 108 v0 9) fun v1 => bO (ld Pg 4 v1 l h) fun v2 => jn (fun v3 l3 h3 => jn (fun v4 l4 h4 => jn (fun v5 l5 h5 => jn (fun v6 l6 h6 => jn (fun v7 l7 h7 => jn (fun v8 l8 h8 => bO (pick v2 (.bool true) v8) fun v9 => jn (fun v10 l10 h10 => jn (fun v11 l11 h11 => jn (fun v12 l12 h12 => bO (pick v9 (.bool true) v12) fun v13 => k (p204 t v13) l12 h12) fun j12 => brB (wv v9 false) (j12 (.tuple []) l11 h11) (bO (bin Pg .gtr 3 true v11 (I 50000)) fun v13 => j12 v13 l11 h11)) fun j11 => brB (wv v9 false) (j11 (.tuple []) l10 h10) (bO (ld Pg 3 v10 l10 h10) fun v12 => j11 v12 l10 h10)) fun j10 => brB (wv v9 false) (j10 (.tuple []) l8 h8) (bO (fa Pg 74 (g18 t) 1) fun v11 => j10 v11 l8 h8)) fun j8 => brB (wv v2 false) (j8 (.tuple []) l7 h7) (bO (bin Pg .gtr 3 true v7 (I 1000)) fun v9 => j8 v9 l7 h7)) fun j7 => brB (wv v2 false) (j7 (.tuple []) l6 h6) (bO (len (Pg.underlying 32) v6) fun v8 => j7 v8 l6 h6)) fun j6 => brB (wv v2 false) (j6 (.tuple []) l5 h5) (bO (ld Pg 32 v5 l5 h5) fun v7 => j6 v7 l5 h5)) fun j5 => brB (wv v2 false) (j5 (.tuple []) l4 h4) (bO (fa Pg 108 v4 6) fun v6 => j5 v6 l4 h4)) fun j4 => brB (wv v2 false) (j4 (.tuple []) l3 h3) (bO (nilC v3) fun v5 => j4 v5 l3 h3)) fun j3 => brB (wv v2 false) (j3 (.tuple []) l h) (j3 (g7 t) l h))
 (.cond (.tmp 204) (.seq (.reg fun c t l h k => gn Tryz.f23 23 33 0 c t t l h (fun v0 l0 h0 => jn (fun v1 l1 h1 => k (p6 (p5 t .nils) (I 34)) l1 h1) fun j1 => sto 74 (g4 t) v0 l0 h0 j1 (gn Tryz.f23 23 33 1 c (p222 (p4 t (g4 t)) v0) t l0 h0 j1)))
 .ret) (.seq (.reg fun c t l h k => bO (fa Pg 74 (g18 t) 2) fun v0 => bO (ld Pg 3 v0 l h) fun v1 => bO (bin Pg .gtr 3 true v1 (I 200)) fun v2 => k (p223 t v2) l h)
 (.cond (.tmp 223) (.seq (.reg fun c t l h k => gn Tryz.f23 23 35 0 c t t l h (fun v0 l0 h0 => jn (fun v1 l1 h1 => k (p6 (p5 t .nils) (I 33)) l1 h1) fun j1 => sto 74 (g4 t) v0 l0 h0 j1 (gn Tryz.f23 23 35 1 c (p227 (p4 t (g4 t)) v0) t l0 h0 j1)))
 .ret) .skip)))))
 (.seq (.reg fun c t l h k => bO (ld Pg 74 (g18 t) l h) fun v0 => bO (nilC (g7 t)) fun v1 => bO (fa Pg 108 v1 6) fun v2 => bO (ld Pg 32 v2 l h) fun v3 => jE ((233, v3) :: (232, v2) :: (231, v1) :: (230, (g7 t)) :: (229, (g8 t)) :: (228, v0) :: []) fun e4 => jF ((ldF v2) :: ft0 :: ft0 :: ft0 :: ft0 :: (ldF (g18 t)) :: []) fun q4 => gD Tryz.f23 23 36 6 c (p233 (p229 t (g8 t)) v3) l h (fun v4 f4 l4 h4 => jE ((234, v4) :: e4) fun e5 => jF (f4 :: q4) fun q5 => gD Tryz.f23 23 36 7 c (p228 (p4 t (g4 t)) v0) l4 h4 (fun v5 f5 l5 h5 => finD (rgA Tryz.f23 36).toList [(0, 6)] [(0, 6)] (ft0 :: ft0 :: f5 :: q5) (k (p6 (p5 t v4) (I 0)) l5 h5)) (sD Tryz.f23 23 36 c 7 none e5 q5 t l4 h4)) (sD Tryz.f23 23 36 c 6 (some 234) e4 q4 t l h))
 .ret))))))))))))

def kp24 : List Nat := [0, 1, 4, 5, 10, 14, 26]
def rc24 : RC := (.seq (.reg fun c t l h k => k (p4 t (.bool false)) l h)
 (.seq (.seq (.reg fun c t l h k => bO (len (Pg.underlying 28) (g0 t)) fun v0 => bO (len (Pg.underlying 28) (g1 t)) fun v1 => bO (bin Pg .neq 3 false v0 v1) fun v2 => k (p10 t v2) l h)
 (.cond (.tmp 10) (.seq (.reg fun c t l h k => k (p4 t (.bool false)) l h)
 .ret) .skip))
 (.seq (.seq (.reg fun c t l h k => k (p5 t (I 0)) l h)
 (.block 0 (.loop (.seq (.seq (.reg fun c t l h k => bO (len (Pg.underlying 28) (g0 t)) fun v0 => bO (bin Pg .lss 3 false (g5 t) v0) fun v1 => k (p14 t v1) l h)
 (.cond (.tmp 14) .skip (.exit 0)))
 (.seq (.block 1 (.seq (.reg fun c t l h k => bO (ia Pg 28 (g0 t) (g5 t)) fun v0 => bO (ld Pg 31 v0 l h) fun v1 => bO (ia Pg 28 (g1 t) (g5 t)) fun v2 => bO (ld Pg 31 v2 l h) fun v3 => jE ((24, v3) :: (23, v2) :: (22, (g5 t)) :: (21, (g1 t)) :: (20, v1) :: (19, v0) :: (18, (g5 t)) :: (17, (g0 t)) :: []) fun e4 => jF ((ldF v2) :: ft0 :: ft0 :: ft0 :: (ldF v0) :: ft0 :: ft0 :: ft0 :: []) fun q4 => clD c 11 [v1, v3] l h (fun v4 f4 l4 h4 => bO (G.un .not v4) fun v5 => finD (rgA Tryz.f24 6).toList [] [] (ft0 :: f4 :: q4) (k (p26 t v5) l4 h4)) (sD Tryz.f24 24 6 c 8 (some 25) e4 q4 t l h))
 (.cond (.tmp 26) (.seq (.reg fun c t l h k => k (p4 t (.bool false)) l h)
 .ret) .skip)))
 (.reg fun c t l h k => bO (bin Pg .add 3 true (g5 t) (I 1)) fun v0 => k (p5 t v0) l h))))))
 (.seq (.reg fun c t l h k => k (p4 t (.bool true)) l h)
 .ret))))

def kp25 : List Nat := [0, 1, 4, 5, 10, 14, 25]
def rc25 : RC := (.seq (.reg fun c t l h k => k (p4 t (.bool false)) l h)
 (.seq (.seq (.reg fun c t l h k => bO (len (Pg.underlying 80) (g0 t)) fun v0 => bO (len (Pg.underlying 80) (g1 t)) fun v1 => bO (bin Pg .neq 3 false v0 v1) fun v2 => k (p10 t v2) l h)
 (.cond (.tmp 10) (.seq (.reg fun c t l h k => k (p4 t (.bool false)) l h)
 .ret) .skip))
 (.seq (.seq (.reg fun c t l h k => k (p5 t (I 0)) l h)
 (.block 0 (.loop (.seq (.seq (.reg fun c t l h k => bO (len (Pg.underlying 80) (g0 t)) fun v0 => bO (bin Pg .lss 3 false (g5 t) v0) fun v1 => k (p14 t v1) l h)
 (.cond (.tmp 14) .skip (.exit 0)))
 (.seq (.block 1 (.seq (.reg fun c t l h k => bO (ia Pg 80 (g0 t) (g5 t)) fun v0 => bO (ld Pg 3 v0 l h) fun v1 => bO (ia Pg 80 (g1 t) (g5 t)) fun v2 => bO (ld Pg 3 v2 l h) fun v3 => bO (bin Pg .neq 3 false v1 v3) fun v4 => k (p25 t v4) l h)
 (.cond (.tmp 25) (.seq (.reg fun c t l h k => k (p4 t (.bool false)) l h)
 .ret) .skip)))
 (.reg fun c t l h k => bO (bin Pg .add 3 true (g5 t) (I 1)) fun v0 => k (p5 t v0) l h))))))
 (.seq (.reg fun c t l h k => k (p4 t (.bool true)) l h)
 .ret))))

def kp28 : List Nat := [0, 2, 3, 4, 6, 9]
def rc28 : RC := (.seq (.reg fun c t l h k => k (p3 (p2 t .nils) (.bool false)) l h)
 (.seq (.seq (.reg fun c t l h k => bO (len (Pg.underlying 9) (g0 t)) fun v0 => bO (bin Pg .gtr 3 true v0 (I 1500)) fun v1 => k (p9 t v1) l h)
 (.cond (.tmp 9) (.seq (.reg fun c t l h k => k (p3 (p2 t .nils) (.bool false)) l h)
 .ret) .skip))
 (.seq (.reg fun c t l h k => cl c 51 [(g0 t)] t l h fun v0 l0 h0 => bO (ext v0 0) fun v1 => bO (ext v0 1) fun v2 => bO (ext v0 2) fun v3 => k (p6 (p4 t v1) v3) l0 h0)
 (.seq (.reg fun c t l h k => bO (bin Pg .eql 3 true (g6 t) (I 0)) fun v0 => k (p3 (p2 t (g4 t)) v0) l h)
 .ret))))

def kp29 : List Nat := [0, 2, 3, 4, 5, 6, 7, 8, 9, 10, 11, 12, 25, 49, 55, 72, 88, 100, 187, 207]
def rc29 : RC := (.seq (.reg fun c t l h k => k (p4 (p3 (p2 t .nils) (I 0)) (I 0)) l h)
 (.seq (.reg fun c t l h k => gn Tryz.f29 29 1 0 c t t l h (fun v0 l0 h0 => gn Tryz.f29 29 1 1 c (p13 t v0) t l0 h0 (fun v1 l1 h1 => k (p5 t v1) l1 h1)))
 (.seq (.reg fun c t l h k => k (p6 t .nils) l h)
 (.seq (.seq (.reg fun c t l h k => k (p7 t (I 0)) l h)
 (.block 0 (.loop (.seq (.seq (.reg fun c t l h k => bO (len (Pg.underlying 25) (g0 t)) fun v0 => bO (bin Pg .lss 3 false (g7 t) v0) fun v1 => jn (fun v2 l2 h2 => jn (fun v3 l3 h3 => jn (fun v4 l4 h4 => jn (fun v5 l5 h5 => jn (fun v6 l6 h6 => bO (pick v1 v6 (.bool false)) fun v7 => k (p25 t v7) l6 h6) fun j6 => brB (wv v1 true) (j6 (.tuple []) l5 h5) (bO (bin Pg .eql 3 true v5 (I 0)) fun v7 => j6 v7 l5 h5)) fun j5 => brB (wv v1 true) (j5 (.tuple []) l4 h4) (bO (ld Pg 3 v4 l4 h4) fun v6 => j5 v6 l4 h4)) fun j4 => brB (wv v1 true) (j4 (.tuple []) l3 h3) (bO (fa Pg 122 v3 2) fun v5 => j4 v5 l3 h3)) fun j3 => brB (wv v1 true) (j3 (.tuple []) l2 h2) (bO (nilC v2) fun v4 => j3 v4 l2 h2)) fun j2 => brB (wv v1 true) (j2 (.tuple []) l h) (j2 (g5 t) l h))
 (.cond (.tmp 25) .skip (.exit 0)))
 (.seq (.block 1 (.seq (.reg fun c t l h k => bO (ia Pg 25 (g0 t) (g7 t)) fun v0 => bO (ld Pg 53 v0 l h) fun v1 => al Pg 53 8 l fun v2 l2 => jn (fun v3 l3 h3 => k (p8 t v2) l3 h3) fun j3 => sto 53 v2 v1 l2 h j3 (gn Tryz.f29 29 6 5 c (p31 (p8 t v2) v1) t l2 h j3))
 (.seq (.seq (.reg fun c t l h k => bO (nilC (g5 t)) fun v0 => bO (fa Pg 122 v0 0) fun v1 => bO (ld Pg 24 v1 l h) fun v2 => bO (fa Pg 53 (g8 t) 1) fun v3 => bO (ld Pg 9 v3 l h) fun v4 => jE ((37, v4) :: (36, v3) :: (35, v2) :: (34, v1) :: (33, v0) :: (32, (g5 t)) :: []) fun e5 => jF ((ldF v3) :: ft0 :: (ldF v1) :: ft0 :: ft0 :: ft0 :: []) fun q5 => clD c 52 [v2, v4] l h (fun v5 f5 l5 h5 => bO (bin Pg .geq 3 true v5 (I 0)) fun v6 => jn (fun v7 f7 l7 h7 => jn (fun v8 f8 l8 h8 => jn (fun v9 f9 l9 h9 => jn (fun v10 f10 l10 h10 => jn (fun v11 f11 l11 h11 => jn (fun v12 f12 l12 h12 => jn (fun v13 f13 l13 h13 => jn (fun v14 f14 l14 h14 => bO (pick v6 (.bool true) v14) fun v15 => finD (rgA Tryz.f29 7).toList [] [] (ft0 :: f14 :: f13 :: f12 :: f11 :: f10 :: f9 :: f8 :: f7 :: ft0 :: ft0 :: f5 :: q5) (k (p49 t v15) l14 h14)) fun j14 => brB (wv v6 false) (j14 (.tuple []) ft0 l13 h13) (bO (bin Pg .geq 3 true v13 (I 0)) fun v15 => j14 v15 ft0 l13 h13)) fun j13 => brB (wv v6 false) (j13 (.tuple []) ft0 l12 h12) (jE ((46, v12) :: (45, v11) :: (44, v10) :: (43, v9) :: (42, v8) :: (41, v7) :: (40, v6) :: (39, v6) :: (38, v5) :: e5) fun e14 => jF (f12 :: f11 :: f10 :: f9 :: f8 :: f7 :: ft0 :: ft0 :: f5 :: q5) fun q14 => clD c 52 [v10, v12] l12 h12 (fun v14 f14 l14 h14 => j13 v14 f14 l14 h14) (sD Tryz.f29 29 7 c 15 (some 47) e14 q14 t l12 h12))) fun j12 => brB (wv v6 false) (j12 (.tuple []) ft0 l11 h11) (bO (ld Pg 9 v11 l11 h11) fun v13 => j12 v13 (ldF v11) l11 h11)) fun j11 => brB (wv v6 false) (j11 (.tuple []) ft0 l10 h10) (bO (fa Pg 53 (g8 t) 1) fun v12 => j11 v12 ft0 l10 h10)) fun j10 => brB (wv v6 false) (j10 (.tuple []) ft0 l9 h9) (bO (ld Pg 24 v9 l9 h9) fun v11 => j10 v11 (ldF v9) l9 h9)) fun j9 => brB (wv v6 false) (j9 (.tuple []) ft0 l8 h8) (bO (fa Pg 122 v8 1) fun v10 => j9 v10 ft0 l8 h8)) fun j8 => brB (wv v6 false) (j8 (.tuple []) ft0 l7 h7) (bO (nilC v7) fun v9 => j8 v9 ft0 l7 h7)) fun j7 => brB (wv v6 false) (j7 (.tuple []) ft0 l5 h5) (j7 (g5 t) ft0 l5 h5)) (sD Tryz.f29 29 7 c 6 (some 38) e5 q5 t l h))
 (.cond (.tmp 49) (.seq (.reg fun c t l h k => bO (fa Pg 53 (g8 t) 12) fun v0 => bO (ld Pg 3 v0 l h) fun v1 => cl c 53 [(g5 t), v1, (I 171)] t l h fun v2 l2 h2 => k t l2 h2)
 (.exit 0)) .skip))
 (.seq (.seq (.reg fun c t l h k => bO (fa Pg 53 (g8 t) 0) fun v0 => bO (ld Pg 4 v0 l h) fun v1 => k (p55 t v1) l h)
 (.cond (.tmp 55) (.seq (.reg fun c t l h k => bO (nilC (g5 t)) fun v0 => bO (fa Pg 122 v0 0) fun v1 => bO (ld Pg 24 v1 l h) fun v2 => bO (fa Pg 53 (g8 t) 1) fun v3 => bO (ld Pg 9 v3 l h) fun v4 => jE ((62, v4) :: (61, v3) :: (60, v2) :: (59, v1) :: (58, v0) :: (57, (g5 t)) :: (56, (g5 t)) :: []) fun e5 => jF ((ldF v3) :: ft0 :: (ldF v1) :: ft0 :: ft0 :: ft0 :: ft0 :: []) fun q5 => gD Tryz.f29 29 10 7 c (p62 t v4) l h (fun v5 f5 l5 h5 => jE ((63, v5) :: e5) fun e6 => jF (f5 :: q5) fun q6 => gD Tryz.f29 29 10 8 c (p63 (p60 t v2) v5) l5 h5 (fun v6 f6 l6 h6 => bO (nilC (g5 t)) fun v7 => bO (fa Pg 122 v7 0) fun v8 => jE ((66, v8) :: (65, v7) :: (64, v6) :: e6) fun e9 => jF (ft0 :: ft0 :: f6 :: q6) fun q9 => gD Tryz.f29 29 10 11 c (p64 (p66 t v8) v6) l6 h6 (fun v9 f9 l9 h9 => finD (rgA Tryz.f29 10).toList [] [] (f9 :: q9) (k t l9 h9)) (sD Tryz.f29 29 10 c 11 none e9 q9 t l6 h6)) (sD Tryz.f29 29 10 c 8 (some 64) e6 q6 t l5 h5)) (sD Tryz.f29 29 10 c 7 (some 63) e5 q5 t l h))
 (.seq (.reg fun c t l h k => bO (ld Pg 53 (g8 t) l h) fun v0 => bO (bs Pg 25 1 [(0, v0)]) fun v1 => gn Tryz.f29 29 11 3 c (p69 (p67 t (g6 t)) v1) t l h (fun v2 l2 h2 => k (p6 t v2) l2 h2))
 (.exit 1))) .skip))
 (.seq (.seq (.reg fun c t l h k => bO (fa Pg 53 (g8 t) 3) fun v0 => bO (ld Pg 4 v0 l h) fun v1 => k (p72 t v1) l h)
 (.cond (.tmp 72) (.reg fun c t l h k => bO (nilC (g5 t)) fun v0 => bO (fa Pg 122 v0 1) fun v1 => bO (ld Pg 24 v1 l h) fun v2 => bO (fa Pg 53 (g8 t) 1) fun v3 => bO (ld Pg 9 v3 l h) fun v4 => jE ((79, v4) :: (78, v3) :: (77, v2) :: (76, v1) :: (75, v0) :: (74, (g5 t)) :: (73, (g5 t)) :: []) fun e5 => jF ((ldF v3) :: ft0 :: (ldF v1) :: ft0 :: ft0 :: ft0 :: ft0 :: []) fun q5 => gD Tryz.f29 29 13 7 c (p79 t v4) l h (fun v5 f5 l5 h5 => jE ((80, v5) :: e5) fun e6 => jF (f5 :: q5) fun q6 => gD Tryz.f29 29 13 8 c (p80 (p77 t v2) v5) l5 h5 (fun v6 f6 l6 h6 => bO (nilC (g5 t)) fun v7 => bO (fa Pg 122 v7 1) fun v8 => jE ((83, v8) :: (82, v7) :: (81, v6) :: e6) fun e9 => jF (ft0 :: ft0 :: f6 :: q6) fun q9 => gD Tryz.f29 29 13 11 c (p81 (p83 t v8) v6) l6 h6 (fun v9 f9 l9 h9 => finD (rgA Tryz.f29 13).toList [] [] (f9 :: q9) (k t l9 h9)) (sD Tryz.f29 29 13 c 11 none e9 q9 t l6 h6)) (sD Tryz.f29 29 13 c 8 (some 81) e6 q6 t l5 h5)) (sD Tryz.f29 29 13 c 7 (some 80) e5 q5 t l h)) .skip))
 (.seq (.reg fun c t l h k => k (p9 t .nils) l h)
 (.seq (.reg fun c t l h k => k (p10 t .nils) l h)
 (.seq (.seq (.reg fun c t l h k => k (p11 t (I 0)) l h)
 (.block 2 (.loop (.seq (.seq (.reg fun c t l h k => bO (fa Pg 53 (g8 t) 4) fun v0 => bO (ld Pg 46 v0 l h) fun v1 => bO (len (Pg.underlying 46) v1) fun v2 => bO (bin Pg .lss 3 false (g11 t) v2) fun v3 => k (p88 t v3) l h)
 (.cond (.tmp 88) .skip (.exit 2)))
 (.seq (.block 3 (.seq (.reg fun c t l h k => bO (fa Pg 53 (g8 t) 4) fun v0 => bO (ld Pg 46 v0 l h) fun v1 => bO (ia Pg 46 v1 (g11 t)) fun v2 => bO (ld Pg 92 v2 l h) fun v3 => al Pg 92 12 l fun v4 l4 => jn (fun v5 l5 h5 => k (p12 t v4) l5 h5) fun j5 => sto 92 v4 v3 l4 h j5 (gn Tryz.f29 29 19 6 c (p95 (p12 t v4) v3) t l4 h j5))
 (.seq (.seq (.reg fun c t l h k => bO (fa Pg 92 (g12 t) 0) fun v0 => bO (ld Pg 9 v0 l h) fun v1 => cl c 52 [(g9 t), v1] t l h fun v2 l2 h2 => bO (bin Pg .geq 3 true v2 (I 0)) fun v3 => k (p100 t v3) l2 h2)
 (.cond (.tmp 100) (.reg fun c t l h k => bO (fa Pg 92 (g12 t) 2) fun v0 => bO (ld Pg 3 v0 l h) fun v1 => cl c 53 [(g5 t), v1, (I 171)] t l h fun v2 l2 h2 => k t l2 h2) .skip))
 (.seq (.reg fun c t l h k => bO (fa Pg 92 (g12 t) 1) fun v0 => bO (fa Pg 49 v0 2) fun v1 => bO (ld Pg 47 v1 l h) fun v2 => bO (len (Pg.underlying 24) (g9 t)) fun v3 => bO (len (Pg.underlying 24) (g9 t)) fun v4 => bO (slc Pg 24 (g9 t) none (some v3) (some v4)) fun v5 => bO (fa Pg 92 (g12 t) 1) fun v6 => bO (fa Pg 49 v6 1) fun v7 => bO (ld Pg 9 v7 l h) fun v8 => jE ((117, v8) :: (116, v7) :: (115, v6) :: (114, v5) :: (113, v4) :: (112, (g9 t)) :: (111, v3) :: (110, (g9 t)) :: (109, (g9 t)) :: (108, v2) :: (107, v1) :: (106, v0) :: (105, (g5 t)) :: []) fun e9 => jF ((ldF v7) :: ft0 :: ft0 :: ft0 :: ft0 :: ft0 :: ft0 :: ft0 :: ft0 :: (ldF v1) :: ft0 :: ft0 :: ft0 :: []) fun q9 => gD Tryz.f29 29 22 13 c (p117 t v8) l h (fun v9 f9 l9 h9 => jE ((118, v9) :: e9) fun e10 => jF (f9 :: q9) fun q10 => gD Tryz.f29 29 22 14 c (p118 (p114 t v5) v9) l9 h9 (fun v10 f10 l10 h10 => jE ((119, v10) :: e10) fun e11 => jF (f10 :: q10) fun q11 => clD c 54 [(g5 t), v2, v10, (.bool false)] l10 h10 (fun v11 f11 l11 h11 => bO (fa Pg 92 (g12 t) 1) fun v12 => bO (fa Pg 49 v12 2) fun v13 => jE ((122, v13) :: (121, v12) :: (120, v11) :: e11) fun e14 => jF (ft0 :: ft0 :: f11 :: q11) fun q14 => gD Tryz.f29 29 22 18 c (p120 (p122 t v13) v11) l11 h11 (fun v14 f14 l14 h14 => finD (rgA Tryz.f29 22).toList [(3, 14)] [(3, 14)] (f14 :: q14) (k t l14 h14)) (sD Tryz.f29 29 22 c 18 none e14 q14 t l11 h11)) (sD Tryz.f29 29 22 c 15 (some 120) e11 q11 t l10 h10)) (sD Tryz.f29 29 22 c 14 (some 119) e10 q10 t l9 h9)) (sD Tryz.f29 29 22 c 13 (some 118) e9 q9 t l h))
 (.seq (.reg fun c t l h k => bO (fa Pg 92 (g12 t) 0) fun v0 => bO (ld Pg 9 v0 l h) fun v1 => bO (bs Pg 24 1 [(0, v1)]) fun v2 => gn Tryz.f29 29 23 4 c (p126 (p123 t (g9 t)) v2) t l h (fun v3 l3 h3 => k (p9 t v3) l3 h3))
 (.reg fun c t l h k => bO (ld Pg 92 (g12 t) l h) fun v0 => bO (bs Pg 46 1 [(0, v0)]) fun v1 => gn Tryz.f29 29 24 3 c (p130 (p128 t (g10 t)) v1) t l h (fun v2 l2 h2 => k (p10 t v2) l2 h2)))))))
 (.reg fun c t l h k => bO (bin Pg .add 3 true (g11 t) (I 1)) fun v0 => k (p11 t v0) l h))))))
 (.seq (.reg fun c t l h k => bO (fa Pg 53 (g8 t) 4) fun v0 => jn (fun v1 l1 h1 => k t l1 h1) fun j1 => sto 46 v0 (g10 t) l h j1 (gn Tryz.f29 29 25 2 c (p132 (p133 t v0) (g10 t)) t l h j1))
 (.seq (.reg fun c t l h k => bO (fa Pg 53 (g8 t) 7) fun v0 => bO (ld Pg 47 v0 l h) fun v1 => cl c 54 [(g5 t), v1, (g9 t), (.bool false)] t l h fun v2 l2 h2 => bO (fa Pg 53 (g8 t) 7) fun v3 => jn (fun v4 l4 h4 => k t l4 h4) fun j4 => sto 47 v3 v2 l2 h2 j4 (gn Tryz.f29 29 26 6 c (p138 (p139 t v3) v2) t l2 h2 j4))
 (.seq (.reg fun c t l h k => bO (fa Pg 53 (g8 t) 6) fun v0 => bO (fa Pg 49 v0 2) fun v1 => bO (ld Pg 47 v1 l h) fun v2 => bO (len (Pg.underlying 24) (g9 t)) fun v3 => bO (len (Pg.underlying 24) (g9 t)) fun v4 => bO (slc Pg 24 (g9 t) none (some v3) (some v4)) fun v5 => bO (fa Pg 53 (g8 t) 6) fun v6 => bO (fa Pg 49 v6 1) fun v7 => bO (ld Pg 9 v7 l h) fun v8 => jE ((152, v8) :: (151, v7) :: (150, v6) :: (149, v5) :: (148, v4) :: (147, (g9 t)) :: (146, v3) :: (145, (g9 t)) :: (144, (g9 t)) :: (143, v2) :: (142, v1) :: (141, v0) :: (140, (g5 t)) :: []) fun e9 => jF ((ldF v7) :: ft0 :: ft0 :: ft0 :: ft0 :: ft0 :: ft0 :: ft0 :: ft0 :: (ldF v1) :: ft0 :: ft0 :: ft0 :: []) fun q9 => gD Tryz.f29 29 27 13 c (p152 t v8) l h (fun v9 f9 l9 h9 => jE ((153, v9) :: e9) fun e10 => jF (f9 :: q9) fun q10 => gD Tryz.f29 29 27 14 c (p153 (p149 t v5) v9) l9 h9 (fun v10 f10 l10 h10 => jE ((154, v10) :: e10) fun e11 => jF (f10 :: q10) fun q11 => clD c 54 [(g5 t), v2, v10, (.bool false)] l10 h10 (fun v11 f11 l11 h11 => bO (fa Pg 53 (g8 t) 6) fun v12 => bO (fa Pg 49 v12 2) fun v13 => jE ((157, v13) :: (156, v12) :: (155, v11) :: e11) fun e14 => jF (ft0 :: ft0 :: f11 :: q11) fun q14 => gD Tryz.f29 29 27 18 c (p155 (p157 t v13) v11) l11 h11 (fun v14 f14 l14 h14 => finD (rgA Tryz.f29 27).toList [(3, 14)] [(3, 14)] (f14 :: q14) (k t l14 h14)) (sD Tryz.f29 29 27 c 18 none e14 q14 t l11 h11)) (sD Tryz.f29 29 27 c 15 (some 155) e11 q11 t l10 h10)) (sD Tryz.f29 29 27 c 14 (some 154) e10 q10 t l9 h9)) (sD Tryz.f29 29 27 c 13 (some 153) e9 q9 t l h))
 (.seq (.reg fun c t l h k => bO (fa Pg 53 (g8 t) 9) fun v0 => bO (ld Pg 47 v0 l h) fun v1 => bO (len (Pg.underlying 24) (g9 t)) fun v2 => bO (len (Pg.underlying 24) (g9 t)) fun v3 => bO (slc Pg 24 (g9 t) none (some v2) (some v3)) fun v4 => bO (fa Pg 53 (g8 t) 8) fun v5 => bO (ld Pg 9 v5 l h) fun v6 => jE ((168, v6) :: (167, v5) :: (166, v4) :: (165, v3) :: (164, (g9 t)) :: (163, v2) :: (162, (g9 t)) :: (161, (g9 t)) :: (160, v1) :: (159, v0) :: (158, (g5 t)) :: []) fun e7 => jF ((ldF v5) :: ft0 :: ft0 :: ft0 :: ft0 :: ft0 :: ft0 :: ft0 :: (ldF v0) :: ft0 :: ft0 :: []) fun q7 => gD Tryz.f29 29 28 11 c (p168 t v6) l h (fun v7 f7 l7 h7 => jE ((169, v7) :: e7) fun e8 => jF (f7 :: q7) fun q8 => gD Tryz.f29 29 28 12 c (p169 (p166 t v4) v7) l7 h7 (fun v8 f8 l8 h8 => jE ((170, v8) :: e8) fun e9 => jF (f8 :: q8) fun q9 => clD c 54 [(g5 t), v1, v8, (.bool true)] l8 h8 (fun v9 f9 l9 h9 => bO (fa Pg 53 (g8 t) 9) fun v10 => jE ((172, v10) :: (171, v9) :: e9) fun e11 => jF (ft0 :: f9 :: q9) fun q11 => gD Tryz.f29 29 28 15 c (p171 (p172 t v10) v9) l9 h9 (fun v11 f11 l11 h11 => finD (rgA Tryz.f29 28).toList [(2, 12)] [(2, 12)] (f11 :: q11) (k t l11 h11)) (sD Tryz.f29 29 28 c 15 none e11 q11 t l9 h9)) (sD Tryz.f29 29 28 c 13 (some 171) e9 q9 t l8 h8)) (sD Tryz.f29 29 28 c 12 (some 170) e8 q8 t l7 h7)) (sD Tryz.f29 29 28 c 11 (some 169) e7 q7 t l h))
 (.seq (.reg fun c t l h k => bO (fa Pg 53 (g8 t) 10) fun v0 => bO (ld Pg 47 v0 l h) fun v1 => cl c 54 [(g5 t), v1, (g9 t), (.bool false)] t l h fun v2 l2 h2 => bO (fa Pg 53 (g8 t) 10) fun v3 => jn (fun v4 l4 h4 => k t l4 h4) fun j4 => sto 47 v3 v2 l2 h2 j4 (gn Tryz.f29 29 29 6 c (p177 (p178 t v3) v2) t l2 h2 j4))
 (.seq (.reg fun c t l h k => bO (fa Pg 53 (g8 t) 11) fun v0 => bO (ld Pg 51 v0 l h) fun v1 => cl c 55 [(g5 t), v1, (g9 t), (.bool false)] t l h fun v2 l2 h2 => bO (fa Pg 53 (g8 t) 11) fun v3 => jn (fun v4 l4 h4 => k t l4 h4) fun j4 => sto 51 v3 v2 l2 h2 j4 (gn Tryz.f29 29 30 6 c (p183 (p184 t v3) v2) t l2 h2 j4))
 (.seq (.seq (.reg fun c t l h k => bO (fa Pg 53 (g8 t) 3) fun v0 => bO (ld Pg 4 v0 l h) fun v1 => bO (G.un .not v1) fun v2 => k (p187 t v2) l h)
 (.cond (.tmp 187) (.reg fun c t l h k => bO (nilC (g5 t)) fun v0 => bO (fa Pg 122 v0 1) fun v1 => bO (ld Pg 24 v1 l h) fun v2 => bO (fa Pg 53 (g8 t) 1) fun v3 => bO (ld Pg 9 v3 l h) fun v4 => jE ((194, v4) :: (193, v3) :: (192, v2) :: (191, v1) :: (190, v0) :: (189, (g5 t)) :: (188, (g5 t)) :: []) fun e5 => jF ((ldF v3) :: ft0 :: (ldF v1) :: ft0 :: ft0 :: ft0 :: ft0 :: []) fun q5 => gD Tryz.f29 29 32 7 c (p194 t v4) l h (fun v5 f5 l5 h5 => jE ((195, v5) :: e5) fun e6 => jF (f5 :: q5) fun q6 => gD Tryz.f29 29 32 8 c (p195 (p192 t v2) v5) l5 h5 (fun v6 f6 l6 h6 => bO (nilC (g5 t)) fun v7 => bO (fa Pg 122 v7 1) fun v8 => jE ((198, v8) :: (197, v7) :: (196, v6) :: e6) fun e9 => jF (ft0 :: ft0 :: f6 :: q6) fun q9 => gD Tryz.f29 29 32 11 c (p196 (p198 t v8) v6) l6 h6 (fun v9 f9 l9 h9 => finD (rgA Tryz.f29 32).toList [] [] (f9 :: q9) (k t l9 h9)) (sD Tryz.f29 29 32 c 11 none e9 q9 t l6 h6)) (sD Tryz.f29 29 32 c 8 (some 196) e6 q6 t l5 h5)) (sD Tryz.f29 29 32 c 7 (some 195) e5 q5 t l h)) .skip))
 (.reg fun c t l h k => bO (ld Pg 53 (g8 t) l h) fun v0 => bO (bs Pg 25 1 [(0, v0)]) fun v1 => gn Tryz.f29 29 33 3 c (p201 (p199 t (g6 t)) v1) t l h (fun v2 l2 h2 => k (p6 t v2) l2 h2)))))))))))))))))
 (.reg fun c t l h k => bO (bin Pg .add 3 true (g7 t) (I 1)) fun v0 => k (p7 t v0) l h))))))
 (.seq (.seq (.reg fun c t l h k => bO (nilC (g5 t)) fun v0 => bO (fa Pg 122 v0 2) fun v1 => bO (ld Pg 3 v1 l h) fun v2 => bO (bin Pg .neq 3 true v2 (I 0)) fun v3 => k (p207 t v3) l h)
 (.cond (.tmp 207) (.seq (.reg fun c t l h k => bO (nilC (g5 t)) fun v0 => bO (fa Pg 122 v0 3) fun v1 => bO (ld Pg 3 v1 l h) fun v2 => bO (nilC (g5 t)) fun v3 => bO (fa Pg 122 v3 2) fun v4 => bO (ld Pg 3 v4 l h) fun v5 => k (p4 (p3 (p2 t .nils) v2) v5) l h)
 .ret) .skip))
 (.seq (.reg fun c t l h k => k (p4 (p3 (p2 t (g6 t)) (I 0)) (I 0)) l h)
 .ret))))))

def kp31 : List Nat := [0, 1, 2, 3, 4, 5, 7, 12, 17, 27, 37]
def rc31 : RC := (.seq (.reg fun c t l h k => gn Tryz.f31 31 0 0 c (p1 t (g1 t)) t l h (fun v0 l0 h0 => k (p7 t v0) l0 h0))
 (.seq (.seq (.reg fun c t l h k => bO (nilC (g0 t)) fun v0 => bO (fa Pg 89 v0 1) fun v1 => bO (ld Pg 3 v1 l h) fun v2 => bO (bin Pg .neq 3 true v2 (I 0)) fun v3 => k (p17 t v3) l h)
 (.cond (.tmp 17) .ret .skip))
 (.seq (.reg fun c t l h k => bO (ld Pg 51 (g7 t) l h) fun v0 => cl c 32 [(g0 t), v0, (g2 t), (g3 t)] t l h fun v1 l1 h1 => k t l1 h1)
 (.seq (.seq (.reg fun c t l h k => bO (nilC (g0 t)) fun v0 => bO (fa Pg 89 v0 1) fun v1 => bO (ld Pg 3 v1 l h) fun v2 => bO (bin Pg .neq 3 true v2 (I 0)) fun v3 => k (p27 t v3) l h)
 (.cond (.tmp 27) .ret .skip))
 (.seq (.reg fun c t l h k => bO (nilC (g0 t)) fun v0 => bO (fa Pg 89 v0 0) fun v1 => bO (ld Pg 25 v1 l h) fun v2 => bO (ld Pg 51 (g7 t) l h) fun v3 => jE ((34, (g5 t)) :: (33, (g4 t)) :: (32, v3) :: (31, v2) :: (30, v1) :: (29, v0) :: (28, (g0 t)) :: []) fun e4 => jF (ft0 :: ft0 :: (ldF (g7 t)) :: (ldF v1) :: ft0 :: ft0 :: ft0 :: []) fun q4 => clD c 56 [v2, v3, (g4 t), (g5 t)] l h (fun v4 f4 l4 h4 => finD (rgA Tryz.f31 4).toList [] [] (ft0 :: f4 :: q4) (k (p12 t v4) l4 h4)) (sD Tryz.f31 31 4 c 7 (some 35) e4 q4 t l h))
 (.seq (.reg fun c t l h k => bO (bin Pg .geq 3 true (g12 t) (I 0)) fun v0 => k (p37 t v0) l h)
 (.cond (.tmp 37) (.reg fun c t l h k => cl c 30 [(g0 t), (g12 t), (I 183)] t l h fun v0 l0 h0 => k t l0 h0) .skip)))))))

def kp32 : List Nat := [0, 1, 2, 3, 5, 8, 22]
def rc32 : RC := (.seq (.reg fun c t l h k => gn Tryz.f32 32 0 0 c (p1 t (g1 t)) t l h (fun v0 l0 h0 => k (p5 t v0) l0 h0))
 (.seq (.reg fun c t l h k => bO (ld Pg 51 (g5 t) l h) fun v0 => cl c 57 [(g0 t), v0, (g2 t)] t l h fun v1 l1 h1 => k (p8 t v1) l1 h1)
 (.seq (.reg fun c t l h k => bO (nilC (g0 t)) fun v0 => bO (fa Pg 89 v0 1) fun v1 => bO (ld Pg 3 v1 l h) fun v2 => bO (bin Pg .eql 3 true v2 (I 0)) fun v3 => jn (fun v4 l4 h4 => jn (fun v5 l5 h5 => jn (fun v6 l6 h6 => bO (pick v3 v6 (.bool false)) fun v7 => k (p22 t v7) l6 h6) fun j6 => brB (wv v3 true) (j6 (.tuple []) l5 h5) (bO (bin Pg .neq 3 false v4 v5) fun v7 => j6 v7 l5 h5)) fun j5 => brB (wv v3 true) (j5 (.tuple []) l4 h4) (j5 (g3 t) l4 h4)) fun j4 => brB (wv v3 true) (j4 (.tuple []) l h) (j4 (g8 t) l h))
 (.cond (.tmp 22) (.reg fun c t l h k => bO (fa Pg 51 (g5 t) 6) fun v0 => bO (ld Pg 3 v0 l h) fun v1 => cl c 30 [(g0 t), v1, (I 180)] t l h fun v2 l2 h2 => k t l2 h2) .skip))))

def kp33 : List Nat := [0, 1, 3, 4, 5, 6, 7, 8, 9, 10, 11, 12, 13, 14, 20, 48, 54, 55, 59, 61]
def rc33 : RC := (.seq (.reg fun c t l h k => gn Tryz.f33 33 0 0 c (p1 t (g1 t)) t l h (fun v0 l0 h0 => k (p6 (p5 (p4 (p3 t v0) (.bool false)) (.bool false)) (.bool false)) l0 h0))
 (.seq (.reg fun c t l h k => k (p9 (p8 (p7 t (.bool false)) (.bool false)) (.bool false)) l h)
 (.seq (.seq (.reg fun c t l h k => k (p10 t (I 0)) l h)
 (.block 0 (.loop (.seq (.seq (.reg fun c t l h k => bO (fa Pg 51 (g3 t) 4) fun v0 => bO (ld Pg 47 v0 l h) fun v1 => bO (len (Pg.underlying 47) v1) fun v2 => bO (bin Pg .lss 3 false (g10 t) v2) fun v3 => k (p20 t v3) l h)
 (.cond (.tmp 20) .skip (.exit 0)))
 (.seq (.block 1 (.seq (.reg fun c t l h k => bO (fa Pg 51 (g3 t) 4) fun v0 => bO (ld Pg 47 v0 l h) fun v1 => bO (ia Pg 47 v1 (g10 t)) fun v2 => bO (ld Pg 51 v2 l h) fun v3 => cl c 33 [(g0 t), v3] t l h fun v4 l4 h4 => bO (ext v4 0) fun v5 => bO (ext v4 1) fun v6 => bO (ext v4 2) fun v7 => k (p13 (p12 (p11 t v5) v6) v7) l4 h4)
 (.seq (.reg fun c t l h k => jn (fun v0 l0 h0 => bO (pick (g7 t) (.bool true) v0) fun v1 => jn (fun v2 l2 h2 => bO (pick (g9 t) (.bool true) v2) fun v3 => k (p9 (p7 t v1) v3) l2 h2) fun j2 => brB (wv (g9 t) false) (j2 (.tuple []) l0 h0) (j2 (g13 t) l0 h0)) fun j0 => brB (wv (g7 t) false) (j0 (.tuple []) l h) (j0 (g11 t) l h))
 (.seq (.reg fun c t l h k => bO (fa Pg 51 (g3 t) 0) fun v0 => bO (ld Pg 3 v0 l h) fun v1 => bO (bin Pg .neq 3 true v1 (I 27)) fun v2 => jn (fun v3 l3 h3 => jn (fun v4 l4 h4 => bO (pick v2 (.bool true) v4) fun v5 => k (p48 t v5) l4 h4) fun j4 => brB (wv v2 false) (j4 (.tuple []) l3 h3) (bO (bin Pg .eql 3 true v3 (I 1)) fun v5 => j4 v5 l3 h3)) fun j3 => brB (wv v2 false) (j3 (.tuple []) l h) (j3 (g10 t) l h))
 (.cond (.tmp 48) (.reg fun c t l h k => jn (fun v0 l0 h0 => bO (pick (g8 t) (.bool true) v0) fun v1 => k (p8 t v1) l0 h0) fun j0 => brB (wv (g8 t) false) (j0 (.tuple []) l h) (j0 (g12 t) l h)) .skip)))))
 (.reg fun c t l h k => bO (bin Pg .add 3 true (g10 t) (I 1)) fun v0 => k (p10 t v0) l h))))))
 (.seq (.seq (.reg fun c t l h k => bO (fa Pg 51 (g3 t) 0) fun v0 => bO (ld Pg 3 v0 l h) fun v1 => k (p54 t v1) l h)
 (.block 2 (.seq (.seq (.reg fun c t l h k => bO (bin Pg .eql 3 true (g54 t) (I 5)) fun v0 => k (p55 t v0) l h)
 (.cond (.tmp 55) .skip (.seq (.reg fun c t l h k => bO (bin Pg .eql 3 true (g54 t) (I 6)) fun v0 => k (p55 t v0) l h)
 (.cond (.tmp 55) .skip (.reg fun c t l h k => bO (bin Pg .eql 3 true (g54 t) (I 25)) fun v0 => k (p55 t v0) l h)))))
 (.cond (.tmp 55) (.reg fun c t l h k => k (p7 t (.bool true)) l h) (.seq (.reg fun c t l h k => bO (bin Pg .eql 3 true (g54 t) (I 26)) fun v0 => k (p59 t v0) l h)
 (.cond (.tmp 59) (.reg fun c t l h k => k (p8 t (.bool true)) l h) (.seq (.reg fun c t l h k => bO (bin Pg .eql 3 true (g54 t) (I 21)) fun v0 => k (p61 t v0) l h)
 (.cond (.tmp 61) (.seq (.reg fun c t l h k => bO (fa Pg 51 (g3 t) 5) fun v0 => bO (ld Pg 3 v0 l h) fun v1 => cl c 41 [(g0 t), v1] t l h fun v2 l2 h2 => bO (ext v2 0) fun v3 => bO (ext v2 1) fun v4 => al Pg 53 14 l2 fun v5 l5 => jn (fun v6 l6 h6 => k (p14 t v5) l6 h6) fun j6 => sto 53 v5 v3 l5 h2 j6 (gn Tryz.f33 33 17 8 c (p68 (p14 t v5) v3) t l5 h2 j6))
 (.seq (.reg fun c t l h k => jn (fun v0 l0 h0 => jn (fun v1 l1 h1 => jn (fun v2 l2 h2 => bO (pick (g7 t) (.bool true) v2) fun v3 => jn (fun v4 l4 h4 => jn (fun v5 l5 h5 => jn (fun v6 l6 h6 => bO (pick v3 (.bool true) v6) fun v7 => k (p7 t v7) l6 h6) fun j6 => brB (wv v3 false) (j6 (.tuple []) l5 h5) (bO (bin Pg .geq 3 true v5 (I 4)) fun v7 => j6 v7 l5 h5)) fun j5 => brB (wv v3 false) (j5 (.tuple []) l4 h4) (bO (ld Pg 3 v4 l4 h4) fun v6 => j5 v6 l4 h4)) fun j4 => brB (wv v3 false) (j4 (.tuple []) l2 h2) (bO (fa Pg 53 (g14 t) 5) fun v5 => j4 v5 l2 h2)) fun j2 => brB (wv (g7 t) false) (j2 (.tuple []) l1 h1) (bO (bin Pg .eql 3 true v1 (I 2)) fun v3 => j2 v3 l1 h1)) fun j1 => brB (wv (g7 t) false) (j1 (.tuple []) l0 h0) (bO (ld Pg 3 v0 l0 h0) fun v2 => j1 v2 l0 h0)) fun j0 => brB (wv (g7 t) false) (j0 (.tuple []) l h) (bO (fa Pg 53 (g14 t) 5) fun v1 => j0 v1 l h))
 (.seq (.reg fun c t l h k => jn (fun v0 l0 h0 => jn (fun v1 l1 h1 => jn (fun v2 l2 h2 => bO (pick (g8 t) (.bool true) v2) fun v3 => k (p8 t v3) l2 h2) fun j2 => brB (wv (g8 t) false) (j2 (.tuple []) l1 h1) (bO (bin Pg .geq 3 true v1 (I 3)) fun v3 => j2 v3 l1 h1)) fun j1 => brB (wv (g8 t) false) (j1 (.tuple []) l0 h0) (bO (ld Pg 3 v0 l0 h0) fun v2 => j1 v2 l0 h0)) fun j0 => brB (wv (g8 t) false) (j0 (.tuple []) l h) (bO (fa Pg 53 (g14 t) 5) fun v1 => j0 v1 l h))
 (.reg fun c t l h k => jn (fun v0 l0 h0 => jn (fun v1 l1 h1 => jn (fun v2 l2 h2 => bO (pick (g9 t) (.bool true) v2) fun v3 => k (p9 t v3) l2 h2) fun j2 => brB (wv (g9 t) false) (j2 (.tuple []) l1 h1) (bO (bin Pg .eql 3 true v1 (I 5)) fun v3 => j2 v3 l1 h1)) fun j1 => brB (wv (g9 t) false) (j1 (.tuple []) l0 h0) (bO (ld Pg 3 v0 l0 h0) fun v2 => j1 v2 l0 h0)) fun j0 => brB (wv (g9 t) false) (j0 (.tuple []) l h) (bO (fa Pg 53 (g14 t) 5) fun v1 => j0 v1 l h))))) .skip))))))))
 (.seq (.reg fun c t l h k => k (p6 (p5 (p4 t (g7 t)) (g8 t)) (g9 t)) l h)
 .ret)))))

def kp34 : List Nat := [0, 2, 3, 4, 5, 6, 7, 8, 9, 15]
def rc34 : RC := (.seq (.reg fun c t l h k => k (p2 t .nils) l h)
 (.seq (.reg fun c t l h k => k (p3 t .nils) l h)
 (.seq (.seq (.reg fun c t l h k => bO (len (Pg.underlying 25) (g0 t)) fun v0 => k (p8 (p7 (p6 t (g0 t)) v0) (I 0)) l h)
 (.block 0 (.loop (.seq (.reg fun c t l h k => bO (bin Pg .lss 3 false (g8 t) (g7 t)) fun v0 => k (p9 t v0) l h)
 (.seq (.cond (.tmp 9) .skip (.exit 0))
 (.seq (.block 1 (.seq (.reg fun c t l h k => bO (ia Pg 25 (g6 t) (g8 t)) fun v0 => bO (ld Pg 53 v0 l h) fun v1 => al Pg 53 5 l fun v2 l2 => jn (fun v3 l3 h3 => k (p4 (p5 t v2) (g8 t)) l3 h3) fun j3 => sto 53 v2 v1 l2 h j3 (gn Tryz.f34 34 4 5 c (p12 (p5 t v2) v1) t l2 h j3))
 (.seq (.reg fun c t l h k => bO (fa Pg 53 (g5 t) 0) fun v0 => bO (ld Pg 4 v0 l h) fun v1 => bO (G.un .not v1) fun v2 => k (p15 t v2) l h)
 (.cond (.tmp 15) (.reg fun c t l h k => bO (bs Pg 80 1 [(0, (g4 t))]) fun v0 => gn Tryz.f34 34 6 3 c (p18 (p16 t (g3 t)) v0) t l h (fun v1 l1 h1 => k (p3 t v1) l1 h1)) .skip))))
 (.reg fun c t l h k => bO (bin Pg .add 3 true (g8 t) (I 1)) fun v0 => k (p8 t v0) l h)))))))
 (.seq (.reg fun c t l h k => k (p2 t (g3 t)) l h)
 .ret))))

def kp35 : List Nat := [0, 1, 3]
def rc35 : RC := (.seq (.reg fun c t l h k => gn Tryz.f35 35 0 0 c t t l h (fun v0 l0 h0 => bO (bin Pg .neq 20 true v0 .nili) fun v1 => k (p3 t v1) l0 h0))
 (.cond (.tmp 3) (.seq (.reg fun c t l h k => al Pg 57 1 l fun v0 l0 => k (p1 t v0) l0 h)
 (.reg fun c t l h k => bO (ld Pg 57 (g1 t) l h) fun v0 => jn (fun v1 l1 h1 => k t l1 h1) fun j1 => sto 57 (g0 t) v0 l h j1 (gn Tryz.f35 35 2 1 c (p4 (p0 t (g0 t)) v0) t l h j1))) .skip))

def kp36 : List Nat := [0, 1, 4]
def rc36 : RC := (.seq (.reg fun c t l h k => k (p4 t (.str ⟨0, 0⟩)) l h)
 (.seq (.reg fun c t l h k => cl c 58 [(g1 t)] t l h fun v0 l0 h0 => bO (bin Pg .add 9 false (g0 t) v0) fun v1 => k (p4 t v1) l0 h0)
 .ret))

def kp37 : List Nat := [0, 2, 4]
def rc37 : RC := (.seq (.reg fun c t l h k => k (p2 t (I 0)) l h)
 (.seq (.seq (.reg fun c t l h k => bO (bin Pg .eql 3 true (g0 t) (I 1)) fun v0 => k (p4 t v0) l h)
 (.cond (.tmp 4) (.seq (.reg fun c t l h k => k (p2 t (I 1)) l h)
 .ret) .skip))
 (.seq (.reg fun c t l h k => k (p2 t (I 2)) l h)
 .ret)))

def kp38 : List Nat := [0, 1, 2, 4, 7, 14]
def rc38 : RC := (.seq (.reg fun c t l h k => gn Tryz.f38 38 0 0 c t t l h (fun v0 l0 h0 => k (p2 t v0) l0 h0))
 (.seq (.reg fun c t l h k => bO (bin Pg .neq 20 true (g2 t) .nili) fun v0 => k (p7 t v0) l h)
 (.cond (.tmp 7) (.seq (.seq (.reg fun c t l h k => gn Tryz.f38 38 2 1 c (p9 t (g2 t)) t l h (fun v0 l0 h0 => bO (ext v0 0) fun v1 => bO (ext v0 1) fun v2 => al Pg 101 3 l0 fun v3 l3 => jn (fun v4 l4 h4 => k (p4 t v2) l4 h4) fun j4 => sto 101 v3 v1 l3 h0 j4 (gn Tryz.f38 38 2 6 c (p11 (p3 t v3) v1) t l3 h0 j4)))
 (.seq (.reg fun c t l h k => bO (G.un .not (g4 t)) fun v0 => k (p14 t v0) l h)
 (.cond (.tmp 14) (.reg fun c t l h k => gn Tryz.f38 38 4 1 c (p15 t (g2 t)) t l h (fun v0 l0 h0 => k t l0 h0)) .skip)))
 (.reg fun c t l h k => gn Tryz.f38 38 5 0 c t t l h (fun v0 l0 h0 => jn (fun v1 l1 h1 => jn (fun v2 l2 h2 => k t l2 h2) fun j2 => sto 4 (g1 t) (.bool false) l1 h1 j2 (gn Tryz.f38 38 5 2 c (p1 t (g1 t)) t l1 h1 j2)) fun j1 => sto 67 (g0 t) v0 l0 h0 j1 (gn Tryz.f38 38 5 1 c (p16 (p0 t (g0 t)) v0) t l0 h0 j1)))) .skip)))

def kp39 : List Nat := [0, 1, 2, 3, 4, 5, 6, 7, 12, 13, 14, 15, 23, 60, 61, 62]
def rc39 : RC := (.seq (.reg fun c t l h k => gn Tryz.f39 39 0 0 c (p0 t (g0 t)) t l h (fun v0 l0 h0 => al Pg 67 2 l0 fun v1 l1 => k (p2 (p1 t v0) v1) l1 h0))
 (.seq (.seq (.reg fun c t l h k => bO (ld Pg 59 (g1 t) l h) fun v0 => bO (nilC v0) fun v1 => bO (fa Pg 65 v1 2) fun v2 => bO (fa Pg 53 v2 4) fun v3 => bO (ld Pg 46 v3 l h) fun v4 => bO (len (Pg.underlying 46) v4) fun v5 => k (p14 (p13 (p12 t v4) v5) (I 0)) l h)
 (.block 0 (.loop (.seq (.reg fun c t l h k => bO (bin Pg .lss 3 false (g14 t) (g13 t)) fun v0 => k (p15 t v0) l h)
 (.seq (.cond (.tmp 15) .skip (.exit 0))
 (.seq (.block 1 (.seq (.reg fun c t l h k => bO (ia Pg 46 (g12 t) (g14 t)) fun v0 => bO (ld Pg 92 v0 l h) fun v1 => al Pg 92 4 l fun v2 l2 => jn (fun v3 l3 h3 => k (p3 (p4 t v2) (g14 t)) l3 h3) fun j3 => sto 92 v2 v1 l2 h j3 (gn Tryz.f39 39 3 5 c (p18 (p4 t v2) v1) t l2 h j3))
 (.seq (.reg fun c t l h k => cl c 59 [(I 2), .nils] t l h fun v0 l0 h0 => al Pg 67 5 l0 fun v1 l1 => jn (fun v2 l2 h2 => k (p5 t v1) l2 h2) fun j2 => sto 67 v1 v0 l1 h0 j2 (gn Tryz.f39 39 4 2 c (p19 (p5 t v1) v0) t l1 h0 j2))
 (.seq (.seq (.reg fun c t l h k => bO (fa Pg 92 (g4 t) 1) fun v0 => bO (fa Pg 49 v0 0) fun v1 => bO (ld Pg 3 v1 l h) fun v2 => bO (bin Pg .neq 3 true v2 (I 3)) fun v3 => k (p23 t v3) l h)
 (.cond (.tmp 23) (.seq (.reg fun c t l h k => cl c 36 [(.str ⟨1, 112⟩), (g3 t)] t l h fun v0 l0 h0 => cl c 60 [v0, .nils] t l0 h0 fun v1 l1 h1 => jn (fun v2 l2 h2 => k t l2 h2) fun j2 => sto 67 (g5 t) v1 l1 h1 j2 (gn Tryz.f39 39 6 3 c (p26 (p5 t (g5 t)) v1) t l1 h1 j2))
 (.reg fun c t l h k => bO (ld Pg 59 (g1 t) l h) fun v0 => bO (ld Pg 59 (g1 t) l h) fun v1 => bO (nilC v1) fun v2 => bO (fa Pg 65 v2 5) fun v3 => bO (ld Pg 32 v3 l h) fun v4 => jE ((32, (g3 t)) :: (31, v4) :: (30, v3) :: (29, v2) :: (28, v1) :: (27, v0) :: []) fun e5 => jF (ft0 :: (ldF v3) :: ft0 :: ft0 :: (ldF (g1 t)) :: (ldF (g1 t)) :: []) fun q5 => clD c 36 [(.str ⟨1, 112⟩), (g3 t)] l h (fun v5 f5 l5 h5 => bO (fa Pg 92 (g4 t) 1) fun v6 => bO (fa Pg 49 v6 0) fun v7 => bO (ld Pg 3 v7 l5 h5) fun v8 => jE ((36, v8) :: (35, v7) :: (34, v6) :: (33, v5) :: e5) fun e9 => jF ((ldF v7) :: ft0 :: ft0 :: f5 :: q5) fun q9 => clD c 37 [v8] l5 h5 (fun v9 f9 l9 h9 => jE ((37, v9) :: e9) fun e10 => jF (f9 :: q9) fun q10 => gD Tryz.f39 39 7 11 c (p37 (p33 t v5) v9) l9 h9 (fun v10 f10 l10 h10 => jE ((38, v10) :: e10) fun e11 => jF (f10 :: q10) fun q11 => gD Tryz.f39 39 7 12 c (p38 t v10) l10 h10 (fun v11 f11 l11 h11 => jE ((39, v11) :: e11) fun e12 => jF (f11 :: q11) fun q12 => gD Tryz.f39 39 7 13 c (p39 (p31 t v4) v11) l11 h11 (fun v12 f12 l12 h12 => bO (nilC v0) fun v13 => bO (fa Pg 65 v13 5) fun v14 => jE ((42, v14) :: (41, v13) :: (40, v12) :: e12) fun e15 => jF (ft0 :: ft0 :: f12 :: q12) fun q15 => gD Tryz.f39 39 7 16 c (p40 (p42 t v14) v12) l12 h12 (fun v15 f15 l15 h15 => finD (rgA Tryz.f39 7).toList [(0, 13)] [(0, 6), (1, 6), (4, 6), (6, 9), (0, 10), (1, 10), (4, 10), (0, 13)] (f15 :: q15) (k t l15 h15)) (sD Tryz.f39 39 7 c 16 none e15 q15 t l12 h12)) (sD Tryz.f39 39 7 c 13 (some 40) e12 q12 t l11 h11)) (sD Tryz.f39 39 7 c 12 (some 39) e11 q11 t l10 h10)) (sD Tryz.f39 39 7 c 11 (some 38) e10 q10 t l9 h9)) (sD Tryz.f39 39 7 c 10 (some 37) e9 q9 t l5 h5)) (sD Tryz.f39 39 7 c 6 (some 33) e5 q5 t l h))) .skip))
 (.reg fun c t l h k => bO (ld Pg 59 (g1 t) l h) fun v0 => bO (ld Pg 59 (g1 t) l h) fun v1 => bO (nilC v1) fun v2 => bO (fa Pg 65 v2 3) fun v3 => bO (ld Pg 60 v3 l h) fun v4 => bO (ld Pg 67 (g5 t) l h) fun v5 => jE ((48, v5) :: (47, v4) :: (46, v3) :: (45, v2) :: (44, v1) :: (43, v0) :: []) fun e6 => jF ((ldF (g5 t)) :: (ldF v3) :: ft0 :: ft0 :: (ldF (g1 t)) :: (ldF (g1 t)) :: []) fun q6 => gD Tryz.f39 39 8 6 c (p48 t v5) l h (fun v6 f6 l6 h6 => jE ((49, v6) :: e6) fun e7 => jF (f6 :: q6) fun q7 => gD Tryz.f39 39 8 7 c (p49 (p47 t v4) v6) l6 h6 (fun v7 f7 l7 h7 => bO (nilC v0) fun v8 => bO (fa Pg 65 v8 3) fun v9 => jE ((52, v9) :: (51, v8) :: (50, v7) :: e7) fun e10 => jF (ft0 :: ft0 :: f7 :: q7) fun q10 => gD Tryz.f39 39 8 10 c (p50 (p52 t v9) v7) l7 h7 (fun v10 f10 l10 h10 => finD (rgA Tryz.f39 8).toList [(0, 7)] [(0, 7)] (f10 :: q10) (k t l10 h10)) (sD Tryz.f39 39 8 c 10 none e10 q10 t l7 h7)) (sD Tryz.f39 39 8 c 7 (some 50) e7 q7 t l6 h6)) (sD Tryz.f39 39 8 c 6 (some 49) e6 q6 t l h))))))
 (.reg fun c t l h k => bO (bin Pg .add 3 true (g14 t) (I 1)) fun v0 => k (p14 t v0) l h)))))))
 (.seq (.seq (.reg fun c t l h k => bO (ld Pg 59 (g1 t) l h) fun v0 => bO (nilC v0) fun v1 => bO (fa Pg 65 v1 0) fun v2 => bO (fa Pg 62 v2 0) fun v3 => bO (ld Pg 25 v3 l h) fun v4 => cl c 61 [v4] t l h fun v5 l5 h5 => bO (len (Pg.underlying 24) v5) fun v6 => k (p61 (p60 t v6) (I 0)) l5 h5)
 (.block 2 (.loop (.seq (.reg fun c t l h k => bO (bin Pg .lss 3 false (g61 t) (g60 t)) fun v0 => k (p62 t v0) l h)
 (.seq (.cond (.tmp 62) .skip (.exit 2))
 (.seq (.block 3 (.seq (.reg fun c t l h k => k (p6 t (g61 t)) l h)
 (.seq (.reg fun c t l h k => bO (ld Pg 59 (g1 t) l h) fun v0 => bO (ld Pg 59 (g1 t) l h) fun v1 => bO (nilC v1) fun v2 => bO (fa Pg 65 v2 0) fun v3 => bO (fa Pg 62 v3 1) fun v4 => bO (ld Pg 60 v4 l h) fun v5 => jE ((70, (g6 t)) :: (69, v5) :: (68, v4) :: (67, v3) :: (66, v2) :: (65, v1) :: (64, v0) :: []) fun e6 => jF (ft0 :: (ldF v4) :: ft0 :: ft0 :: ft0 :: (ldF (g1 t)) :: (ldF (g1 t)) :: []) fun q6 => clD c 36 [(.str ⟨1, 99⟩), (g6 t)] l h (fun v6 f6 l6 h6 => jE ((71, v6) :: e6) fun e7 => jF (f6 :: q6) fun q7 => clD c 60 [v6, .nils] l6 h6 (fun v7 f7 l7 h7 => jE ((72, v7) :: e7) fun e8 => jF (f7 :: q7) fun q8 => gD Tryz.f39 39 13 9 c (p72 t v7) l7 h7 (fun v8 f8 l8 h8 => jE ((73, v8) :: e8) fun e9 => jF (f8 :: q8) fun q9 => gD Tryz.f39 39 13 10 c (p73 (p69 t v5) v8) l8 h8 (fun v9 f9 l9 h9 => bO (nilC v0) fun v10 => bO (fa Pg 65 v10 0) fun v11 => bO (fa Pg 62 v11 1) fun v12 => jE ((77, v12) :: (76, v11) :: (75, v10) :: (74, v9) :: e9) fun e13 => jF (ft0 :: ft0 :: ft0 :: f9 :: q9) fun q13 => gD Tryz.f39 39 13 14 c (p74 (p77 t v12) v9) l9 h9 (fun v13 f13 l13 h13 => finD (rgA Tryz.f39 13).toList [(0, 10)] [(0, 7), (1, 7), (5, 7), (0, 8), (1, 8), (5, 8), (0, 10)] (f13 :: q13) (k t l13 h13)) (sD Tryz.f39 39 13 c 14 none e13 q13 t l9 h9)) (sD Tryz.f39 39 13 c 10 (some 74) e9 q9 t l8 h8)) (sD Tryz.f39 39 13 c 9 (some 73) e8 q8 t l7 h7)) (sD Tryz.f39 39 13 c 8 (some 72) e7 q7 t l6 h6)) (sD Tryz.f39 39 13 c 7 (some 71) e6 q6 t l h))
 (.reg fun c t l h k => bO (ld Pg 59 (g1 t) l h) fun v0 => bO (ld Pg 59 (g1 t) l h) fun v1 => bO (nilC v1) fun v2 => bO (fa Pg 65 v2 5) fun v3 => bO (ld Pg 32 v3 l h) fun v4 => jE ((83, (g6 t)) :: (82, v4) :: (81, v3) :: (80, v2) :: (79, v1) :: (78, v0) :: []) fun e5 => jF (ft0 :: (ldF v3) :: ft0 :: ft0 :: (ldF (g1 t)) :: (ldF (g1 t)) :: []) fun q5 => clD c 36 [(.str ⟨1, 99⟩), (g6 t)] l h (fun v5 f5 l5 h5 => jE ((84, v5) :: e5) fun e6 => jF (f5 :: q5) fun q6 => gD Tryz.f39 39 14 7 c (p84 t v5) l5 h5 (fun v6 f6 l6 h6 => jE ((85, v6) :: e6) fun e7 => jF (f6 :: q6) fun q7 => gD Tryz.f39 39 14 8 c (p85 t v6) l6 h6 (fun v7 f7 l7 h7 => jE ((86, v7) :: e7) fun e8 => jF (f7 :: q7) fun q8 => gD Tryz.f39 39 14 9 c (p86 (p82 t v4) v7) l7 h7 (fun v8 f8 l8 h8 => bO (nilC v0) fun v9 => bO (fa Pg 65 v9 5) fun v10 => jE ((89, v10) :: (88, v9) :: (87, v8) :: e8) fun e11 => jF (ft0 :: ft0 :: f8 :: q8) fun q11 => gD Tryz.f39 39 14 12 c (p87 (p89 t v10) v8) l8 h8 (fun v11 f11 l11 h11 => finD (rgA Tryz.f39 14).toList [(0, 9)] [(0, 6), (1, 6), (4, 6), (0, 9)] (f11 :: q11) (k t l11 h11)) (sD Tryz.f39 39 14 c 12 none e11 q11 t l8 h8)) (sD Tryz.f39 39 14 c 9 (some 87) e8 q8 t l7 h7)) (sD Tryz.f39 39 14 c 8 (some 86) e7 q7 t l6 h6)) (sD Tryz.f39 39 14 c 7 (some 85) e6 q6 t l5 h5)) (sD Tryz.f39 39 14 c 6 (some 84) e5 q5 t l h)))))
 (.reg fun c t l h k => bO (bin Pg .add 3 true (g61 t) (I 1)) fun v0 => k (p61 t v0) l h)))))))
 (.seq (.reg fun c t l h k => bO (ld Pg 59 (g1 t) l h) fun v0 => bO (ld Pg 59 (g1 t) l h) fun v1 => bO (nilC v1) fun v2 => bO (fa Pg 65 v2 2) fun v3 => bO (fa Pg 53 v3 11) fun v4 => bO (ld Pg 51 v4 l h) fun v5 => bO (ld Pg 59 (g1 t) l h) fun v6 => bO (nilC v6) fun v7 => bO (fa Pg 65 v7 3) fun v8 => bO (ld Pg 60 v8 l h) fun v9 => bO (ld Pg 59 (g1 t) l h) fun v10 => bO (nilC v10) fun v11 => bO (fa Pg 65 v11 0) fun v12 => bO (fa Pg 62 v12 1) fun v13 => bO (ld Pg 60 v13 l h) fun v14 => jE ((105, v14) :: (104, v13) :: (103, v12) :: (102, v11) :: (101, v10) :: (100, v9) :: (99, v8) :: (98, v7) :: (97, v6) :: (96, v5) :: (95, v4) :: (94, v3) :: (93, v2) :: (92, v1) :: (91, v0) :: []) fun e15 => jF ((ldF v13) :: ft0 :: ft0 :: ft0 :: (ldF (g1 t)) :: (ldF v8) :: ft0 :: ft0 :: (ldF (g1 t)) :: (ldF v4) :: ft0 :: ft0 :: ft0 :: (ldF (g1 t)) :: (ldF (g1 t)) :: []) fun q15 => gD Tryz.f39 39 16 15 c (p1 t (g1 t)) l h (fun v15 f15 l15 h15 => jE ((106, v15) :: e15) fun e16 => jF (f15 :: q15) fun q16 => gD Tryz.f39 39 16 16 c (p1 t (g1 t)) l15 h15 (fun v16 f16 l16 h16 => jE ((107, v16) :: e16) fun e17 => jF (f16 :: q16) fun q17 => clD c 62 [v0, v5, v9, v14, v15, v16] l16 h16 (fun v17 f17 l17 h17 => jE ((108, v17) :: e17) fun e18 => jF (f17 :: q17) fun q18 => gD Tryz.f39 39 16 18 c t l17 h17 (fun v18 f18 l18 h18 => jE ((7, v18) :: e18) fun e19 => jF (f18 :: q18) fun q19 => gD Tryz.f39 39 16 19 c (p108 (p7 t v18) v17) l18 h18 (fun v19 f19 l19 h19 => finD (rgA Tryz.f39 16).toList [(0, 18), (1, 18), (5, 18), (6, 18), (9, 18), (10, 18), (14, 18)] [(0, 18), (1, 18), (5, 18), (6, 18), (9, 18), (10, 18), (14, 18), (17, 18)] (f19 :: q19) (k (p7 t v18) l19 h19)) (sD Tryz.f39 39 16 c 19 none e19 q19 t l18 h18)) (sD Tryz.f39 39 16 c 18 (some 7) e18 q18 t l17 h17)) (sD Tryz.f39 39 16 c 17 (some 108) e17 q17 t l16 h16)) (sD Tryz.f39 39 16 c 16 (some 107) e16 q16 t l15 h15)) (sD Tryz.f39 39 16 c 15 (some 106) e15 q15 t l h))
 (.seq (.reg fun c t l h k => bO (ld Pg 59 (g1 t) l h) fun v0 => bO (nilC v0) fun v1 => bO (fa Pg 65 v1 0) fun v2 => bO (ld Pg 59 (g1 t) l h) fun v3 => bO (nilC v3) fun v4 => bO (fa Pg 65 v4 2) fun v5 => bO (ld Pg 53 v5 l h) fun v6 => bO (ld Pg 59 (g1 t) l h) fun v7 => bO (nilC v7) fun v8 => bO (fa Pg 65 v8 3) fun v9 => bO (ld Pg 60 v9 l h) fun v10 => bO (ld Pg 59 (g1 t) l h) fun v11 => bO (nilC v11) fun v12 => bO (fa Pg 65 v12 0) fun v13 => bO (fa Pg 62 v13 1) fun v14 => bO (ld Pg 60 v14 l h) fun v15 => jE ((124, v15) :: (123, v14) :: (122, v13) :: (121, v12) :: (120, v11) :: (119, v10) :: (118, v9) :: (117, v8) :: (116, v7) :: (115, v6) :: (114, v5) :: (113, v4) :: (112, v3) :: (111, v2) :: (110, v1) :: (109, v0) :: []) fun e16 => jF ((ldF v14) :: ft0 :: ft0 :: ft0 :: (ldF (g1 t)) :: (ldF v9) :: ft0 :: ft0 :: (ldF (g1 t)) :: (ldF v5) :: ft0 :: ft0 :: (ldF (g1 t)) :: ft0 :: ft0 :: (ldF (g1 t)) :: []) fun q16 => clD c 67 [v2, v6, v10, v15] l h (fun v16 f16 l16 h16 => bO (ld Pg 67 (g7 t) l16 h16) fun v17 => jE ((126, v17) :: (125, v16) :: e16) fun e18 => jF ((ldF (g7 t)) :: f16 :: q16) fun q18 => gD Tryz.f39 39 17 18 c (p126 (p125 t v16) v17) l16 h16 (fun v18 f18 l18 h18 => jE ((127, v18) :: e18) fun e19 => jF (f18 :: q18) fun q19 => clD c 59 [(I 7), v18] l18 h18 (fun v19 f19 l19 h19 => jE ((128, v19) :: e19) fun e20 => jF (f19 :: q19) fun q20 => gD Tryz.f39 39 17 20 c (p128 (p2 t (g2 t)) v19) l19 h19 (fun v20 f20 l20 h20 => finD (rgA Tryz.f39 17).toList [] [(16, 17)] (f20 :: q20) (k t l20 h20)) (sD Tryz.f39 39 17 c 20 none e20 q20 t l19 h19)) (sD Tryz.f39 39 17 c 19 (some 128) e19 q19 t l18 h18)) (sD Tryz.f39 39 17 c 18 (some 127) e18 q18 t l16 h16)) (sD Tryz.f39 39 17 c 16 (some 125) e16 q16 t l h))
 .ret)))))

def kp40 : List Nat := [0, 1, 2]
def rc40 : RC := (.seq (.reg fun c t l h k => gn Tryz.f40 40 0 0 c (p0 t (g0 t)) t l h (fun v0 l0 h0 => al Pg 31 2 l0 fun v1 l1 => k (p2 (p1 t v0) v1) l1 h0))
 (.seq (.reg fun c t l h k => gn Tryz.f40 40 1 0 c t t l h (fun v0 l0 h0 => bO (ld Pg 31 (g1 t) l0 h0) fun v1 => cl c 68 [v0, v1] t l0 h0 fun v2 l2 h2 => jn (fun v3 l3 h3 => k t l3 h3) fun j3 => sto 31 (g2 t) v2 l2 h2 j3 (gn Tryz.f40 40 1 3 c (p5 (p2 t (g2 t)) v2) t l2 h2 j3)))
 .ret))

def kp41 : List Nat := [0, 1, 4, 5, 6, 16]
def rc41 : RC := (.seq (.reg fun c t l h k => al Pg 53 4 l fun v0 l0 => k (p5 (p4 t v0) (.bool false)) l0 h)
 (.seq (.reg fun c t l h k => cl c 69 [(g0 t)] t l h fun v0 l0 h0 => k (p6 t v0) l0 h0)
 (.seq (.seq (.reg fun c t l h k => bO (bin Pg .lss 3 true (g1 t) (I 0)) fun v0 => jn (fun v1 l1 h1 => jn (fun v2 l2 h2 => jn (fun v3 l3 h3 => jn (fun v4 l4 h4 => bO (pick v0 (.bool true) v4) fun v5 => k (p16 t v5) l4 h4) fun j4 => brB (wv v0 false) (j4 (.tuple []) l3 h3) (bO (bin Pg .geq 3 false v1 v3) fun v5 => j4 v5 l3 h3)) fun j3 => brB (wv v0 false) (j3 (.tuple []) l2 h2) (bO (len (Pg.underlying 80) v2) fun v4 => j3 v4 l2 h2)) fun j2 => brB (wv v0 false) (j2 (.tuple []) l1 h1) (j2 (g6 t) l1 h1)) fun j1 => brB (wv v0 false) (j1 (.tuple []) l h) (j1 (g1 t) l h))
 (.cond (.tmp 16) (.seq (.reg fun c t l h k => gn Tryz.f41 41 3 0 c t t l h (fun v0 l0 h0 => jn (fun v1 l1 h1 => k (p5 t (.bool false)) l1 h1) fun j1 => sto 53 (g4 t) v0 l0 h0 j1 (gn Tryz.f41 41 3 1 c (p17 (p4 t (g4 t)) v0) t l0 h0 j1)))
 .ret) .skip))
 (.seq (.reg fun c t l h k => bO (ia Pg 80 (g6 t) (g1 t)) fun v0 => bO (ld Pg 3 v0 l h) fun v1 => bO (ia Pg 25 (g0 t) v1) fun v2 => bO (ld Pg 53 v2 l h) fun v3 => jn (fun v4 l4 h4 => k (p5 t (.bool true)) l4 h4) fun j4 => sto 53 (g4 t) v3 l h j4 (gn Tryz.f41 41 4 7 c (p24 (p4 t (g4 t)) v3) t l h j4))
 .ret))))

def kp42 : List Nat := [0, 1, 2, 3, 4, 9]
def rc42 : RC := (.seq (.reg fun c t l h k => gn Tryz.f42 42 0 0 c (p0 t (g0 t)) t l h (fun v0 l0 h0 => k (p2 (p1 t v0) .nils) l0 h0))
 (.seq (.reg fun c t l h k => k (p3 t .nils) l h)
 (.seq (.seq (.reg fun c t l h k => k (p4 t (I 0)) l h)
 (.block 0 (.loop (.seq (.seq (.reg fun c t l h k => bO (fa Pg 53 (g1 t) 4) fun v0 => bO (ld Pg 46 v0 l h) fun v1 => bO (len (Pg.underlying 46) v1) fun v2 => bO (bin Pg .lss 3 false (g4 t) v2) fun v3 => k (p9 t v3) l h)
 (.cond (.tmp 9) .skip (.exit 0)))
 (.seq (.block 1 (.reg fun c t l h k => bO (fa Pg 53 (g1 t) 4) fun v0 => bO (ld Pg 46 v0 l h) fun v1 => bO (ia Pg 46 v1 (g4 t)) fun v2 => bO (fa Pg 92 v2 1) fun v3 => bO (fa Pg 49 v3 0) fun v4 => bO (ld Pg 3 v4 l h) fun v5 => bO (bs Pg 80 1 [(0, v5)]) fun v6 => gn Tryz.f42 42 5 9 c (p20 (p12 t (g3 t)) v6) t l h (fun v7 l7 h7 => k (p3 t v7) l7 h7)))
 (.reg fun c t l h k => bO (bin Pg .add 3 true (g4 t) (I 1)) fun v0 => k (p4 t v0) l h))))))
 (.seq (.reg fun c t l h k => k (p2 t (g3 t)) l h)
 .ret))))

def kp43 : List Nat := [0, 2, 4]
def rc43 : RC := (.seq (.reg fun c t l h k => k (p2 t (.str ⟨0, 0⟩)) l h)
 (.seq (.seq (.reg fun c t l h k => bO (bin Pg .lss 3 true (g0 t) (I 10)) fun v0 => k (p4 t v0) l h)
 (.cond (.tmp 4) (.seq (.reg fun c t l h k => bO (bin Pg .add 3 true (g0 t) (I 1)) fun v0 => bO (slc Pg 9 (.str ⟨10, 270211885617516653982000⟩) (some (g0 t)) (some v0) none) fun v1 => k (p2 t v1) l h)
 .ret) .skip))
 (.seq (.reg fun c t l h k => bO (bin Pg .quo 3 true (g0 t) (I 10)) fun v0 => cl c 43 [v0] t l h fun v1 l1 h1 => bO (bin Pg .rem 3 true (g0 t) (I 10)) fun v2 => cl c 43 [v2] t l1 h1 fun v3 l3 h3 => bO (bin Pg .add 9 false v1 v3) fun v4 => k (p2 t v4) l3 h3)
 .ret)))

def kp44 : List Nat := [0, 2, 4]
def rc44 : RC := (.seq (.reg fun c t l h k => k (p2 t (I 0)) l h)
 (.seq (.seq (.reg fun c t l h k => bO (bin Pg .eql 3 true (g0 t) (I 1)) fun v0 => k (p4 t v0) l h)
 (.cond (.tmp 4) (.seq (.reg fun c t l h k => k (p2 t (I 1)) l h)
 .ret) .skip))
 (.seq (.reg fun c t l h k => k (p2 t (I 2)) l h)
 .ret)))

def kp45 : List Nat := [0, 2, 3]
def rc45 : RC := (.seq (.reg fun c t l h k => al Pg 74 2 l fun v0 l0 => k (p2 t v0) l0 h)
 (.seq (.seq (.reg fun c t l h k => k (p3 t (g0 t)) l h)
 (.cond (.tmp 3) (.seq (.reg fun c t l h k => cl c 48 [(I 2), .nils] t l h fun v0 l0 h0 => jn (fun v1 l1 h1 => k t l1 h1) fun j1 => sto 74 (g2 t) v0 l0 h0 j1 (gn Tryz.f45 45 2 1 c (p4 (p2 t (g2 t)) v0) t l0 h0 j1))
 .ret) .skip))
 (.seq (.reg fun c t l h k => cl c 48 [(I 3), .nils] t l h fun v0 l0 h0 => jn (fun v1 l1 h1 => k t l1 h1) fun j1 => sto 74 (g2 t) v0 l0 h0 j1 (gn Tryz.f45 45 3 1 c (p5 (p2 t (g2 t)) v0) t l0 h0 j1))
 .ret)))

def kp46 : List Nat := [0, 1, 4, 5]
def rc46 : RC := (.seq (.reg fun c t l h k => al Pg 74 4 l fun v0 l0 => k (p4 t v0) l0 h)
 (.seq (.reg fun c t l h k => cl c 48 [(I 17), (g1 t)] t l h fun v0 l0 h0 => al Pg 74 5 l0 fun v1 l1 => jn (fun v2 l2 h2 => k (p5 t v1) l2 h2) fun j2 => sto 74 v1 v0 l1 h0 j2 (gn Tryz.f46 46 1 3 c (p7 (p5 t v1) v0) t l1 h0 j2))
 (.seq (.reg fun c t l h k => bO (fa Pg 74 (g5 t) 0) fun v0 => bO (fa Pg 31 v0 1) fun v1 => jn (fun v2 l2 h2 => k t l2 h2) fun j2 => sto 9 v1 (g0 t) l h j2 (gn Tryz.f46 46 2 3 c (p8 (p10 t v1) (g0 t)) t l h j2))
 (.seq (.reg fun c t l h k => bO (ld Pg 74 (g5 t) l h) fun v0 => jn (fun v1 l1 h1 => k t l1 h1) fun j1 => sto 74 (g4 t) v0 l h j1 (gn Tryz.f46 46 3 1 c (p11 (p4 t (g4 t)) v0) t l h j1))
 .ret))))

def kp47 : List Nat := [0, 2, 3, 4, 8, 15]
def rc47 : RC := (.seq (.reg fun c t l h k => k (p2 t .nils) l h)
 (.seq (.reg fun c t l h k => k (p3 t .nils) l h)
 (.seq (.seq (.reg fun c t l h k => k (p4 t (I 0)) l h)
 (.block 0 (.loop (.seq (.seq (.reg fun c t l h k => bO (len (Pg.underlying 25) (g0 t)) fun v0 => bO (bin Pg .lss 3 false (g4 t) v0) fun v1 => k (p8 t v1) l h)
 (.cond (.tmp 8) .skip (.exit 0)))
 (.seq (.block 1 (.seq (.reg fun c t l h k => bO (ia Pg 25 (g0 t) (g4 t)) fun v0 => bO (fa Pg 53 v0 0) fun v1 => bO (ld Pg 4 v1 l h) fun v2 => k (p15 t v2) l h)
 (.cond (.tmp 15) (.reg fun c t l h k => bO (ia Pg 25 (g0 t) (g4 t)) fun v0 => bO (fa Pg 53 v0 1) fun v1 => bO (ld Pg 9 v1 l h) fun v2 => bO (bs Pg 24 1 [(0, v2)]) fun v3 => gn Tryz.f47 47 6 7 c (p22 (p16 t (g3 t)) v3) t l h (fun v4 l4 h4 => k (p3 t v4) l4 h4)) .skip)))
 (.reg fun c t l h k => bO (bin Pg .add 3 true (g4 t) (I 1)) fun v0 => k (p4 t v0) l h))))))
 (.seq (.reg fun c t l h k => k (p2 t (g3 t)) l h)
 .ret))))

def kp48 : List Nat := [0, 1, 4, 5, 6, 13]
def rc48 : RC := (.seq (.reg fun c t l h k => al Pg 74 4 l fun v0 l0 => k (p4 t v0) l0 h)
 (.seq (.reg fun c t l h k => gn Tryz.f48 48 1 1 c (p7 t (g0 t)) t l h (fun v0 l0 h0 => gn Tryz.f48 48 1 2 c (p8 t v0) t l0 h0 (fun v1 l1 h1 => al Pg 74 5 l1 fun v2 l2 => jn (fun v3 l3 h3 => k (p5 t v2) l3 h3) fun j3 => sto 74 v2 v1 l2 h1 j3 (gn Tryz.f48 48 1 4 c (p9 (p5 t v2) v1) t l2 h1 j3))))
 (.seq (.seq (.reg fun c t l h k => k (p6 t (I 0)) l h)
 (.block 0 (.loop (.seq (.seq (.reg fun c t l h k => bO (len (Pg.underlying 106) (g1 t)) fun v0 => bO (bin Pg .lss 3 false (g6 t) v0) fun v1 => k (p13 t v1) l h)
 (.cond (.tmp 13) .skip (.exit 0)))
 (.seq (.block 1 (.seq (.reg fun c t l h k => bO (fa Pg 74 (g5 t) 0) fun v0 => bO (fa Pg 31 v0 4) fun v1 => bO (ld Pg 28 v1 l h) fun v2 => bO (ia Pg 106 (g1 t) (g6 t)) fun v3 => bO (fa Pg 74 v3 0) fun v4 => bO (ld Pg 31 v4 l h) fun v5 => jE ((23, v5) :: (22, v4) :: (21, v3) :: (20, (g6 t)) :: (19, (g1 t)) :: (18, v2) :: (17, v1) :: (16, v0) :: []) fun e6 => jF ((ldF v4) :: ft0 :: ft0 :: ft0 :: ft0 :: (ldF v1) :: ft0 :: ft0 :: []) fun q6 => gD Tryz.f48 48 5 8 c (p23 t v5) l h (fun v6 f6 l6 h6 => jE ((24, v6) :: e6) fun e7 => jF (f6 :: q6) fun q7 => gD Tryz.f48 48 5 9 c (p24 (p18 t v2) v6) l6 h6 (fun v7 f7 l7 h7 => bO (fa Pg 74 (g5 t) 0) fun v8 => bO (fa Pg 31 v8 4) fun v9 => jE ((27, v9) :: (26, v8) :: (25, v7) :: e7) fun e10 => jF (ft0 :: ft0 :: f7 :: q7) fun q10 => gD Tryz.f48 48 5 12 c (p25 (p27 t v9) v7) l7 h7 (fun v10 f10 l10 h10 => finD (rgA Tryz.f48 5).toList [] [] (f10 :: q10) (k t l10 h10)) (sD Tryz.f48 48 5 c 12 none e10 q10 t l7 h7)) (sD Tryz.f48 48 5 c 9 (some 25) e7 q7 t l6 h6)) (sD Tryz.f48 48 5 c 8 (some 24) e6 q6 t l h))
 (.reg fun c t l h k => bO (fa Pg 74 (g5 t) 1) fun v0 => bO (ld Pg 3 v0 l h) fun v1 => bO (ia Pg 106 (g1 t) (g6 t)) fun v2 => bO (fa Pg 74 v2 1) fun v3 => bO (ld Pg 3 v3 l h) fun v4 => bO (bin Pg .add 3 false v1 v4) fun v5 => bO (mnV v5 (I 1048576)) fun v6 => bO (fa Pg 74 (g5 t) 2) fun v7 => bO (ld Pg 3 v7 l h) fun v8 => bO (ia Pg 106 (g1 t) (g6 t)) fun v9 => bO (fa Pg 74 v9 2) fun v10 => bO (ld Pg 3 v10 l h) fun v11 => bO (mxV v8 v11) fun v12 => bO (fa Pg 74 (g5 t) 1) fun v13 => jE ((45, v13) :: (44, v12) :: (43, v11) :: (42, v10) :: (41, v9) :: (40, (g6 t)) :: (39, (g1 t)) :: (38, v8) :: (37, v7) :: (36, v6) :: (35, v5) :: (34, v4) :: (33, v3) :: (32, v2) :: (31, (g6 t)) :: (30, (g1 t)) :: (29, v1) :: (28, v0) :: []) fun e14 => jF (ft0 :: ft0 :: (ldF v10) :: ft0 :: ft0 :: ft0 :: ft0 :: (ldF v7) :: ft0 :: ft0 :: ft0 :: (ldF v3) :: ft0 :: ft0 :: ft0 :: ft0 :: (ldF v0) :: ft0 :: []) fun q14 => gD Tryz.f48 48 6 18 c (p36 (p45 t v13) v6) l h (fun v14 f14 l14 h14 => bO (fa Pg 74 (g5 t) 2) fun v15 => jE ((46, v15) :: e14) fun e16 => jF (ft0 :: f14 :: q14) fun q16 => gD Tryz.f48 48 6 20 c (p44 (p46 t v15) v12) l14 h14 (fun v16 f16 l16 h16 => finD (rgA Tryz.f48 6).toList [(15, 18)] [(15, 18)] (f16 :: q16) (k t l16 h16)) (sD Tryz.f48 48 6 c 20 none e16 q16 t l14 h14)) (sD Tryz.f48 48 6 c 18 none e14 q14 t l h))))
 (.reg fun c t l h k => bO (bin Pg .add 3 true (g6 t) (I 1)) fun v0 => k (p6 t v0) l h))))))
 (.seq (.reg fun c t l h k => bO (fa Pg 74 (g5 t) 2) fun v0 => bO (ld Pg 3 v0 l h) fun v1 => bO (bin Pg .add 3 true v1 (I 1)) fun v2 => bO (fa Pg 74 (g5 t) 2) fun v3 => jn (fun v4 l4 h4 => k t l4 h4) fun j4 => sto 3 v3 v2 l h j4 (gn Tryz.f48 48 7 4 c (p49 (p50 t v3) v2) t l h j4))
 (.seq (.reg fun c t l h k => bO (ld Pg 74 (g5 t) l h) fun v0 => jn (fun v1 l1 h1 => k t l1 h1) fun j1 => sto 74 (g4 t) v0 l h j1 (gn Tryz.f48 48 8 1 c (p51 (p4 t (g4 t)) v0) t l h j1))
 .ret)))))

def kp49 : List Nat := [0, 1, 2, 3, 8, 9, 11, 12, 13, 14, 15, 28, 40, 80]
def rc49 : RC := (.seq (.reg fun c t l h k => al Pg 74 8 l fun v0 l0 => k (p8 t v0) l0 h)
 (.seq (.reg fun c t l h k => cl c 41 [(g0 t), (g1 t)] t l h fun v0 l0 h0 => bO (ext v0 0) fun v1 => bO (ext v0 1) fun v2 => al Pg 53 9 l0 fun v3 l3 => jn (fun v4 l4 h4 => k (p9 t v3) l4 h4) fun j4 => sto 53 v3 v1 l3 h0 j4 (gn Tryz.f49 49 1 7 c (p20 (p9 t v3) v1) t l3 h0 j4))
 (.seq (.reg fun c t l h k => bO (ld Pg 53 (g9 t) l h) fun v0 => cl c 42 [v0] t l h fun v1 l1 h1 => k (p11 t v1) l1 h1)
 (.seq (.reg fun c t l h k => k (p12 t .nils) l h)
 (.seq (.seq (.reg fun c t l h k => k (p13 t (I 0)) l h)
 (.block 0 (.loop (.seq (.seq (.reg fun c t l h k => bO (fa Pg 53 (g9 t) 4) fun v0 => bO (ld Pg 46 v0 l h) fun v1 => bO (len (Pg.underlying 46) v1) fun v2 => bO (bin Pg .lss 3 false (g13 t) v2) fun v3 => k (p28 t v3) l h)
 (.cond (.tmp 28) .skip (.exit 0)))
 (.seq (.block 1 (.seq (.reg fun c t l h k => k (p14 t (I 0)) l h)
 (.block 2 (.loop (.seq (.seq (.reg fun c t l h k => bO (fa Pg 53 (g9 t) 4) fun v0 => bO (ld Pg 46 v0 l h) fun v1 => bO (ia Pg 46 v1 (g13 t)) fun v2 => bO (fa Pg 92 v2 1) fun v3 => bO (fa Pg 49 v3 2) fun v4 => bO (ld Pg 47 v4 l h) fun v5 => bO (len (Pg.underlying 47) v5) fun v6 => bO (bin Pg .lss 3 false (g14 t) v6) fun v7 => k (p40 t v7) l h)
 (.cond (.tmp 40) .skip (.exit 2)))
 (.seq (.block 3 (.reg fun c t l h k => bO (fa Pg 53 (g9 t) 4) fun v0 => bO (ld Pg 46 v0 l h) fun v1 => bO (ia Pg 46 v1 (g13 t)) fun v2 => bO (fa Pg 92 v2 1) fun v3 => bO (fa Pg 49 v3 2) fun v4 => bO (ld Pg 47 v4 l h) fun v5 => bO (ia Pg 47 v5 (g14 t)) fun v6 => bO (ld Pg 51 v6 l h) fun v7 => bO (slc Pg 106 (g2 t) none (some (g13 t)) (some (g13 t))) fun v8 => bO (ia Pg 106 (g2 t) (g13 t)) fun v9 => bO (ld Pg 74 v9 l h) fun v10 => jE ((62, v10) :: (61, v9) :: (60, (g13 t)) :: (59, (g2 t)) :: (58, v8) :: (57, (g13 t)) :: (56, (g13 t)) :: (55, (g2 t)) :: (54, v7) :: (53, v6) :: (52, (g14 t)) :: (51, v5) :: (50, v4) :: (49, v3) :: (48, v2) :: (47, (g13 t)) :: (46, v1) :: (45, v0) :: (44, (g0 t)) :: (43, (g12 t)) :: []) fun e11 => jF ((ldF v9) :: ft0 :: ft0 :: ft0 :: ft0 :: ft0 :: ft0 :: ft0 :: (ldF v6) :: ft0 :: ft0 :: (ldF v4) :: ft0 :: ft0 :: ft0 :: ft0 :: (ldF v0) :: ft0 :: ft0 :: ft0 :: []) fun q11 => gD Tryz.f49 49 10 20 c (p62 t v10) l h (fun v11 f11 l11 h11 => jE ((63, v11) :: e11) fun e12 => jF (f11 :: q11) fun q12 => gD Tryz.f49 49 10 21 c (p63 (p58 t v8) v11) l11 h11 (fun v12 f12 l12 h12 => bO (slc Pg 80 (g11 t) none (some (g13 t)) (some (g13 t))) fun v13 => jE ((68, v13) :: (67, (g13 t)) :: (66, (g13 t)) :: (65, (g11 t)) :: (64, v12) :: e12) fun e14 => jF (ft0 :: ft0 :: ft0 :: ft0 :: f12 :: q12) fun q14 => gD Tryz.f49 49 10 26 c t l12 h12 (fun v14 f14 l14 h14 => jE ((69, v14) :: e14) fun e15 => jF (f14 :: q14) fun q15 => gD Tryz.f49 49 10 27 c (p69 (p68 t v13) v14) l14 h14 (fun v15 f15 l15 h15 => jE ((72, (g3 t)) :: (71, (g3 t)) :: (70, v15) :: e15) fun e16 => jF (ft0 :: ft0 :: f15 :: q15) fun q16 => clD c 70 [(g0 t), v7, v12, v15, (g3 t), (g3 t)] l15 h15 (fun v16 f16 l16 h16 => jE ((73, v16) :: e16) fun e17 => jF (f16 :: q16) fun q17 => gD Tryz.f49 49 10 31 c (p73 t v16) l16 h16 (fun v17 f17 l17 h17 => jE ((74, v17) :: e17) fun e18 => jF (f17 :: q17) fun q18 => gD Tryz.f49 49 10 32 c (p74 (p43 t (g12 t)) v17) l17 h17 (fun v18 f18 l18 h18 => finD (rgA Tryz.f49 10).toList [(3, 21), (8, 21), (11, 21), (3, 27), (8, 27), (11, 27)] [(3, 21), (8, 21), (11, 21), (3, 27), (8, 27), (11, 27)] (ft0 :: f18 :: q18) (k (p12 t v18) l18 h18)) (sD Tryz.f49 49 10 c 32 (some 75) e18 q18 t l17 h17)) (sD Tryz.f49 49 10 c 31 (some 74) e17 q17 t l16 h16)) (sD Tryz.f49 49 10 c 30 (some 73) e16 q16 t l15 h15)) (sD Tryz.f49 49 10 c 27 (some 70) e15 q15 t l14 h14)) (sD Tryz.f49 49 10 c 26 (some 69) e14 q14 t l12 h12)) (sD Tryz.f49 49 10 c 21 (some 64) e12 q12 t l11 h11)) (sD Tryz.f49 49 10 c 20 (some 63) e11 q11 t l h)))
 (.reg fun c t l h k => bO (bin Pg .add 3 true (g14 t) (I 1)) fun v0 => k (p14 t v0) l h)))))))
 (.reg fun c t l h k => bO (bin Pg .add 3 true (g13 t) (I 1)) fun v0 => k (p13 t v0) l h))))))
 (.seq (.seq (.reg fun c t l h k => k (p15 t (I 0)) l h)
 (.block 4 (.loop (.seq (.seq (.reg fun c t l h k => bO (fa Pg 53 (g9 t) 7) fun v0 => bO (ld Pg 47 v0 l h) fun v1 => bO (len (Pg.underlying 47) v1) fun v2 => bO (bin Pg .lss 3 false (g15 t) v2) fun v3 => k (p80 t v3) l h)
 (.cond (.tmp 80) .skip (.exit 4)))
 (.seq (.block 5 (.reg fun c t l h k => bO (fa Pg 53 (g9 t) 7) fun v0 => bO (ld Pg 47 v0 l h) fun v1 => bO (ia Pg 47 v1 (g15 t)) fun v2 => bO (ld Pg 51 v2 l h) fun v3 => cl c 70 [(g0 t), v3, (g2 t), (g11 t), (g3 t), (g3 t)] t l h fun v4 l4 h4 => bO (bs Pg 106 1 [(0, v4)]) fun v5 => gn Tryz.f49 49 14 13 c (p95 (p83 t (g12 t)) v5) t l4 h4 (fun v6 l6 h6 => k (p12 t v6) l6 h6)))
 (.reg fun c t l h k => bO (bin Pg .add 3 true (g15 t) (I 1)) fun v0 => k (p15 t v0) l h))))))
 (.seq (.reg fun c t l h k => cl c 48 [(I 5), (g12 t)] t l h fun v0 l0 h0 => jn (fun v1 l1 h1 => k t l1 h1) fun j1 => sto 74 (g8 t) v0 l0 h0 j1 (gn Tryz.f49 49 15 2 c (p98 (p8 t (g8 t)) v0) t l0 h0 j1))
 .ret)))))))

def kp50 : List Nat := [0, 1, 2, 3, 4, 5, 7, 12, 13, 14, 18, 21, 22, 42, 59, 81, 91]
def rc50 : RC := (.seq (.reg fun c t l h k => gn Tryz.f50 50 0 0 c (p1 t (g1 t)) t l h (fun v0 l0 h0 => al Pg 74 12 l0 fun v1 l1 => k (p12 (p7 t v0) v1) l1 h0))
 (.seq (.seq (.reg fun c t l h k => bO (nilC (g0 t)) fun v0 => bO (fa Pg 108 v0 9) fun v1 => bO (ld Pg 4 v1 l h) fun v2 => k (p18 t v2) l h)
 (.cond (.tmp 18) (.seq (.reg fun c t l h k => gn Tryz.f50 50 2 0 c t t l h (fun v0 l0 h0 => jn (fun v1 l1 h1 => k t l1 h1) fun j1 => sto 74 (g12 t) v0 l0 h0 j1 (gn Tryz.f50 50 2 1 c (p19 (p12 t (g12 t)) v0) t l0 h0 j1)))
 .ret) .skip))
 (.seq (.seq (.reg fun c t l h k => bO (fa Pg 51 (g7 t) 0) fun v0 => bO (ld Pg 3 v0 l h) fun v1 => k (p21 t v1) l h)
 (.block 0 (.seq (.seq (.reg fun c t l h k => bO (bin Pg .eql 3 true (g21 t) (I 22)) fun v0 => k (p22 t v0) l h)
 (.cond (.tmp 22) .skip (.seq (.reg fun c t l h k => bO (bin Pg .eql 3 true (g21 t) (I 18)) fun v0 => k (p22 t v0) l h)
 (.cond (.tmp 22) .skip (.seq (.reg fun c t l h k => bO (bin Pg .eql 3 true (g21 t) (I 19)) fun v0 => k (p22 t v0) l h)
 (.cond (.tmp 22) .skip (.reg fun c t l h k => bO (bin Pg .eql 3 true (g21 t) (I 20)) fun v0 => k (p22 t v0) l h)))))))
 (.cond (.tmp 22) (.seq (.reg fun c t l h k => bO (fa Pg 51 (g7 t) 4) fun v0 => bO (ld Pg 47 v0 l h) fun v1 => bO (ia Pg 47 v1 (I 0)) fun v2 => bO (ld Pg 51 v2 l h) fun v3 => bO (ld Pg 51 (g7 t) l h) fun v4 => jE ((38, (g5 t)) :: (37, (g3 t)) :: (36, (g2 t)) :: (35, v4) :: (34, (g4 t)) :: (33, (g3 t)) :: (32, (g2 t)) :: (31, v3) :: (30, v2) :: (29, v1) :: (28, v0) :: (27, (g0 t)) :: []) fun e5 => jF (ft0 :: ft0 :: ft0 :: (ldF (g7 t)) :: ft0 :: ft0 :: ft0 :: (ldF v2) :: ft0 :: (ldF v0) :: ft0 :: ft0 :: []) fun q5 => gD Tryz.f50 50 8 12 c (p38 (p37 (p36 (p35 t v4) (g2 t)) (g3 t)) (g5 t)) l h (fun v5 f5 l5 h5 => jE ((39, v5) :: e5) fun e6 => jF (f5 :: q5) fun q6 => gD Tryz.f50 50 8 13 c (p39 t v5) l5 h5 (fun v6 f6 l6 h6 => jE ((40, v6) :: e6) fun e7 => jF (f6 :: q6) fun q7 => clD c 50 [(g0 t), v3, (g2 t), (g3 t), (g4 t), v6] l6 h6 (fun v7 f7 l7 h7 => jE ((41, v7) :: e7) fun e8 => jF (f7 :: q7) fun q8 => gD Tryz.f50 50 8 15 c (p41 (p12 t (g12 t)) v7) l7 h7 (fun v8 f8 l8 h8 => finD (rgA Tryz.f50 8).toList [(2, 13), (4, 13)] [(2, 13), (4, 13)] (f8 :: q8) (k t l8 h8)) (sD Tryz.f50 50 8 c 15 none e8 q8 t l7 h7)) (sD Tryz.f50 50 8 c 14 (some 41) e7 q7 t l6 h6)) (sD Tryz.f50 50 8 c 13 (some 40) e6 q6 t l5 h5)) (sD Tryz.f50 50 8 c 12 (some 39) e5 q5 t l h))
 .ret) (.seq (.reg fun c t l h k => bO (bin Pg .eql 3 true (g21 t) (I 23)) fun v0 => k (p42 t v0) l h)
 (.cond (.tmp 42) (.seq (.reg fun c t l h k => bO (fa Pg 51 (g7 t) 4) fun v0 => bO (ld Pg 47 v0 l h) fun v1 => bO (ia Pg 47 v1 (I 0)) fun v2 => bO (ld Pg 51 v2 l h) fun v3 => bO (ld Pg 51 (g7 t) l h) fun v4 => jE ((55, (g5 t)) :: (54, (g3 t)) :: (53, (g2 t)) :: (52, v4) :: (51, (g4 t)) :: (50, (g3 t)) :: (49, (g2 t)) :: (48, v3) :: (47, v2) :: (46, v1) :: (45, v0) :: (44, (g0 t)) :: []) fun e5 => jF (ft0 :: ft0 :: ft0 :: (ldF (g7 t)) :: ft0 :: ft0 :: ft0 :: (ldF v2) :: ft0 :: (ldF v0) :: ft0 :: ft0 :: []) fun q5 => gD Tryz.f50 50 10 12 c (p55 (p54 (p53 (p52 t v4) (g2 t)) (g3 t)) (g5 t)) l h (fun v5 f5 l5 h5 => jE ((56, v5) :: e5) fun e6 => jF (f5 :: q5) fun q6 => gD Tryz.f50 50 10 13 c (p56 t v5) l5 h5 (fun v6 f6 l6 h6 => jE ((57, v6) :: e6) fun e7 => jF (f6 :: q6) fun q7 => clD c 50 [(g0 t), v3, (g2 t), (g3 t), (g4 t), v6] l6 h6 (fun v7 f7 l7 h7 => jE ((58, v7) :: e7) fun e8 => jF (f7 :: q7) fun q8 => gD Tryz.f50 50 10 15 c (p58 (p12 t (g12 t)) v7) l7 h7 (fun v8 f8 l8 h8 => finD (rgA Tryz.f50 10).toList [(2, 13), (4, 13)] [(2, 13), (4, 13)] (f8 :: q8) (k t l8 h8)) (sD Tryz.f50 50 10 c 15 none e8 q8 t l7 h7)) (sD Tryz.f50 50 10 c 14 (some 58) e7 q7 t l6 h6)) (sD Tryz.f50 50 10 c 13 (some 57) e6 q6 t l5 h5)) (sD Tryz.f50 50 10 c 12 (some 56) e5 q5 t l h))
 .ret) (.seq (.reg fun c t l h k => bO (bin Pg .eql 3 true (g21 t) (I 27)) fun v0 => k (p59 t v0) l h)
 (.cond (.tmp 59) (.seq (.reg fun c t l h k => bO (fa Pg 51 (g7 t) 4) fun v0 => bO (ld Pg 47 v0 l h) fun v1 => bO (ia Pg 47 v1 (I 0)) fun v2 => bO (ld Pg 51 v2 l h) fun v3 => bO (ld Pg 51 (g7 t) l h) fun v4 => jE ((72, (g5 t)) :: (71, (g3 t)) :: (70, (g2 t)) :: (69, v4) :: (68, (g4 t)) :: (67, (g3 t)) :: (66, (g2 t)) :: (65, v3) :: (64, v2) :: (63, v1) :: (62, v0) :: (61, (g0 t)) :: []) fun e5 => jF (ft0 :: ft0 :: ft0 :: (ldF (g7 t)) :: ft0 :: ft0 :: ft0 :: (ldF v2) :: ft0 :: (ldF v0) :: ft0 :: ft0 :: []) fun q5 => gD Tryz.f50 50 12 12 c (p72 (p71 (p70 (p69 t v4) (g2 t)) (g3 t)) (g5 t)) l h (fun v5 f5 l5 h5 => jE ((73, v5) :: e5) fun e6 => jF (f5 :: q5) fun q6 => gD Tryz.f50 50 12 13 c (p73 t v5) l5 h5 (fun v6 f6 l6 h6 => jE ((74, v6) :: e6) fun e7 => jF (f6 :: q6) fun q7 => clD c 50 [(g0 t), v3, (g2 t), (g3 t), (g4 t), v6] l6 h6 (fun v7 f7 l7 h7 => jE ((75, v7) :: e7) fun e8 => jF (f7 :: q7) fun q8 => gD Tryz.f50 50 12 15 c (p75 (p12 t (g12 t)) v7) l7 h7 (fun v8 f8 l8 h8 => finD (rgA Tryz.f50 12).toList [(2, 13), (4, 13)] [(2, 13), (4, 13)] (f8 :: q8) (k t l8 h8)) (sD Tryz.f50 50 12 c 15 none e8 q8 t l7 h7)) (sD Tryz.f50 50 12 c 14 (some 75) e7 q7 t l6 h6)) (sD Tryz.f50 50 12 c 13 (some 74) e6 q6 t l5 h5)) (sD Tryz.f50 50 12 c 12 (some 73) e5 q5 t l h))
 .ret) .skip))))))))
 (.seq (.seq (.reg fun c t l h k => bO (ld Pg 51 (g7 t) l h) fun v0 => cl c 71 [v0] t l h fun v1 l1 h1 => bO (ext v1 0) fun v2 => bO (ext v1 1) fun v3 => al Pg 139 13 l1 fun v4 l4 => jn (fun v5 l5 h5 => k (p14 (p13 t v4) v3) l5 h5) fun j5 => sto 139 v4 v2 l4 h1 j5 (gn Tryz.f50 50 13 6 c (p79 (p13 t v4) v2) t l4 h1 j5))
 (.seq (.reg fun c t l h k => k (p81 t (g14 t)) l h)
 (.cond (.tmp 81) (.seq (.reg fun c t l h k => bO (ld Pg 139 (g13 t) l h) fun v0 => cl c 73 [v0] t l h fun v1 l1 h1 => cl c 72 [(g0 t), (g5 t), v1, (g4 t)] t l1 h1 fun v2 l2 h2 => jn (fun v3 l3 h3 => k t l3 h3) fun j3 => sto 74 (g12 t) v2 l2 h2 j3 (gn Tryz.f50 50 15 6 c (p87 (p12 t (g12 t)) v2) t l2 h2 j3))
 .ret) .skip)))
 (.seq (.seq (.reg fun c t l h k => bO (fa Pg 51 (g7 t) 4) fun v0 => bO (ld Pg 47 v0 l h) fun v1 => bO (len (Pg.underlying 47) v1) fun v2 => bO (bin Pg .gtr 3 true v2 (I 0)) fun v3 => k (p91 t v3) l h)
 (.cond (.tmp 91) (.seq (.reg fun c t l h k => bO (fa Pg 51 (g7 t) 4) fun v0 => bO (ld Pg 47 v0 l h) fun v1 => bO (ia Pg 47 v1 (I 0)) fun v2 => bO (ld Pg 51 v2 l h) fun v3 => bO (ld Pg 51 (g7 t) l h) fun v4 => jE ((103, (g5 t)) :: (102, (g3 t)) :: (101, (g2 t)) :: (100, v4) :: (99, (g4 t)) :: (98, (g3 t)) :: (97, (g2 t)) :: (96, v3) :: (95, v2) :: (94, v1) :: (93, v0) :: (92, (g0 t)) :: []) fun e5 => jF (ft0 :: ft0 :: ft0 :: (ldF (g7 t)) :: ft0 :: ft0 :: ft0 :: (ldF v2) :: ft0 :: (ldF v0) :: ft0 :: ft0 :: []) fun q5 => gD Tryz.f50 50 17 12 c (p103 (p102 (p101 (p100 t v4) (g2 t)) (g3 t)) (g5 t)) l h (fun v5 f5 l5 h5 => jE ((104, v5) :: e5) fun e6 => jF (f5 :: q5) fun q6 => gD Tryz.f50 50 17 13 c (p104 t v5) l5 h5 (fun v6 f6 l6 h6 => jE ((105, v6) :: e6) fun e7 => jF (f6 :: q6) fun q7 => clD c 50 [(g0 t), v3, (g2 t), (g3 t), (g4 t), v6] l6 h6 (fun v7 f7 l7 h7 => jE ((106, v7) :: e7) fun e8 => jF (f7 :: q7) fun q8 => gD Tryz.f50 50 17 15 c (p106 (p12 t (g12 t)) v7) l7 h7 (fun v8 f8 l8 h8 => finD (rgA Tryz.f50 17).toList [(2, 13), (4, 13)] [(2, 13), (4, 13)] (f8 :: q8) (k t l8 h8)) (sD Tryz.f50 50 17 c 15 none e8 q8 t l7 h7)) (sD Tryz.f50 50 17 c 14 (some 106) e7 q7 t l6 h6)) (sD Tryz.f50 50 17 c 13 (some 105) e6 q6 t l5 h5)) (sD Tryz.f50 50 17 c 12 (some 104) e5 q5 t l h))
 .ret) .skip))
 (.seq (.reg fun c t l h k => bO (ld Pg 51 (g7 t) l h) fun v0 => cl c 74 [(g0 t), v0, .nils, (g2 t), (g3 t), (g4 t), (g5 t)] t l h fun v1 l1 h1 => jn (fun v2 l2 h2 => k t l2 h2) fun j2 => sto 74 (g12 t) v1 l1 h1 j2 (gn Tryz.f50 50 18 7 c (p113 (p12 t (g12 t)) v1) t l1 h1 j2))
 .ret))))))

def kp51 : List Nat := [0, 2, 3, 4, 5, 6, 7, 8, 9, 17, 33, 44, 59]
def rc51 : RC := (.seq (.reg fun c t l h k => k (p4 (p3 (p2 t .nils) (I 0)) (I 0)) l h)
 (.seq (.reg fun c t l h k => cl c 75 [(g0 t)] t l h fun v0 l0 h0 => bO (ext v0 0) fun v1 => bO (ext v0 1) fun v2 => bO (ext v0 2) fun v3 => k (p7 (p6 (p5 t v1) v2) v3) l0 h0)
 (.seq (.seq (.reg fun c t l h k => bO (bin Pg .neq 3 true (g7 t) (I 0)) fun v0 => k (p17 t v0) l h)
 (.cond (.tmp 17) (.seq (.reg fun c t l h k => k (p4 (p3 (p2 t .nils) (g6 t)) (g7 t)) l h)
 .ret) .skip))
 (.seq (.reg fun c t l h k => gn Tryz.f51 51 4 1 c (p20 t (g5 t)) t l h (fun v0 l0 h0 => gn Tryz.f51 51 4 2 c (p21 t v0) t l0 h0 (fun v1 l1 h1 => k (p8 t v1) l1 h1)))
 (.seq (.reg fun c t l h k => k (p9 t .nils) l h)
 (.seq (.block 0 (.loop (.seq (.seq (.reg fun c t l h k => bO (nilC (g8 t)) fun v0 => bO (fa Pg 150 v0 2) fun v1 => bO (ld Pg 3 v1 l h) fun v2 => bO (bin Pg .eql 3 true v2 (I 0)) fun v3 => jn (fun v4 l4 h4 => jn (fun v5 l5 h5 => jn (fun v6 l6 h6 => jn (fun v7 l7 h7 => bO (pick v3 v7 (.bool false)) fun v8 => k (p33 t v8) l7 h7) fun j7 => brB (wv v3 true) (j7 (.tuple []) l6 h6) (bO (bin Pg .neq 3 true v6 (I 0)) fun v8 => j7 v8 l6 h6)) fun j6 => brB (wv v3 true) (j6 (.tuple []) l5 h5) (bO (fld Pg 152 v5 0) fun v7 => j6 v7 l5 h5)) fun j5 => brB (wv v3 true) (j5 (.tuple []) l4 h4) (cl c 76 [v4] t l4 h4 fun v6 l6 h6 => j5 v6 l6 h6)) fun j4 => brB (wv v3 true) (j4 (.tuple []) l h) (j4 (g8 t) l h))
 (.cond (.tmp 33) .skip (.exit 0)))
 (.block 1 (.seq (.seq (.reg fun c t l h k => cl c 77 [(g8 t), (.str ⟨3, 6710642⟩)] t l h fun v0 l0 h0 => jn (fun v1 l1 h1 => jn (fun v2 l2 h2 => bO (pick v0 (.bool true) v2) fun v3 => jn (fun v4 l4 h4 => jn (fun v5 l5 h5 => jn (fun v6 l6 h6 => bO (pick v3 v6 (.bool false)) fun v7 => k (p44 t v7) l6 h6) fun j6 => brB (wv v3 true) (j6 (.tuple []) l5 h5) (bO (bin Pg .eql 3 true v5 (I 100)) fun v7 => j6 v7 l5 h5)) fun j5 => brB (wv v3 true) (j5 (.tuple []) l4 h4) (bO (len (Pg.underlying 25) v4) fun v6 => j5 v6 l4 h4)) fun j4 => brB (wv v3 true) (j4 (.tuple []) l2 h2) (j4 (g9 t) l2 h2)) fun j2 => brB (wv v0 false) (j2 (.tuple []) l1 h1) (cl c 77 [v1, (.str ⟨3, 7628140⟩)] t l1 h1 fun v3 l3 h3 => j2 v3 l3 h3)) fun j1 => brB (wv v0 false) (j1 (.tuple []) l0 h0) (j1 (g8 t) l0 h0))
 (.cond (.tmp 44) (.seq (.reg fun c t l h k => cl c 76 [(g8 t)] t l h fun v0 l0 h0 => bO (fld Pg 152 v0 2) fun v1 => cl c 78 [(g8 t), v1, (I 152)] t l0 h0 fun v2 l2 h2 => k t l2 h2)
 (.exit 0)) .skip))
 (.reg fun c t l h k => cl c 79 [(g8 t)] t l h fun v0 l0 h0 => bO (bs Pg 25 1 [(0, v0)]) fun v1 => gn Tryz.f51 51 9 4 c (p53 (p50 t (g9 t)) v1) t l0 h0 (fun v2 l2 h2 => k (p9 t v2) l2 h2)))))))
 (.seq (.seq (.reg fun c t l h k => bO (nilC (g8 t)) fun v0 => bO (fa Pg 150 v0 2) fun v1 => bO (ld Pg 3 v1 l h) fun v2 => bO (bin Pg .neq 3 true v2 (I 0)) fun v3 => k (p59 t v3) l h)
 (.cond (.tmp 59) (.seq (.reg fun c t l h k => bO (nilC (g8 t)) fun v0 => bO (fa Pg 150 v0 3) fun v1 => bO (ld Pg 3 v1 l h) fun v2 => bO (nilC (g8 t)) fun v3 => bO (fa Pg 150 v3 2) fun v4 => bO (ld Pg 3 v4 l h) fun v5 => k (p4 (p3 (p2 t .nils) v2) v5) l h)
 .ret) .skip))
 (.seq (.reg fun c t l h k => k (p4 (p3 (p2 t (g9 t)) (I 0)) (I 0)) l h)
 .ret))))))))

def kp52 : List Nat := [0, 1, 4, 5, 10, 18]
def rc52 : RC := (.seq (.reg fun c t l h k => k (p4 t (I 0)) l h)
 (.seq (.seq (.reg fun c t l h k => bO (len (Pg.underlying 24) (g0 t)) fun v0 => bO (bin Pg .sub 3 true v0 (I 1)) fun v1 => k (p5 t v1) l h)
 (.block 0 (.loop (.seq (.seq (.reg fun c t l h k => bO (bin Pg .geq 3 true (g5 t) (I 0)) fun v0 => k (p10 t v0) l h)
 (.cond (.tmp 10) .skip (.exit 0)))
 (.seq (.block 1 (.seq (.reg fun c t l h k => bO (ia Pg 24 (g0 t) (g5 t)) fun v0 => bO (ld Pg 9 v0 l h) fun v1 => bO (bin Pg .eql 9 false v1 (g1 t)) fun v2 => k (p18 t v2) l h)
 (.cond (.tmp 18) (.seq (.reg fun c t l h k => k (p4 t (g5 t)) l h)
 .ret) .skip)))
 (.reg fun c t l h k => bO (bin Pg .sub 3 true (g5 t) (I 1)) fun v0 => k (p5 t v0) l h))))))
 (.seq (.reg fun c t l h k => k (p4 t (.int .i64 (.negSucc 0))) l h)
 .ret)))

def kp54 : List Nat := [0, 1, 2, 3, 8, 9, 10, 11, 15]
def rc54 : RC := (.seq (.reg fun c t l h k => k (p8 t .nils) l h)
 (.seq (.reg fun c t l h k => k (p9 t .nils) l h)
 (.seq (.seq (.reg fun c t l h k => k (p10 t (I 0)) l h)
 (.block 0 (.loop (.seq (.seq (.reg fun c t l h k => bO (len (Pg.underlying 47) (g1 t)) fun v0 => bO (bin Pg .lss 3 false (g10 t) v0) fun v1 => k (p15 t v1) l h)
 (.cond (.tmp 15) .skip (.exit 0)))
 (.seq (.block 1 (.seq (.reg fun c t l h k => bO (ia Pg 47 (g1 t) (g10 t)) fun v0 => bO (ld Pg 51 v0 l h) fun v1 => cl c 55 [(g0 t), v1, (g2 t), (g3 t)] t l h fun v2 l2 h2 => al Pg 51 11 l2 fun v3 l3 => jn (fun v4 l4 h4 => k (p11 t v3) l4 h4) fun j4 => sto 51 v3 v2 l3 h2 j4 (gn Tryz.f54 54 5 9 c (p25 (p11 t v3) v2) t l3 h2 j4))
 (.reg fun c t l h k => bO (ld Pg 51 (g11 t) l h) fun v0 => bO (bs Pg 47 1 [(0, v0)]) fun v1 => gn Tryz.f54 54 6 3 c (p28 (p26 t (g9 t)) v1) t l h (fun v2 l2 h2 => k (p9 t v2) l2 h2))))
 (.reg fun c t l h k => bO (bin Pg .add 3 true (g10 t) (I 1)) fun v0 => k (p10 t v0) l h))))))
 (.seq (.reg fun c t l h k => k (p8 t (g9 t)) l h)
 .ret))))

def kp55 : List Nat := [0, 1, 2, 3, 5, 8, 9, 10, 11, 12, 13, 18, 21, 22, 29, 40, 50, 65, 70, 82, 91, 106]
def rc55 : RC := (.seq (.reg fun c t l h k => gn Tryz.f55 55 0 0 c (p1 t (g1 t)) t l h (fun v0 l0 h0 => al Pg 51 8 l0 fun v1 l1 => k (p8 (p5 t v0) v1) l1 h0))
 (.seq (.seq (.reg fun c t l h k => bO (nilC (g0 t)) fun v0 => bO (fa Pg 122 v0 2) fun v1 => bO (ld Pg 3 v1 l h) fun v2 => bO (bin Pg .neq 3 true v2 (I 0)) fun v3 => k (p18 t v3) l h)
 (.cond (.tmp 18) (.seq (.reg fun c t l h k => bO (ld Pg 51 (g5 t) l h) fun v0 => jn (fun v1 l1 h1 => k t l1 h1) fun j1 => sto 51 (g8 t) v0 l h j1 (gn Tryz.f55 55 2 1 c (p19 (p8 t (g8 t)) v0) t l h j1))
 .ret) .skip))
 (.seq (.seq (.reg fun c t l h k => bO (fa Pg 51 (g5 t) 0) fun v0 => bO (ld Pg 3 v0 l h) fun v1 => k (p21 t v1) l h)
 (.block 0 (.seq (.reg fun c t l h k => bO (bin Pg .eql 3 true (g21 t) (I 4)) fun v0 => k (p22 t v0) l h)
 (.cond (.tmp 22) (.seq (.reg fun c t l h k => bO (fa Pg 51 (g5 t) 1) fun v0 => bO (ld Pg 9 v0 l h) fun v1 => cl c 52 [(g2 t), v1] t l h fun v2 l2 h2 => k (p9 t v2) l2 h2)
 (.seq (.seq (.reg fun c t l h k => bO (bin Pg .lss 3 true (g9 t) (I 0)) fun v0 => k (p29 t v0) l h)
 (.cond (.tmp 29) (.reg fun c t l h k => bO (fa Pg 51 (g5 t) 6) fun v0 => bO (ld Pg 3 v0 l h) fun v1 => cl c 53 [(g0 t), v1, (I 170)] t l h fun v2 l2 h2 => k t l2 h2) .skip))
 (.reg fun c t l h k => bO (len (Pg.underlying 24) (g2 t)) fun v0 => bO (bin Pg .sub 3 true v0 (I 1)) fun v1 => bO (bin Pg .sub 3 false v1 (g9 t)) fun v2 => bO (fa Pg 51 (g5 t) 5) fun v3 => jn (fun v4 l4 h4 => k t l4 h4) fun j4 => sto 3 v3 v2 l h j4 (gn Tryz.f55 55 8 6 c (p38 (p39 t v3) v2) t l h j4)))) (.seq (.seq (.reg fun c t l h k => bO (bin Pg .eql 3 true (g21 t) (I 5)) fun v0 => k (p40 t v0) l h)
 (.cond (.tmp 40) .skip (.seq (.reg fun c t l h k => bO (bin Pg .eql 3 true (g21 t) (I 25)) fun v0 => k (p40 t v0) l h)
 (.cond (.tmp 40) .skip (.reg fun c t l h k => bO (bin Pg .eql 3 true (g21 t) (I 6)) fun v0 => k (p40 t v0) l h)))))
 (.cond (.tmp 40) (.seq (.seq (.reg fun c t l h k => bO (fa Pg 51 (g5 t) 0) fun v0 => bO (ld Pg 3 v0 l h) fun v1 => bO (bin Pg .eql 3 true v1 (I 6)) fun v2 => jn (fun v3 l3 h3 => jn (fun v4 l4 h4 => bO (pick v2 v4 (.bool false)) fun v5 => k (p50 t v5) l4 h4) fun j4 => brB (wv v2 true) (j4 (.tuple []) l3 h3) (bO (G.un .not v3) fun v5 => j4 v5 l3 h3)) fun j3 => brB (wv v2 true) (j3 (.tuple []) l h) (j3 (g3 t) l h))
 (.cond (.tmp 50) (.reg fun c t l h k => bO (fa Pg 51 (g5 t) 6) fun v0 => bO (ld Pg 3 v0 l h) fun v1 => cl c 53 [(g0 t), v1, (I 172)] t l h fun v2 l2 h2 => k t l2 h2) .skip))
 (.seq (.reg fun c t l h k => bO (nilC (g0 t)) fun v0 => bO (fa Pg 122 v0 0) fun v1 => bO (ld Pg 24 v1 l h) fun v2 => bO (fa Pg 51 (g5 t) 1) fun v3 => bO (ld Pg 9 v3 l h) fun v4 => jE ((60, v4) :: (59, v3) :: (58, v2) :: (57, v1) :: (56, v0) :: (55, (g0 t)) :: []) fun e5 => jF ((ldF v3) :: ft0 :: (ldF v1) :: ft0 :: ft0 :: ft0 :: []) fun q5 => clD c 52 [v2, v4] l h (fun v5 f5 l5 h5 => bO (fa Pg 51 (g5 t) 5) fun v6 => jE ((62, v6) :: (61, v5) :: e5) fun e7 => jF (ft0 :: f5 :: q5) fun q7 => gD Tryz.f55 55 14 8 c (p61 (p62 t v6) v5) l5 h5 (fun v7 f7 l7 h7 => finD (rgA Tryz.f55 14).toList [] [] (f7 :: q7) (k t l7 h7)) (sD Tryz.f55 55 14 c 8 none e7 q7 t l5 h5)) (sD Tryz.f55 55 14 c 6 (some 61) e5 q5 t l h))
 (.seq (.reg fun c t l h k => bO (fa Pg 51 (g5 t) 5) fun v0 => bO (ld Pg 3 v0 l h) fun v1 => bO (bin Pg .lss 3 true v1 (I 0)) fun v2 => k (p65 t v2) l h)
 (.cond (.tmp 65) (.reg fun c t l h k => bO (fa Pg 51 (g5 t) 6) fun v0 => bO (ld Pg 3 v0 l h) fun v1 => cl c 53 [(g0 t), v1, (I 170)] t l h fun v2 l2 h2 => k t l2 h2) .skip)))) (.seq (.reg fun c t l h k => bO (bin Pg .eql 3 true (g21 t) (I 21)) fun v0 => k (p70 t v0) l h)
 (.cond (.tmp 70) (.seq (.reg fun c t l h k => bO (nilC (g0 t)) fun v0 => bO (fa Pg 122 v0 1) fun v1 => bO (ld Pg 24 v1 l h) fun v2 => bO (fa Pg 51 (g5 t) 1) fun v3 => bO (ld Pg 9 v3 l h) fun v4 => jE ((77, v4) :: (76, v3) :: (75, v2) :: (74, v1) :: (73, v0) :: (72, (g0 t)) :: []) fun e5 => jF ((ldF v3) :: ft0 :: (ldF v1) :: ft0 :: ft0 :: ft0 :: []) fun q5 => clD c 52 [v2, v4] l h (fun v5 f5 l5 h5 => bO (fa Pg 51 (g5 t) 5) fun v6 => jE ((79, v6) :: (78, v5) :: e5) fun e7 => jF (ft0 :: f5 :: q5) fun q7 => gD Tryz.f55 55 18 8 c (p78 (p79 t v6) v5) l5 h5 (fun v7 f7 l7 h7 => finD (rgA Tryz.f55 18).toList [] [] (f7 :: q7) (k t l7 h7)) (sD Tryz.f55 55 18 c 8 none e7 q7 t l5 h5)) (sD Tryz.f55 55 18 c 6 (some 78) e5 q5 t l h))
 (.seq (.reg fun c t l h k => bO (fa Pg 51 (g5 t) 5) fun v0 => bO (ld Pg 3 v0 l h) fun v1 => bO (bin Pg .lss 3 true v1 (I 0)) fun v2 => k (p82 t v2) l h)
 (.cond (.tmp 82) (.reg fun c t l h k => bO (fa Pg 51 (g5 t) 6) fun v0 => bO (ld Pg 3 v0 l h) fun v1 => cl c 53 [(g0 t), v1, (I 170)] t l h fun v2 l2 h2 => k t l2 h2) .skip))) .skip))))))))
 (.seq (.reg fun c t l h k => k (p10 t .nils) l h)
 (.seq (.seq (.reg fun c t l h k => k (p11 t (I 0)) l h)
 (.block 1 (.loop (.seq (.seq (.reg fun c t l h k => bO (fa Pg 51 (g5 t) 4) fun v0 => bO (ld Pg 47 v0 l h) fun v1 => bO (len (Pg.underlying 47) v1) fun v2 => bO (bin Pg .lss 3 false (g11 t) v2) fun v3 => k (p91 t v3) l h)
 (.cond (.tmp 91) .skip (.exit 1)))
 (.seq (.block 2 (.seq (.reg fun c t l h k => k (p12 t (g2 t)) l h)
 (.seq (.seq (.reg fun c t l h k => bO (bin Pg .eql 3 true (g11 t) (I 1)) fun v0 => jn (fun v1 l1 h1 => jn (fun v2 l2 h2 => jn (fun v3 l3 h3 => jn (fun v4 l4 h4 => jn (fun v5 l5 h5 => jn (fun v6 l6 h6 => jn (fun v7 l7 h7 => jn (fun v8 l8 h8 => bO (pick v0 v8 (.bool false)) fun v9 => k (p106 t v9) l8 h8) fun j8 => brB (wv v0 true) (j8 (.tuple []) l7 h7) (bO (pick v4 (.bool true) v7) fun v9 => j8 v9 l7 h7)) fun j7 => brB (wv v4 false) (j7 (.tuple []) l6 h6) (bO (bin Pg .eql 3 true v6 (I 27)) fun v8 => j7 v8 l6 h6)) fun j6 => brB (wv v4 false) (j6 (.tuple []) l5 h5) (bO (ld Pg 3 v5 l5 h5) fun v7 => j6 v7 l5 h5)) fun j5 => brB (wv v4 false) (j5 (.tuple []) l4 h4) (bO (fa Pg 51 (g5 t) 0) fun v6 => j5 v6 l4 h4)) fun j4 => brB (wv v0 true) (j4 (.tuple []) l3 h3) (j4 v3 l3 h3)) fun j3 => brB (wv v0 true) (j3 (.tuple []) l2 h2) (bO (bin Pg .eql 3 true v2 (I 23)) fun v4 => j3 v4 l2 h2)) fun j2 => brB (wv v0 true) (j2 (.tuple []) l1 h1) (bO (ld Pg 3 v1 l1 h1) fun v3 => j2 v3 l1 h1)) fun j1 => brB (wv v0 true) (j1 (.tuple []) l h) (bO (fa Pg 51 (g5 t) 0) fun v2 => j1 v2 l h))
 (.cond (.tmp 106) (.reg fun c t l h k => bO (len (Pg.underlying 24) (g2 t)) fun v0 => bO (len (Pg.underlying 24) (g2 t)) fun v1 => bO (slc Pg 24 (g2 t) none (some v0) (some v1)) fun v2 => bO (fa Pg 51 (g5 t) 1) fun v3 => bO (ld Pg 9 v3 l h) fun v4 => jE ((114, v4) :: (113, v3) :: (112, v2) :: (111, v1) :: (110, (g2 t)) :: (109, v0) :: (108, (g2 t)) :: (107, (g2 t)) :: []) fun e5 => jF ((ldF v3) :: ft0 :: ft0 :: ft0 :: ft0 :: ft0 :: ft0 :: ft0 :: []) fun q5 => gD Tryz.f55 55 27 8 c (p114 t v4) l h (fun v5 f5 l5 h5 => jE ((115, v5) :: e5) fun e6 => jF (f5 :: q5) fun q6 => gD Tryz.f55 55 27 9 c (p115 (p112 t v2) v5) l5 h5 (fun v6 f6 l6 h6 => finD (rgA Tryz.f55 27).toList [] [] (ft0 :: f6 :: q6) (k (p12 t v6) l6 h6)) (sD Tryz.f55 55 27 c 9 (some 116) e6 q6 t l5 h5)) (sD Tryz.f55 55 27 c 8 (some 115) e5 q5 t l h)) .skip))
 (.seq (.reg fun c t l h k => bO (fa Pg 51 (g5 t) 4) fun v0 => bO (ld Pg 47 v0 l h) fun v1 => bO (ia Pg 47 v1 (g11 t)) fun v2 => bO (ld Pg 51 v2 l h) fun v3 => cl c 55 [(g0 t), v3, (g12 t), (g3 t)] t l h fun v4 l4 h4 => al Pg 51 13 l4 fun v5 l5 => jn (fun v6 l6 h6 => k (p13 t v5) l6 h6) fun j6 => sto 51 v5 v4 l5 h4 j6 (gn Tryz.f55 55 28 10 c (p125 (p13 t v5) v4) t l5 h4 j6))
 (.reg fun c t l h k => bO (ld Pg 51 (g13 t) l h) fun v0 => bO (bs Pg 47 1 [(0, v0)]) fun v1 => gn Tryz.f55 55 29 3 c (p128 (p126 t (g10 t)) v1) t l h (fun v2 l2 h2 => k (p10 t v2) l2 h2))))))
 (.reg fun c t l h k => bO (bin Pg .add 3 true (g11 t) (I 1)) fun v0 => k (p11 t v0) l h))))))
 (.seq (.reg fun c t l h k => bO (fa Pg 51 (g5 t) 4) fun v0 => jn (fun v1 l1 h1 => k t l1 h1) fun j1 => sto 47 v0 (g10 t) l h j1 (gn Tryz.f55 55 30 2 c (p130 (p131 t v0) (g10 t)) t l h j1))
 (.seq (.reg fun c t l h k => bO (ld Pg 51 (g5 t) l h) fun v0 => jn (fun v1 l1 h1 => k t l1 h1) fun j1 => sto 51 (g8 t) v0 l h j1 (gn Tryz.f55 55 31 1 c (p132 (p8 t (g8 t)) v0) t l h j1))
 .ret)))))))

def kp56 : List Nat := [0, 1, 2, 3, 5, 8, 9, 10, 12, 13, 53, 70, 77, 90]
def rc56 : RC := (.seq (.reg fun c t l h k => gn Tryz.f56 56 0 0 c (p1 t (g1 t)) t l h (fun v0 l0 h0 => k (p8 (p5 t v0) (I 0)) l0 h0))
 (.seq (.reg fun c t l h k => bO (fa Pg 51 (g5 t) 0) fun v0 => bO (ld Pg 3 v0 l h) fun v1 => bO (bin Pg .eql 3 true v1 (I 25)) fun v2 => jn (fun v3 l3 h3 => jn (fun v4 l4 h4 => jn (fun v5 l5 h5 => bO (pick v2 (.bool true) v5) fun v6 => jn (fun v7 l7 h7 => jn (fun v8 l8 h8 => jn (fun v9 l9 h9 => bO (pick v6 (.bool true) v9) fun v10 => jn (fun v11 l11 h11 => jn (fun v12 l12 h12 => jn (fun v13 l13 h13 => bO (pick v10 (.bool true) v13) fun v14 => jn (fun v15 l15 h15 => jn (fun v16 l16 h16 => jn (fun v17 l17 h17 => bO (pick v14 (.bool true) v17) fun v18 => jn (fun v19 l19 h19 => jn (fun v20 l20 h20 => jn (fun v21 l21 h21 => jn (fun v22 l22 h22 => jn (fun v23 l23 h23 => jn (fun v24 l24 h24 => jn (fun v25 l25 h25 => jn (fun v26 l26 h26 => jn (fun v27 l27 h27 => jn (fun v28 l28 h28 => jn (fun v29 l29 h29 => jn (fun v30 l30 h30 => bO (pick v18 (.bool true) v30) fun v31 => k (p9 t v31) l30 h30) fun j30 => brB (wv v18 false) (j30 (.tuple []) l29 h29) (bO (pick v27 v29 (.bool false)) fun v31 => j30 v31 l29 h29)) fun j29 => brB (wv v27 true) (j29 (.tuple []) l28 h28) (bO (G.un .not v28) fun v30 => j29 v30 l28 h28)) fun j28 => brB (wv v27 true) (j28 (.tuple []) l27 h27) (j28 (g3 t) l27 h27)) fun j27 => brB (wv v18 false) (j27 (.tuple []) l26 h26) (j27 v26 l26 h26)) fun j26 => brB (wv v18 false) (j26 (.tuple []) l25 h25) (bO (pick v22 (.bool true) v25) fun v27 => j26 v27 l25 h25)) fun j25 => brB (wv v22 false) (j25 (.tuple []) l24 h24) (bO (bin Pg .eql 3 true v24 (I 6)) fun v26 => j25 v26 l24 h24)) fun j24 => brB (wv v22 false) (j24 (.tuple []) l23 h23) (bO (ld Pg 3 v23 l23 h23) fun v25 => j24 v25 l23 h23)) fun j23 => brB (wv v22 false) (j23 (.tuple []) l22 h22) (bO (fa Pg 51 (g5 t) 0) fun v24 => j23 v24 l22 h22)) fun j22 => brB (wv v18 false) (j22 (.tuple []) l21 h21) (j22 v21 l21 h21)) fun j21 => brB (wv v18 false) (j21 (.tuple []) l20 h20) (bO (bin Pg .eql 3 true v20 (I 5)) fun v22 => j21 v22 l20 h20)) fun j20 => brB (wv v18 false) (j20 (.tuple []) l19 h19) (bO (ld Pg 3 v19 l19 h19) fun v21 => j20 v21 l19 h19)) fun j19 => brB (wv v18 false) (j19 (.tuple []) l17 h17) (bO (fa Pg 51 (g5 t) 0) fun v20 => j19 v20 l17 h17)) fun j17 => brB (wv v14 false) (j17 (.tuple []) l16 h16) (bO (bin Pg .eql 3 true v16 (I 27)) fun v18 => j17 v18 l16 h16)) fun j16 => brB (wv v14 false) (j16 (.tuple []) l15 h15) (bO (ld Pg 3 v15 l15 h15) fun v17 => j16 v17 l15 h15)) fun j15 => brB (wv v14 false) (j15 (.tuple []) l13 h13) (bO (fa Pg 51 (g5 t) 0) fun v16 => j15 v16 l13 h13)) fun j13 => brB (wv v10 false) (j13 (.tuple []) l12 h12) (bO (bin Pg .eql 3 true v12 (I 24)) fun v14 => j13 v14 l12 h12)) fun j12 => brB (wv v10 false) (j12 (.tuple []) l11 h11) (bO (ld Pg 3 v11 l11 h11) fun v13 => j12 v13 l11 h11)) fun j11 => brB (wv v10 false) (j11 (.tuple []) l9 h9) (bO (fa Pg 51 (g5 t) 0) fun v12 => j11 v12 l9 h9)) fun j9 => brB (wv v6 false) (j9 (.tuple []) l8 h8) (bO (bin Pg .eql 3 true v8 (I 28)) fun v10 => j9 v10 l8 h8)) fun j8 => brB (wv v6 false) (j8 (.tuple []) l7 h7) (bO (ld Pg 3 v7 l7 h7) fun v9 => j8 v9 l7 h7)) fun j7 => brB (wv v6 false) (j7 (.tuple []) l5 h5) (bO (fa Pg 51 (g5 t) 0) fun v8 => j7 v8 l5 h5)) fun j5 => brB (wv v2 false) (j5 (.tuple []) l4 h4) (bO (bin Pg .eql 3 true v4 (I 26)) fun v6 => j5 v6 l4 h4)) fun j4 => brB (wv v2 false) (j4 (.tuple []) l3 h3) (bO (ld Pg 3 v3 l3 h3) fun v5 => j4 v5 l3 h3)) fun j3 => brB (wv v2 false) (j3 (.tuple []) l h) (bO (fa Pg 51 (g5 t) 0) fun v4 => j3 v4 l h))
 (.seq (.seq (.reg fun c t l h k => bO (fa Pg 51 (g5 t) 0) fun v0 => bO (ld Pg 3 v0 l h) fun v1 => bO (bin Pg .eql 3 true v1 (I 21)) fun v2 => k (p53 t v2) l h)
 (.cond (.tmp 53) (.seq (.reg fun c t l h k => bO (fa Pg 51 (g5 t) 5) fun v0 => bO (ld Pg 3 v0 l h) fun v1 => cl c 41 [(g0 t), v1] t l h fun v2 l2 h2 => bO (ext v2 0) fun v3 => bO (ext v2 1) fun v4 => al Pg 53 10 l2 fun v5 l5 => jn (fun v6 l6 h6 => k (p10 t v5) l6 h6) fun j6 => sto 53 v5 v3 l5 h2 j6 (gn Tryz.f56 56 3 8 c (p59 (p10 t v5) v3) t l5 h2 j6))
 (.reg fun c t l h k => bO (fa Pg 53 (g10 t) 5) fun v0 => bO (ld Pg 3 v0 l h) fun v1 => bO (bin Pg .neq 3 true v1 (I 1)) fun v2 => jn (fun v3 l3 h3 => jn (fun v4 l4 h4 => jn (fun v5 l5 h5 => jn (fun v6 l6 h6 => bO (pick v2 (.bool true) v6) fun v7 => k (p9 t v7) l6 h6) fun j6 => brB (wv v2 false) (j6 (.tuple []) l5 h5) (bO (bin Pg .eql 3 false v4 v5) fun v7 => j6 v7 l5 h5)) fun j5 => brB (wv v2 false) (j5 (.tuple []) l4 h4) (j5 (g2 t) l4 h4)) fun j4 => brB (wv v2 false) (j4 (.tuple []) l3 h3) (bO (ld Pg 3 v3 l3 h3) fun v5 => j4 v5 l3 h3)) fun j3 => brB (wv v2 false) (j3 (.tuple []) l h) (bO (fa Pg 51 (g5 t) 5) fun v4 => j3 v4 l h))) .skip))
 (.seq (.seq (.reg fun c t l h k => k (p70 t (g9 t)) l h)
 (.cond (.tmp 70) (.seq (.reg fun c t l h k => bO (fa Pg 51 (g5 t) 6) fun v0 => bO (ld Pg 3 v0 l h) fun v1 => k (p8 t v1) l h)
 .ret) .skip))
 (.seq (.seq (.reg fun c t l h k => k (p12 t (I 0)) l h)
 (.block 0 (.loop (.seq (.seq (.reg fun c t l h k => bO (fa Pg 51 (g5 t) 4) fun v0 => bO (ld Pg 47 v0 l h) fun v1 => bO (len (Pg.underlying 47) v1) fun v2 => bO (bin Pg .lss 3 false (g12 t) v2) fun v3 => k (p77 t v3) l h)
 (.cond (.tmp 77) .skip (.exit 0)))
 (.seq (.block 1 (.seq (.reg fun c t l h k => bO (fa Pg 51 (g5 t) 4) fun v0 => bO (ld Pg 47 v0 l h) fun v1 => bO (ia Pg 47 v1 (g12 t)) fun v2 => bO (ld Pg 51 v2 l h) fun v3 => cl c 56 [(g0 t), v3, (g2 t), (g3 t)] t l h fun v4 l4 h4 => k (p13 t v4) l4 h4)
 (.seq (.reg fun c t l h k => bO (bin Pg .geq 3 true (g13 t) (I 0)) fun v0 => k (p90 t v0) l h)
 (.cond (.tmp 90) (.seq (.reg fun c t l h k => k (p8 t (g13 t)) l h)
 .ret) .skip))))
 (.reg fun c t l h k => bO (bin Pg .add 3 true (g12 t) (I 1)) fun v0 => k (p12 t v0) l h))))))
 (.seq (.reg fun c t l h k => k (p8 t (.int .i64 (.negSucc 0))) l h)
 .ret))))))

def kp57 : List Nat := [0, 1, 2, 4, 6, 7, 8, 9, 10, 12, 13, 14, 15, 20, 22, 23, 27, 29, 31, 42, 51, 80, 85, 104, 115, 131, 140, 151, 169, 185, 206, 231, 255, 271, 280, 289]
def rc57 : RC := (.seq (.reg fun c t l h k => gn Tryz.f57 57 0 0 c (p1 t (g1 t)) t l h (fun v0 l0 h0 => k (p6 (p4 t v0) (I 0)) l0 h0))
 (.seq (.seq (.reg fun c t l h k => bO (nilC (g0 t)) fun v0 => bO (fa Pg 89 v0 1) fun v1 => bO (ld Pg 3 v1 l h) fun v2 => bO (bin Pg .neq 3 true v2 (I 0)) fun v3 => k (p20 t v3) l h)
 (.cond (.tmp 20) (.seq (.reg fun c t l h k => k (p6 t (I 0)) l h)
 .ret) .skip))
 (.seq (.seq (.reg fun c t l h k => bO (fa Pg 51 (g4 t) 0) fun v0 => bO (ld Pg 3 v0 l h) fun v1 => k (p22 t v1) l h)
 (.block 0 (.seq (.seq (.reg fun c t l h k => bO (bin Pg .eql 3 true (g22 t) (I 1)) fun v0 => k (p23 t v0) l h)
 (.cond (.tmp 23) .skip (.seq (.reg fun c t l h k => bO (bin Pg .eql 3 true (g22 t) (I 5)) fun v0 => k (p23 t v0) l h)
 (.cond (.tmp 23) .skip (.reg fun c t l h k => bO (bin Pg .eql 3 true (g22 t) (I 6)) fun v0 => k (p23 t v0) l h)))))
 (.cond (.tmp 23) (.seq (.reg fun c t l h k => k (p6 t (I 1)) l h)
 .ret) (.seq (.reg fun c t l h k => bO (bin Pg .eql 3 true (g22 t) (I 2)) fun v0 => k (p27 t v0) l h)
 (.cond (.tmp 27) (.seq (.reg fun c t l h k => k (p6 t (I 2)) l h)
 .ret) (.seq (.reg fun c t l h k => bO (bin Pg .eql 3 true (g22 t) (I 3)) fun v0 => k (p29 t v0) l h)
 (.cond (.tmp 29) (.seq (.reg fun c t l h k => k (p6 t (I 3)) l h)
 .ret) (.seq (.reg fun c t l h k => bO (bin Pg .eql 3 true (g22 t) (I 4)) fun v0 => k (p31 t v0) l h)
 (.cond (.tmp 31) (.seq (.reg fun c t l h k => bO (len (Pg.underlying 80) (g2 t)) fun v0 => bO (bin Pg .sub 3 true v0 (I 1)) fun v1 => bO (fa Pg 51 (g4 t) 5) fun v2 => bO (ld Pg 3 v2 l h) fun v3 => bO (bin Pg .sub 3 false v1 v3) fun v4 => bO (ia Pg 80 (g2 t) v4) fun v5 => bO (ld Pg 3 v5 l h) fun v6 => k (p6 t v6) l h)
 .ret) (.seq (.seq (.reg fun c t l h k => bO (bin Pg .eql 3 true (g22 t) (I 7)) fun v0 => k (p42 t v0) l h)
 (.cond (.tmp 42) .skip (.seq (.reg fun c t l h k => bO (bin Pg .eql 3 true (g22 t) (I 10)) fun v0 => k (p42 t v0) l h)
 (.cond (.tmp 42) .skip (.seq (.reg fun c t l h k => bO (bin Pg .eql 3 true (g22 t) (I 11)) fun v0 => k (p42 t v0) l h)
 (.cond (.tmp 42) .skip (.reg fun c t l h k => bO (bin Pg .eql 3 true (g22 t) (I 9)) fun v0 => k (p42 t v0) l h)))))))
 (.cond (.tmp 42) (.seq (.seq (.reg fun c t l h k => k (p7 t (I 0)) l h)
 (.block 1 (.loop (.seq (.seq (.reg fun c t l h k => bO (fa Pg 51 (g4 t) 4) fun v0 => bO (ld Pg 47 v0 l h) fun v1 => bO (len (Pg.underlying 47) v1) fun v2 => bO (bin Pg .lss 3 false (g7 t) v2) fun v3 => k (p51 t v3) l h)
 (.cond (.tmp 51) .skip (.exit 1)))
 (.seq (.block 2 (.reg fun c t l h k => bO (fa Pg 51 (g4 t) 4) fun v0 => bO (ld Pg 47 v0 l h) fun v1 => bO (ia Pg 47 v1 (g7 t)) fun v2 => bO (ld Pg 51 v2 l h) fun v3 => cl c 32 [(g0 t), v3, (g2 t), (I 1)] t l h fun v4 l4 h4 => k t l4 h4))
 (.reg fun c t l h k => bO (bin Pg .add 3 true (g7 t) (I 1)) fun v0 => k (p7 t v0) l h))))))
 (.seq (.seq (.reg fun c t l h k => bO (fa Pg 51 (g4 t) 0) fun v0 => bO (ld Pg 3 v0 l h) fun v1 => bO (bin Pg .eql 3 true v1 (I 9)) fun v2 => jn (fun v3 l3 h3 => jn (fun v4 l4 h4 => jn (fun v5 l5 h5 => jn (fun v6 l6 h6 => jn (fun v7 l7 h7 => jn (fun v8 l8 h8 => bO (pick v2 v8 (.bool false)) fun v9 => jn (fun v10 l10 h10 => jn (fun v11 l11 h11 => jn (fun v12 l12 h12 => jn (fun v13 l13 h13 => jn (fun v14 l14 h14 => jn (fun v15 l15 h15 => bO (pick v9 v15 (.bool false)) fun v16 => k (p80 t v16) l15 h15) fun j15 => brB (wv v9 true) (j15 (.tuple []) l14 h14) (bO (G.un .not v14) fun v16 => j15 v16 l14 h14)) fun j14 => brB (wv v9 true) (j14 (.tuple []) l13 h13) (cl c 80 [v13] t l13 h13 fun v15 l15 h15 => j14 v15 l15 h15)) fun j13 => brB (wv v9 true) (j13 (.tuple []) l12 h12) (bO (ld Pg 51 v12 l12 h12) fun v14 => j13 v14 l12 h12)) fun j12 => brB (wv v9 true) (j12 (.tuple []) l11 h11) (bO (ia Pg 47 v11 (I 1)) fun v13 => j12 v13 l11 h11)) fun j11 => brB (wv v9 true) (j11 (.tuple []) l10 h10) (bO (ld Pg 47 v10 l10 h10) fun v12 => j11 v12 l10 h10)) fun j10 => brB (wv v9 true) (j10 (.tuple []) l8 h8) (bO (fa Pg 51 (g4 t) 4) fun v11 => j10 v11 l8 h8)) fun j8 => brB (wv v2 true) (j8 (.tuple []) l7 h7) (bO (G.un .not v7) fun v9 => j8 v9 l7 h7)) fun j7 => brB (wv v2 true) (j7 (.tuple []) l6 h6) (cl c 80 [v6] t l6 h6 fun v8 l8 h8 => j7 v8 l8 h8)) fun j6 => brB (wv v2 true) (j6 (.tuple []) l5 h5) (bO (ld Pg 51 v5 l5 h5) fun v7 => j6 v7 l5 h5)) fun j5 => brB (wv v2 true) (j5 (.tuple []) l4 h4) (bO (ia Pg 47 v4 (I 0)) fun v6 => j5 v6 l4 h4)) fun j4 => brB (wv v2 true) (j4 (.tuple []) l3 h3) (bO (ld Pg 47 v3 l3 h3) fun v5 => j4 v5 l3 h3)) fun j3 => brB (wv v2 true) (j3 (.tuple []) l h) (bO (fa Pg 51 (g4 t) 4) fun v4 => j3 v4 l h))
 (.cond (.tmp 80) (.reg fun c t l h k => bO (fa Pg 51 (g4 t) 6) fun v0 => bO (ld Pg 3 v0 l h) fun v1 => cl c 30 [(g0 t), v1, (I 185)] t l h fun v2 l2 h2 => k t l2 h2) .skip))
 (.seq (.reg fun c t l h k => k (p6 t (I 1)) l h)
 .ret))) (.seq (.seq (.reg fun c t l h k => bO (bin Pg .eql 3 true (g22 t) (I 14)) fun v0 => k (p85 t v0) l h)
 (.cond (.tmp 85) .skip (.seq (.reg fun c t l h k => bO (bin Pg .eql 3 true (g22 t) (I 15)) fun v0 => k (p85 t v0) l h)
 (.cond (.tmp 85) .skip (.seq (.reg fun c t l h k => bO (bin Pg .eql 3 true (g22 t) (I 16)) fun v0 => k (p85 t v0) l h)
 (.cond (.tmp 85) .skip (.reg fun c t l h k => bO (bin Pg .eql 3 true (g22 t) (I 17)) fun v0 => k (p85 t v0) l h)))))))
 (.cond (.tmp 85) (.seq (.reg fun c t l h k => bO (fa Pg 51 (g4 t) 4) fun v0 => bO (ld Pg 47 v0 l h) fun v1 => bO (ia Pg 47 v1 (I 0)) fun v2 => bO (ld Pg 51 v2 l h) fun v3 => cl c 32 [(g0 t), v3, (g2 t), (I 1)] t l h fun v4 l4 h4 => k t l4 h4)
 (.seq (.reg fun c t l h k => bO (fa Pg 51 (g4 t) 4) fun v0 => bO (ld Pg 47 v0 l h) fun v1 => bO (ia Pg 47 v1 (I 1)) fun v2 => bO (ld Pg 51 v2 l h) fun v3 => cl c 32 [(g0 t), v3, (g2 t), (I 1)] t l h fun v4 l4 h4 => k t l4 h4)
 (.seq (.reg fun c t l h k => k (p6 t (I 2)) l h)
 .ret))) (.seq (.seq (.reg fun c t l h k => bO (bin Pg .eql 3 true (g22 t) (I 12)) fun v0 => k (p104 t v0) l h)
 (.cond (.tmp 104) .skip (.reg fun c t l h k => bO (bin Pg .eql 3 true (g22 t) (I 13)) fun v0 => k (p104 t v0) l h)))
 (.cond (.tmp 104) (.seq (.reg fun c t l h k => bO (fa Pg 51 (g4 t) 4) fun v0 => bO (ld Pg 47 v0 l h) fun v1 => bO (ia Pg 47 v1 (I 0)) fun v2 => bO (ld Pg 51 v2 l h) fun v3 => cl c 57 [(g0 t), v3, (g2 t)] t l h fun v4 l4 h4 => k (p8 t v4) l4 h4)
 (.seq (.seq (.reg fun c t l h k => bO (bin Pg .eql 3 true (g8 t) (I 3)) fun v0 => k (p115 t v0) l h)
 (.cond (.tmp 115) (.reg fun c t l h k => bO (fa Pg 51 (g4 t) 4) fun v0 => bO (ld Pg 47 v0 l h) fun v1 => bO (ia Pg 47 v1 (I 0)) fun v2 => bO (fa Pg 51 v2 6) fun v3 => bO (ld Pg 3 v3 l h) fun v4 => cl c 30 [(g0 t), v4, (I 180)] t l h fun v5 l5 h5 => k t l5 h5) .skip))
 (.seq (.reg fun c t l h k => bO (fa Pg 51 (g4 t) 4) fun v0 => bO (ld Pg 47 v0 l h) fun v1 => bO (ia Pg 47 v1 (I 1)) fun v2 => bO (ld Pg 51 v2 l h) fun v3 => cl c 32 [(g0 t), v3, (g2 t), (g8 t)] t l h fun v4 l4 h4 => k t l4 h4)
 (.seq (.reg fun c t l h k => k (p6 t (I 2)) l h)
 .ret)))) (.seq (.seq (.reg fun c t l h k => bO (bin Pg .eql 3 true (g22 t) (I 8)) fun v0 => k (p131 t v0) l h)
 (.cond (.tmp 131) .skip (.seq (.reg fun c t l h k => bO (bin Pg .eql 3 true (g22 t) (I 18)) fun v0 => k (p131 t v0) l h)
 (.cond (.tmp 131) .skip (.seq (.reg fun c t l h k => bO (bin Pg .eql 3 true (g22 t) (I 19)) fun v0 => k (p131 t v0) l h)
 (.cond (.tmp 131) .skip (.reg fun c t l h k => bO (bin Pg .eql 3 true (g22 t) (I 20)) fun v0 => k (p131 t v0) l h)))))))
 (.cond (.tmp 131) (.seq (.seq (.reg fun c t l h k => k (p9 t (I 0)) l h)
 (.block 3 (.loop (.seq (.seq (.reg fun c t l h k => bO (fa Pg 51 (g4 t) 4) fun v0 => bO (ld Pg 47 v0 l h) fun v1 => bO (len (Pg.underlying 47) v1) fun v2 => bO (bin Pg .lss 3 false (g9 t) v2) fun v3 => k (p140 t v3) l h)
 (.cond (.tmp 140) .skip (.exit 3)))
 (.seq (.block 4 (.reg fun c t l h k => bO (fa Pg 51 (g4 t) 4) fun v0 => bO (ld Pg 47 v0 l h) fun v1 => bO (ia Pg 47 v1 (g9 t)) fun v2 => bO (ld Pg 51 v2 l h) fun v3 => cl c 32 [(g0 t), v3, (g2 t), (I 2)] t l h fun v4 l4 h4 => k t l4 h4))
 (.reg fun c t l h k => bO (bin Pg .add 3 true (g9 t) (I 1)) fun v0 => k (p9 t v0) l h))))))
 (.seq (.reg fun c t l h k => k (p6 t (I 2)) l h)
 .ret)) (.seq (.reg fun c t l h k => bO (bin Pg .eql 3 true (g22 t) (I 21)) fun v0 => k (p151 t v0) l h)
 (.cond (.tmp 151) (.seq (.reg fun c t l h k => bO (nilC (g0 t)) fun v0 => bO (fa Pg 89 v0 0) fun v1 => bO (ld Pg 25 v1 l h) fun v2 => bO (fa Pg 51 (g4 t) 5) fun v3 => bO (ld Pg 3 v3 l h) fun v4 => jE ((159, v4) :: (158, v3) :: (157, v2) :: (156, v1) :: (155, v0) :: (154, (g0 t)) :: []) fun e5 => jF ((ldF v3) :: ft0 :: (ldF v1) :: ft0 :: ft0 :: ft0 :: []) fun q5 => clD c 41 [v2, v4] l h (fun v5 f5 l5 h5 => bO (ext v5 0) fun v6 => bO (ext v5 1) fun v7 => jE ((162, v7) :: (161, v6) :: (153, v5) :: (160, v5) :: e5) fun e8 => jF (ft0 :: ft0 :: ft0 :: f5 :: q5) fun q8 => gD Tryz.f57 57 49 10 c t l5 h5 (fun v8 f8 l8 h8 => jE ((10, v8) :: e8) fun e9 => jF (f8 :: q8) fun q9 => gD Tryz.f57 57 49 11 c (p161 (p10 t v8) v6) l8 h8 (fun v9 f9 l9 h9 => finD (rgA Tryz.f57 49).toList [(3, 10), (5, 10)] [(3, 10), (5, 10), (6, 10)] (ft0 :: f9 :: q9) (k (p10 t v8) l9 h9)) (sD Tryz.f57 57 49 c 11 none e9 q9 t l8 h8)) (sD Tryz.f57 57 49 c 10 (some 10) e8 q8 t l5 h5)) (sD Tryz.f57 57 49 c 6 (some 160) e5 q5 t l h))
 (.seq (.seq (.reg fun c t l h k => bO (fa Pg 51 (g4 t) 4) fun v0 => bO (ld Pg 47 v0 l h) fun v1 => bO (len (Pg.underlying 47) v1) fun v2 => bO (fa Pg 53 (g10 t) 4) fun v3 => bO (ld Pg 46 v3 l h) fun v4 => bO (len (Pg.underlying 46) v4) fun v5 => bO (bin Pg .neq 3 false v2 v5) fun v6 => k (p169 t v6) l h)
 (.cond (.tmp 169) (.reg fun c t l h k => bO (fa Pg 51 (g4 t) 6) fun v0 => bO (ld Pg 3 v0 l h) fun v1 => cl c 30 [(g0 t), v1, (I 182)] t l h fun v2 l2 h2 => k t l2 h2) .skip))
 (.seq (.seq (.reg fun c t l h k => k (p12 t (I 0)) l h)
 (.block 5 (.loop (.seq (.seq (.reg fun c t l h k => bO (fa Pg 51 (g4 t) 4) fun v0 => bO (ld Pg 47 v0 l h) fun v1 => bO (len (Pg.underlying 47) v1) fun v2 => bO (bin Pg .lss 3 false (g12 t) v2) fun v3 => jn (fun v4 l4 h4 => jn (fun v5 l5 h5 => jn (fun v6 l6 h6 => jn (fun v7 l7 h7 => jn (fun v8 l8 h8 => bO (pick v3 v8 (.bool false)) fun v9 => k (p185 t v9) l8 h8) fun j8 => brB (wv v3 true) (j8 (.tuple []) l7 h7) (bO (bin Pg .eql 3 true v7 (I 0)) fun v9 => j8 v9 l7 h7)) fun j7 => brB (wv v3 true) (j7 (.tuple []) l6 h6) (bO (ld Pg 3 v6 l6 h6) fun v8 => j7 v8 l6 h6)) fun j6 => brB (wv v3 true) (j6 (.tuple []) l5 h5) (bO (fa Pg 89 v5 1) fun v7 => j6 v7 l5 h5)) fun j5 => brB (wv v3 true) (j5 (.tuple []) l4 h4) (bO (nilC v4) fun v6 => j5 v6 l4 h4)) fun j4 => brB (wv v3 true) (j4 (.tuple []) l h) (j4 (g0 t) l h))
 (.cond (.tmp 185) .skip (.exit 5)))
 (.seq (.block 6 (.reg fun c t l h k => bO (fa Pg 51 (g4 t) 4) fun v0 => bO (ld Pg 47 v0 l h) fun v1 => bO (ia Pg 47 v1 (g12 t)) fun v2 => bO (ld Pg 51 v2 l h) fun v3 => bO (fa Pg 53 (g10 t) 4) fun v4 => bO (ld Pg 46 v4 l h) fun v5 => bO (ia Pg 46 v5 (g12 t)) fun v6 => bO (fa Pg 92 v6 1) fun v7 => bO (fa Pg 49 v7 0) fun v8 => bO (ld Pg 3 v8 l h) fun v9 => jE ((201, v9) :: (200, v8) :: (199, v7) :: (198, v6) :: (197, (g12 t)) :: (196, v5) :: (195, v4) :: (194, (g2 t)) :: (193, v3) :: (192, v2) :: (191, (g12 t)) :: (190, v1) :: (189, v0) :: (188, (g0 t)) :: []) fun e10 => jF ((ldF v8) :: ft0 :: ft0 :: ft0 :: ft0 :: (ldF v4) :: ft0 :: ft0 :: (ldF v2) :: ft0 :: ft0 :: (ldF v0) :: ft0 :: ft0 :: []) fun q10 => clD c 32 [(g0 t), v3, (g2 t), v9] l h (fun v10 f10 l10 h10 => finD (rgA Tryz.f57 55).toList [] [] (f10 :: q10) (k t l10 h10)) (sD Tryz.f57 57 55 c 14 (some 202) e10 q10 t l h)))
 (.reg fun c t l h k => bO (bin Pg .add 3 true (g12 t) (I 1)) fun v0 => k (p12 t v0) l h))))))
 (.seq (.reg fun c t l h k => bO (fa Pg 53 (g10 t) 6) fun v0 => bO (fa Pg 49 v0 0) fun v1 => bO (ld Pg 3 v1 l h) fun v2 => k (p6 t v2) l h)
 .ret)))) (.seq (.reg fun c t l h k => bO (bin Pg .eql 3 true (g22 t) (I 22)) fun v0 => k (p206 t v0) l h)
 (.cond (.tmp 206) (.seq (.reg fun c t l h k => bO (fa Pg 51 (g4 t) 4) fun v0 => bO (ld Pg 47 v0 l h) fun v1 => bO (ia Pg 47 v1 (I 0)) fun v2 => bO (ld Pg 51 v2 l h) fun v3 => cl c 32 [(g0 t), v3, (g2 t), (I 2)] t l h fun v4 l4 h4 => k t l4 h4)
 (.seq (.reg fun c t l h k => bO (fa Pg 51 (g4 t) 4) fun v0 => bO (ld Pg 47 v0 l h) fun v1 => bO (ia Pg 47 v1 (I 1)) fun v2 => bO (ld Pg 51 v2 l h) fun v3 => cl c 57 [(g0 t), v3, (g2 t)] t l h fun v4 l4 h4 => k (p13 t v4) l4 h4)
 (.seq (.reg fun c t l h k => bO (fa Pg 51 (g4 t) 4) fun v0 => bO (ld Pg 47 v0 l h) fun v1 => bO (ia Pg 47 v1 (I 2)) fun v2 => bO (ld Pg 51 v2 l h) fun v3 => cl c 32 [(g0 t), v3, (g2 t), (g13 t)] t l h fun v4 l4 h4 => k t l4 h4)
 (.seq (.reg fun c t l h k => k (p6 t (g13 t)) l h)
 .ret)))) (.seq (.reg fun c t l h k => bO (bin Pg .eql 3 true (g22 t) (I 23)) fun v0 => k (p231 t v0) l h)
 (.cond (.tmp 231) (.seq (.reg fun c t l h k => bO (fa Pg 51 (g4 t) 4) fun v0 => bO (ld Pg 47 v0 l h) fun v1 => bO (ia Pg 47 v1 (I 0)) fun v2 => bO (ld Pg 51 v2 l h) fun v3 => cl c 57 [(g0 t), v3, (g2 t)] t l h fun v4 l4 h4 => k (p14 t v4) l4 h4)
 (.seq (.reg fun c t l h k => bO (fa Pg 51 (g4 t) 4) fun v0 => bO (ld Pg 47 v0 l h) fun v1 => bO (ia Pg 47 v1 (I 1)) fun v2 => bO (ld Pg 51 v2 l h) fun v3 => bO (len (Pg.underlying 80) (g2 t)) fun v4 => bO (len (Pg.underlying 80) (g2 t)) fun v5 => bO (slc Pg 80 (g2 t) none (some v4) (some v5)) fun v6 => jE ((251, (g14 t)) :: (250, v6) :: (249, v5) :: (248, (g2 t)) :: (247, v4) :: (246, (g2 t)) :: (245, (g2 t)) :: (244, v3) :: (243, v2) :: (242, v1) :: (241, v0) :: (240, (g0 t)) :: []) fun e7 => jF (ft0 :: ft0 :: ft0 :: ft0 :: ft0 :: ft0 :: ft0 :: (ldF v2) :: ft0 :: (ldF v0) :: ft0 :: ft0 :: []) fun q7 => gD Tryz.f57 57 64 12 c (p251 t (g14 t)) l h (fun v7 f7 l7 h7 => jE ((252, v7) :: e7) fun e8 => jF (f7 :: q7) fun q8 => gD Tryz.f57 57 64 13 c (p252 (p250 t v6) v7) l7 h7 (fun v8 f8 l8 h8 => jE ((253, v8) :: e8) fun e9 => jF (f8 :: q8) fun q9 => clD c 57 [(g0 t), v3, v8] l8 h8 (fun v9 f9 l9 h9 => finD (rgA Tryz.f57 64).toList [(2, 13), (4, 13)] [(2, 13), (4, 13)] (ft0 :: f9 :: q9) (k (p6 t v9) l9 h9)) (sD Tryz.f57 57 64 c 14 (some 254) e9 q9 t l8 h8)) (sD Tryz.f57 57 64 c 13 (some 253) e8 q8 t l7 h7)) (sD Tryz.f57 57 64 c 12 (some 252) e7 q7 t l h))
 .ret)) (.seq (.reg fun c t l h k => bO (bin Pg .eql 3 true (g22 t) (I 24)) fun v0 => k (p255 t v0) l h)
 (.cond (.tmp 255) (.seq (.reg fun c t l h k => bO (fa Pg 51 (g4 t) 4) fun v0 => bO (ld Pg 47 v0 l h) fun v1 => bO (ia Pg 47 v1 (I 0)) fun v2 => bO (ld Pg 51 v2 l h) fun v3 => cl c 57 [(g0 t), v3, (g2 t)] t l h fun v4 l4 h4 => k t l4 h4)
 (.seq (.reg fun c t l h k => bO (fa Pg 51 (g4 t) 4) fun v0 => bO (ld Pg 47 v0 l h) fun v1 => bO (ia Pg 47 v1 (I 1)) fun v2 => bO (ld Pg 51 v2 l h) fun v3 => cl c 57 [(g0 t), v3, (g2 t)] t l h fun v4 l4 h4 => k (p6 t v4) l4 h4)
 .ret)) (.seq (.reg fun c t l h k => bO (bin Pg .eql 3 true (g22 t) (I 25)) fun v0 => k (p271 t v0) l h)
 (.cond (.tmp 271) (.seq (.reg fun c t l h k => bO (fa Pg 51 (g4 t) 4) fun v0 => bO (ld Pg 47 v0 l h) fun v1 => bO (ia Pg 47 v1 (I 0)) fun v2 => bO (ld Pg 51 v2 l h) fun v3 => cl c 32 [(g0 t), v3, (g2 t), (I 1)] t l h fun v4 l4 h4 => k t l4 h4)
 (.seq (.reg fun c t l h k => k (p6 t (I 3)) l h)
 .ret)) (.seq (.reg fun c t l h k => bO (bin Pg .eql 3 true (g22 t) (I 26)) fun v0 => k (p280 t v0) l h)
 (.cond (.tmp 280) (.seq (.reg fun c t l h k => bO (fa Pg 51 (g4 t) 4) fun v0 => bO (ld Pg 47 v0 l h) fun v1 => bO (ia Pg 47 v1 (I 0)) fun v2 => bO (ld Pg 51 v2 l h) fun v3 => cl c 32 [(g0 t), v3, (g2 t), (I 1)] t l h fun v4 l4 h4 => k t l4 h4)
 (.seq (.reg fun c t l h k => k (p6 t (I 1)) l h)
 .ret)) (.seq (.reg fun c t l h k => bO (bin Pg .eql 3 true (g22 t) (I 28)) fun v0 => k (p289 t v0) l h)
 (.cond (.tmp 289) (.seq (.reg fun c t l h k => bO (fa Pg 51 (g4 t) 4) fun v0 => bO (ld Pg 47 v0 l h) fun v1 => bO (ia Pg 47 v1 (I 0)) fun v2 => bO (ld Pg 51 v2 l h) fun v3 => cl c 32 [(g0 t), v3, (g2 t), (I 2)] t l h fun v4 l4 h4 => k t l4 h4)
 (.seq (.reg fun c t l h k => k (p6 t (I 3)) l h)
 .ret)) .skip))))))))))))))))))))))))))))))))
 (.seq (.reg fun c t l h k => bO (fa Pg 51 (g4 t) 4) fun v0 => bO (ld Pg 47 v0 l h) fun v1 => bO (ia Pg 47 v1 (I 0)) fun v2 => bO (ld Pg 51 v2 l h) fun v3 => cl c 57 [(g0 t), v3, (g2 t)] t l h fun v4 l4 h4 => k (p15 t v4) l4 h4)
 (.seq (.reg fun c t l h k => bO (fa Pg 51 (g4 t) 4) fun v0 => bO (ld Pg 47 v0 l h) fun v1 => bO (ia Pg 47 v1 (I 1)) fun v2 => bO (ld Pg 51 v2 l h) fun v3 => bO (len (Pg.underlying 80) (g2 t)) fun v4 => bO (len (Pg.underlying 80) (g2 t)) fun v5 => bO (slc Pg 80 (g2 t) none (some v4) (some v5)) fun v6 => jE ((315, v6) :: (314, v5) :: (313, (g2 t)) :: (312, v4) :: (311, (g2 t)) :: (310, (g2 t)) :: (309, v3) :: (308, v2) :: (307, v1) :: (306, v0) :: (305, (g0 t)) :: []) fun e7 => jF (ft0 :: ft0 :: ft0 :: ft0 :: ft0 :: ft0 :: (ldF v2) :: ft0 :: (ldF v0) :: ft0 :: ft0 :: []) fun q7 => gD Tryz.f57 57 78 11 c t l h (fun v7 f7 l7 h7 => jE ((316, v7) :: e7) fun e8 => jF (f7 :: q7) fun q8 => gD Tryz.f57 57 78 12 c (p316 (p315 t v6) v7) l7 h7 (fun v8 f8 l8 h8 => jE ((318, (g15 t)) :: (317, v8) :: e8) fun e9 => jF (ft0 :: f8 :: q8) fun q9 => clD c 32 [(g0 t), v3, v8, (g15 t)] l8 h8 (fun v9 f9 l9 h9 => finD (rgA Tryz.f57 78).toList [(2, 12), (4, 12)] [(2, 12), (4, 12)] (f9 :: q9) (k t l9 h9)) (sD Tryz.f57 57 78 c 14 (some 319) e9 q9 t l8 h8)) (sD Tryz.f57 57 78 c 12 (some 317) e8 q8 t l7 h7)) (sD Tryz.f57 57 78 c 11 (some 316) e7 q7 t l h))
 (.seq (.reg fun c t l h k => k (p6 t (g15 t)) l h)
 .ret))))))

def kp58 : List Nat := [0, 2]
def rc58 : RC := (.seq (.reg fun c t l h k => k (p2 t (.str ⟨0, 0⟩)) l h)
 (.seq (.reg fun c t l h k => cl c 81 [(g0 t)] t l h fun v0 l0 h0 => k (p2 t v0) l0 h0)
 .ret))

def kp59 : List Nat := [0, 1, 4]
def rc59 : RC := (.seq (.reg fun c t l h k => al Pg 67 4 l fun v0 l0 => k (p4 t v0) l0 h)
 (.seq (.reg fun c t l h k => gn Tryz.f59 59 1 1 c (p5 t (g0 t)) t l h (fun v0 l0 h0 => cl c 82 [v0, (g1 t)] t l0 h0 fun v1 l1 h1 => jn (fun v2 l2 h2 => k t l2 h2) fun j2 => sto 67 (g4 t) v1 l1 h1 j2 (gn Tryz.f59 59 1 4 c (p8 (p4 t (g4 t)) v1) t l1 h1 j2)))
 .ret))

def kp60 : List Nat := [0, 1, 4]
def rc60 : RC := (.seq (.reg fun c t l h k => al Pg 67 4 l fun v0 l0 => k (p4 t v0) l0 h)
 (.seq (.reg fun c t l h k => gn Tryz.f60 60 1 1 c (p5 t (g0 t)) t l h (fun v0 l0 h0 => cl c 82 [v0, (g1 t)] t l0 h0 fun v1 l1 h1 => jn (fun v2 l2 h2 => k t l2 h2) fun j2 => sto 67 (g4 t) v1 l1 h1 j2 (gn Tryz.f60 60 1 4 c (p8 (p4 t (g4 t)) v1) t l1 h1 j2)))
 .ret))

def kp61 : List Nat := [0, 2, 3, 5, 6, 7, 8, 9, 13]
def rc61 : RC := (.seq (.reg fun c t l h k => k (p2 t .nils) l h)
 (.seq (.reg fun c t l h k => k (p3 t .nils) l h)
 (.seq (.seq (.reg fun c t l h k => bO (len (Pg.underlying 25) (g0 t)) fun v0 => k (p8 (p7 (p6 t (g0 t)) v0) (I 0)) l h)
 (.block 0 (.loop (.seq (.reg fun c t l h k => bO (bin Pg .lss 3 false (g8 t) (g7 t)) fun v0 => k (p9 t v0) l h)
 (.seq (.cond (.tmp 9) .skip (.exit 0))
 (.seq (.block 1 (.seq (.reg fun c t l h k => bO (ia Pg 25 (g6 t) (g8 t)) fun v0 => bO (ld Pg 53 v0 l h) fun v1 => al Pg 53 5 l fun v2 l2 => jn (fun v3 l3 h3 => k (p5 t v2) l3 h3) fun j3 => sto 53 v2 v1 l2 h j3 (gn Tryz.f61 61 4 3 c (p11 (p5 t v2) v1) t l2 h j3))
 (.seq (.reg fun c t l h k => bO (fa Pg 53 (g5 t) 0) fun v0 => bO (ld Pg 4 v0 l h) fun v1 => k (p13 t v1) l h)
 (.cond (.tmp 13) (.reg fun c t l h k => bO (fa Pg 53 (g5 t) 1) fun v0 => bO (ld Pg 9 v0 l h) fun v1 => bO (bs Pg 24 1 [(0, v1)]) fun v2 => gn Tryz.f61 61 6 4 c (p17 (p14 t (g3 t)) v2) t l h (fun v3 l3 h3 => k (p3 t v3) l3 h3)) .skip))))
 (.reg fun c t l h k => bO (bin Pg .add 3 true (g8 t) (I 1)) fun v0 => k (p8 t v0) l h)))))))
 (.seq (.reg fun c t l h k => k (p2 t (g3 t)) l h)
 .ret))))

def kp62 : List Nat := [0, 1, 2, 3, 4, 5, 6, 7, 8, 10, 11, 12, 13, 14, 18, 19, 34, 46, 58, 70, 82, 94, 106, 116]
def rc62 : RC := (.seq (.reg fun c t l h k => gn Tryz.f62 62 0 0 c (p0 t (g0 t)) t l h (fun v0 l0 h0 => gn Tryz.f62 62 0 1 c (p1 t (g1 t)) t l0 h0 (fun v1 l1 h1 => gn Tryz.f62 62 0 2 c (p2 t (g2 t)) t l1 h1 (fun v2 l2 h2 => gn Tryz.f62 62 0 3 c (p4 t (g4 t)) t l2 h2 (fun v3 l3 h3 => gn Tryz.f62 62 0 4 c (p5 t (g5 t)) t l3 h3 (fun v4 l4 h4 => al Pg 67 12 l4 fun v5 l5 => k (p12 (p11 (p10 (p8 (p7 (p6 t v0) v1) v2) v3) v4) v5) l5 h4))))))
 (.seq (.reg fun c t l h k => gn Tryz.f62 62 1 0 c (p8 t (g8 t)) t l h (fun v0 l0 h0 => gn Tryz.f62 62 1 1 c t t l0 h0 (fun v1 l1 h1 => jn (fun v2 l2 h2 => k (p13 t v1) l2 h2) fun j2 => sto 160 v1 v0 l1 h1 j2 (gn Tryz.f62 62 1 2 c (p15 (p13 t v1) v0) t l1 h1 j2))))
 (.seq (.reg fun c t l h k => cl c 59 [(I 3), .nils] t l h fun v0 l0 h0 => gn Tryz.f62 62 2 1 c t t l0 h0 (fun v1 l1 h1 => jn (fun v2 l2 h2 => k (p14 t v1) l2 h2) fun j2 => sto 67 v1 v0 l1 h1 j2 (gn Tryz.f62 62 2 2 c (p16 (p14 t v1) v0) t l1 h1 j2)))
 (.seq (.seq (.reg fun c t l h k => bO (fa Pg 51 (g7 t) 0) fun v0 => bO (ld Pg 3 v0 l h) fun v1 => k (p18 t v1) l h)
 (.block 0 (.seq (.seq (.reg fun c t l h k => bO (bin Pg .eql 3 true (g18 t) (I 18)) fun v0 => k (p19 t v0) l h)
 (.cond (.tmp 19) .skip (.seq (.reg fun c t l h k => bO (bin Pg .eql 3 true (g18 t) (I 19)) fun v0 => k (p19 t v0) l h)
 (.cond (.tmp 19) .skip (.seq (.reg fun c t l h k => bO (bin Pg .eql 3 true (g18 t) (I 20)) fun v0 => k (p19 t v0) l h)
 (.cond (.tmp 19) .skip (.reg fun c t l h k => bO (bin Pg .eql 3 true (g18 t) (I 22)) fun v0 => k (p19 t v0) l h)))))))
 (.cond (.tmp 19) (.seq (.reg fun c t l h k => bO (ld Pg 59 (g6 t) l h) fun v0 => bO (fa Pg 51 (g7 t) 4) fun v1 => bO (ld Pg 47 v1 l h) fun v2 => bO (ia Pg 47 v2 (I 0)) fun v3 => bO (ld Pg 51 v3 l h) fun v4 => bO (ld Pg 60 (g8 t) l h) fun v5 => jE ((30, (g3 t)) :: (29, v5) :: (28, v4) :: (27, v3) :: (26, v2) :: (25, v1) :: (24, v0) :: []) fun e6 => jF (ft0 :: (ldF (g8 t)) :: (ldF v3) :: ft0 :: (ldF v1) :: ft0 :: (ldF (g6 t)) :: []) fun q6 => gD Tryz.f62 62 8 7 c (p14 (p11 (p10 (p8 (p6 (p7 t (g7 t)) (g6 t)) (g8 t)) (g10 t)) (g11 t)) (g14 t)) l h (fun v6 f6 l6 h6 => bO (ld Pg 158 (g11 t) l6 h6) fun v7 => jE ((32, v7) :: (31, v6) :: e6) fun e8 => jF ((ldF (g11 t)) :: f6 :: q6) fun q8 => clD c 62 [v0, v4, v5, (g3 t), v6, v7] l6 h6 (fun v8 f8 l8 h8 => jE ((33, v8) :: e8) fun e9 => jF (f8 :: q8) fun q9 => gD Tryz.f62 62 8 10 c (p33 (p12 t (g12 t)) v8) l8 h8 (fun v9 f9 l9 h9 => finD (rgA Tryz.f62 8).toList [] [] (f9 :: q9) (k t l9 h9)) (sD Tryz.f62 62 8 c 10 none e9 q9 t l8 h8)) (sD Tryz.f62 62 8 c 9 (some 33) e8 q8 t l6 h6)) (sD Tryz.f62 62 8 c 7 (some 31) e6 q6 t l h))
 .ret) (.seq (.reg fun c t l h k => bO (bin Pg .eql 3 true (g18 t) (I 23)) fun v0 => k (p34 t v0) l h)
 (.cond (.tmp 34) (.seq (.reg fun c t l h k => bO (ld Pg 59 (g6 t) l h) fun v0 => bO (fa Pg 51 (g7 t) 4) fun v1 => bO (ld Pg 47 v1 l h) fun v2 => bO (ia Pg 47 v2 (I 0)) fun v3 => bO (ld Pg 51 v3 l h) fun v4 => bO (ld Pg 60 (g8 t) l h) fun v5 => jE ((42, (g3 t)) :: (41, v5) :: (40, v4) :: (39, v3) :: (38, v2) :: (37, v1) :: (36, v0) :: []) fun e6 => jF (ft0 :: (ldF (g8 t)) :: (ldF v3) :: ft0 :: (ldF v1) :: ft0 :: (ldF (g6 t)) :: []) fun q6 => gD Tryz.f62 62 10 7 c (p11 (p10 (p13 (p7 (p6 t (g6 t)) (g7 t)) (g13 t)) (g10 t)) (g11 t)) l h (fun v6 f6 l6 h6 => bO (ld Pg 158 (g11 t) l6 h6) fun v7 => jE ((44, v7) :: (43, v6) :: e6) fun e8 => jF ((ldF (g11 t)) :: f6 :: q6) fun q8 => clD c 62 [v0, v4, v5, (g3 t), v6, v7] l6 h6 (fun v8 f8 l8 h8 => jE ((45, v8) :: e8) fun e9 => jF (f8 :: q8) fun q9 => gD Tryz.f62 62 10 10 c (p45 (p12 t (g12 t)) v8) l8 h8 (fun v9 f9 l9 h9 => finD (rgA Tryz.f62 10).toList [] [] (f9 :: q9) (k t l9 h9)) (sD Tryz.f62 62 10 c 10 none e9 q9 t l8 h8)) (sD Tryz.f62 62 10 c 9 (some 45) e8 q8 t l6 h6)) (sD Tryz.f62 62 10 c 7 (some 43) e6 q6 t l h))
 .ret) (.seq (.reg fun c t l h k => bO (bin Pg .eql 3 true (g18 t) (I 24)) fun v0 => k (p46 t v0) l h)
 (.cond (.tmp 46) (.seq (.reg fun c t l h k => bO (ld Pg 59 (g6 t) l h) fun v0 => bO (fa Pg 51 (g7 t) 4) fun v1 => bO (ld Pg 47 v1 l h) fun v2 => bO (ia Pg 47 v2 (I 0)) fun v3 => bO (ld Pg 51 v3 l h) fun v4 => bO (ld Pg 60 (g8 t) l h) fun v5 => jE ((54, (g3 t)) :: (53, v5) :: (52, v4) :: (51, v3) :: (50, v2) :: (49, v1) :: (48, v0) :: []) fun e6 => jF (ft0 :: (ldF (g8 t)) :: (ldF v3) :: ft0 :: (ldF v1) :: ft0 :: (ldF (g6 t)) :: []) fun q6 => gD Tryz.f62 62 12 7 c (p11 (p10 (p8 (p7 (p6 t (g6 t)) (g7 t)) (g8 t)) (g10 t)) (g11 t)) l h (fun v6 f6 l6 h6 => bO (ld Pg 158 (g11 t) l6 h6) fun v7 => jE ((56, v7) :: (55, v6) :: e6) fun e8 => jF ((ldF (g11 t)) :: f6 :: q6) fun q8 => clD c 62 [v0, v4, v5, (g3 t), v6, v7] l6 h6 (fun v8 f8 l8 h8 => jE ((57, v8) :: e8) fun e9 => jF (f8 :: q8) fun q9 => gD Tryz.f62 62 12 10 c (p57 (p12 t (g12 t)) v8) l8 h8 (fun v9 f9 l9 h9 => finD (rgA Tryz.f62 12).toList [] [] (f9 :: q9) (k t l9 h9)) (sD Tryz.f62 62 12 c 10 none e9 q9 t l8 h8)) (sD Tryz.f62 62 12 c 9 (some 57) e8 q8 t l6 h6)) (sD Tryz.f62 62 12 c 7 (some 55) e6 q6 t l h))
 .ret) (.seq (.reg fun c t l h k => bO (bin Pg .eql 3 true (g18 t) (I 25)) fun v0 => k (p58 t v0) l h)
 (.cond (.tmp 58) (.seq (.reg fun c t l h k => bO (ld Pg 59 (g6 t) l h) fun v0 => bO (fa Pg 51 (g7 t) 4) fun v1 => bO (ld Pg 47 v1 l h) fun v2 => bO (ia Pg 47 v2 (I 0)) fun v3 => bO (ld Pg 51 v3 l h) fun v4 => bO (ld Pg 60 (g8 t) l h) fun v5 => jE ((66, (g3 t)) :: (65, v5) :: (64, v4) :: (63, v3) :: (62, v2) :: (61, v1) :: (60, v0) :: []) fun e6 => jF (ft0 :: (ldF (g8 t)) :: (ldF v3) :: ft0 :: (ldF v1) :: ft0 :: (ldF (g6 t)) :: []) fun q6 => gD Tryz.f62 62 14 7 c (p10 (p7 t (g7 t)) (g10 t)) l h (fun v6 f6 l6 h6 => bO (ld Pg 158 (g11 t) l6 h6) fun v7 => jE ((68, v7) :: (67, v6) :: e6) fun e8 => jF ((ldF (g11 t)) :: f6 :: q6) fun q8 => clD c 62 [v0, v4, v5, (g3 t), v6, v7] l6 h6 (fun v8 f8 l8 h8 => jE ((69, v8) :: e8) fun e9 => jF (f8 :: q8) fun q9 => gD Tryz.f62 62 14 10 c (p69 (p12 t (g12 t)) v8) l8 h8 (fun v9 f9 l9 h9 => finD (rgA Tryz.f62 14).toList [] [] (f9 :: q9) (k t l9 h9)) (sD Tryz.f62 62 14 c 10 none e9 q9 t l8 h8)) (sD Tryz.f62 62 14 c 9 (some 69) e8 q8 t l6 h6)) (sD Tryz.f62 62 14 c 7 (some 67) e6 q6 t l h))
 .ret) (.seq (.reg fun c t l h k => bO (bin Pg .eql 3 true (g18 t) (I 26)) fun v0 => k (p70 t v0) l h)
 (.cond (.tmp 70) (.seq (.reg fun c t l h k => bO (ld Pg 59 (g6 t) l h) fun v0 => bO (fa Pg 51 (g7 t) 4) fun v1 => bO (ld Pg 47 v1 l h) fun v2 => bO (ia Pg 47 v2 (I 0)) fun v3 => bO (ld Pg 51 v3 l h) fun v4 => bO (ld Pg 60 (g8 t) l h) fun v5 => bO (ld Pg 158 (g11 t) l h) fun v6 => bO (ld Pg 158 (g11 t) l h) fun v7 => jE ((80, v7) :: (79, v6) :: (78, (g3 t)) :: (77, v5) :: (76, v4) :: (75, v3) :: (74, v2) :: (73, v1) :: (72, v0) :: []) fun e8 => jF ((ldF (g11 t)) :: (ldF (g11 t)) :: ft0 :: (ldF (g8 t)) :: (ldF v3) :: ft0 :: (ldF v1) :: ft0 :: (ldF (g6 t)) :: []) fun q8 => clD c 62 [v0, v4, v5, (g3 t), v6, v7] l h (fun v8 f8 l8 h8 => jE ((81, v8) :: e8) fun e9 => jF (f8 :: q8) fun q9 => gD Tryz.f62 62 16 10 c (p81 (p12 t (g12 t)) v8) l8 h8 (fun v9 f9 l9 h9 => finD (rgA Tryz.f62 16).toList [] [] (f9 :: q9) (k t l9 h9)) (sD Tryz.f62 62 16 c 10 none e9 q9 t l8 h8)) (sD Tryz.f62 62 16 c 9 (some 81) e8 q8 t l h))
 .ret) (.seq (.reg fun c t l h k => bO (bin Pg .eql 3 true (g18 t) (I 28)) fun v0 => k (p82 t v0) l h)
 (.cond (.tmp 82) (.seq (.reg fun c t l h k => bO (ld Pg 59 (g6 t) l h) fun v0 => bO (fa Pg 51 (g7 t) 4) fun v1 => bO (ld Pg 47 v1 l h) fun v2 => bO (ia Pg 47 v2 (I 0)) fun v3 => bO (ld Pg 51 v3 l h) fun v4 => bO (ld Pg 60 (g8 t) l h) fun v5 => jE ((90, (g3 t)) :: (89, v5) :: (88, v4) :: (87, v3) :: (86, v2) :: (85, v1) :: (84, v0) :: []) fun e6 => jF (ft0 :: (ldF (g8 t)) :: (ldF v3) :: ft0 :: (ldF v1) :: ft0 :: (ldF (g6 t)) :: []) fun q6 => gD Tryz.f62 62 18 7 c (p10 t (g10 t)) l h (fun v6 f6 l6 h6 => bO (ld Pg 158 (g11 t) l6 h6) fun v7 => jE ((92, v7) :: (91, v6) :: e6) fun e8 => jF ((ldF (g11 t)) :: f6 :: q6) fun q8 => clD c 62 [v0, v4, v5, (g3 t), v6, v7] l6 h6 (fun v8 f8 l8 h8 => jE ((93, v8) :: e8) fun e9 => jF (f8 :: q8) fun q9 => gD Tryz.f62 62 18 10 c (p93 (p12 t (g12 t)) v8) l8 h8 (fun v9 f9 l9 h9 => finD (rgA Tryz.f62 18).toList [] [] (f9 :: q9) (k t l9 h9)) (sD Tryz.f62 62 18 c 10 none e9 q9 t l8 h8)) (sD Tryz.f62 62 18 c 9 (some 93) e8 q8 t l6 h6)) (sD Tryz.f62 62 18 c 7 (some 91) e6 q6 t l h))
 .ret) (.seq (.reg fun c t l h k => bO (bin Pg .eql 3 true (g18 t) (I 27)) fun v0 => k (p94 t v0) l h)
 (.cond (.tmp 94) (.seq (.reg fun c t l h k => bO (ld Pg 59 (g6 t) l h) fun v0 => bO (fa Pg 51 (g7 t) 4) fun v1 => bO (ld Pg 47 v1 l h) fun v2 => bO (ia Pg 47 v2 (I 0)) fun v3 => bO (ld Pg 51 v3 l h) fun v4 => bO (ld Pg 60 (g8 t) l h) fun v5 => bO (ld Pg 158 (g10 t) l h) fun v6 => jE ((103, v6) :: (102, (g3 t)) :: (101, v5) :: (100, v4) :: (99, v3) :: (98, v2) :: (97, v1) :: (96, v0) :: []) fun e7 => jF ((ldF (g10 t)) :: ft0 :: (ldF (g8 t)) :: (ldF v3) :: ft0 :: (ldF v1) :: ft0 :: (ldF (g6 t)) :: []) fun q7 => gD Tryz.f62 62 20 8 c (p11 (p10 (p13 (p7 (p6 t (g6 t)) (g7 t)) (g13 t)) (g10 t)) (g11 t)) l h (fun v7 f7 l7 h7 => jE ((104, v7) :: e7) fun e8 => jF (f7 :: q7) fun q8 => clD c 62 [v0, v4, v5, (g3 t), v6, v7] l7 h7 (fun v8 f8 l8 h8 => jE ((105, v8) :: e8) fun e9 => jF (f8 :: q8) fun q9 => gD Tryz.f62 62 20 10 c (p105 (p12 t (g12 t)) v8) l8 h8 (fun v9 f9 l9 h9 => finD (rgA Tryz.f62 20).toList [] [] (f9 :: q9) (k t l9 h9)) (sD Tryz.f62 62 20 c 10 none e9 q9 t l8 h8)) (sD Tryz.f62 62 20 c 9 (some 105) e8 q8 t l7 h7)) (sD Tryz.f62 62 20 c 8 (some 104) e7 q7 t l h))
 .ret) (.seq (.reg fun c t l h k => bO (bin Pg .eql 3 true (g18 t) (I 21)) fun v0 => k (p106 t v0) l h)
 (.cond (.tmp 106) (.seq (.reg fun c t l h k => bO (ld Pg 59 (g6 t) l h) fun v0 => bO (fa Pg 51 (g7 t) 4) fun v1 => bO (ld Pg 47 v1 l h) fun v2 => bO (ld Pg 60 (g8 t) l h) fun v3 => bO (ld Pg 158 (g11 t) l h) fun v4 => gn Tryz.f62 62 22 6 c (p11 (p10 (p7 (p6 t (g6 t)) (g7 t)) (g10 t)) (g11 t)) t l h (fun v5 l5 h5 => cl c 93 [v0, v2, v3, (g3 t), .nils, v4, v5] t l5 h5 fun v6 l6 h6 => jn (fun v7 l7 h7 => k t l7 h7) fun j7 => sto 67 (g12 t) v6 l6 h6 j7 (gn Tryz.f62 62 22 8 c (p115 (p12 t (g12 t)) v6) t l6 h6 j7)))
 .ret) (.seq (.seq (.reg fun c t l h k => bO (bin Pg .eql 3 true (g18 t) (I 1)) fun v0 => k (p116 t v0) l h)
 (.cond (.tmp 116) .skip (.seq (.reg fun c t l h k => bO (bin Pg .eql 3 true (g18 t) (I 2)) fun v0 => k (p116 t v0) l h)
 (.cond (.tmp 116) .skip (.seq (.reg fun c t l h k => bO (bin Pg .eql 3 true (g18 t) (I 3)) fun v0 => k (p116 t v0) l h)
 (.cond (.tmp 116) .skip (.seq (.reg fun c t l h k => bO (bin Pg .eql 3 true (g18 t) (I 4)) fun v0 => k (p116 t v0) l h)
 (.cond (.tmp 116) .skip (.seq (.reg fun c t l h k => bO (bin Pg .eql 3 true (g18 t) (I 5)) fun v0 => k (p116 t v0) l h)
 (.cond (.tmp 116) .skip (.reg fun c t l h k => bO (bin Pg .eql 3 true (g18 t) (I 6)) fun v0 => k (p116 t v0) l h)))))))))))
 (.cond (.tmp 116) (.seq (.reg fun c t l h k => bO (ld Pg 158 (g10 t) l h) fun v0 => bO (ld Pg 59 (g6 t) l h) fun v1 => bO (nilC v1) fun v2 => bO (fa Pg 65 v2 0) fun v3 => bO (ld Pg 51 (g7 t) l h) fun v4 => bO (ld Pg 60 (g8 t) l h) fun v5 => jE ((129, (g3 t)) :: (128, v5) :: (127, v4) :: (126, v3) :: (125, v2) :: (124, v1) :: (123, v0) :: []) fun e6 => jF (ft0 :: (ldF (g8 t)) :: (ldF (g7 t)) :: ft0 :: ft0 :: (ldF (g6 t)) :: (ldF (g10 t)) :: []) fun q6 => clD c 96 [v3, v4, v5, (g3 t)] l h (fun v6 f6 l6 h6 => jE ((131, (g3 t)) :: (130, v6) :: e6) fun e7 => jF (ft0 :: f6 :: q6) fun q7 => gD Tryz.f62 62 29 9 c (p131 (p130 (p123 t v0) v6) (g3 t)) l6 h6 (fun v7 f7 l7 h7 => jE ((132, v7) :: e7) fun e8 => jF (f7 :: q7) fun q8 => gD Tryz.f62 62 29 10 c (p132 (p12 t (g12 t)) v7) l7 h7 (fun v8 f8 l8 h8 => finD (rgA Tryz.f62 29).toList [] [(0, 7)] (f8 :: q8) (k t l8 h8)) (sD Tryz.f62 62 29 c 10 none e8 q8 t l7 h7)) (sD Tryz.f62 62 29 c 9 (some 132) e7 q7 t l6 h6)) (sD Tryz.f62 62 29 c 7 (some 130) e6 q6 t l h))
 .ret) .skip))))))))))))))))))))
 (.seq (.reg fun c t l h k => bO (ld Pg 59 (g6 t) l h) fun v0 => bO (fa Pg 51 (g7 t) 4) fun v1 => bO (ld Pg 47 v1 l h) fun v2 => bO (ld Pg 60 (g8 t) l h) fun v3 => bO (ld Pg 158 (g11 t) l h) fun v4 => gn Tryz.f62 62 30 6 c (p7 (p10 t (g10 t)) (g7 t)) t l h (fun v5 l5 h5 => cl c 93 [v0, v2, v3, (g3 t), .nils, v4, v5] t l5 h5 fun v6 l6 h6 => jn (fun v7 l7 h7 => k t l7 h7) fun j7 => sto 67 (g12 t) v6 l6 h6 j7 (gn Tryz.f62 62 30 8 c (p140 (p12 t (g12 t)) v6) t l6 h6 j7)))
 .ret)))))

def kp63 : List Nat := [0, 1, 2, 3, 5]
def rc63 : RC := (.seq (.reg fun c t l h k => gn Tryz.f63 63 0 0 c (p0 t (g0 t)) t l h (fun v0 l0 h0 => al Pg 67 5 l0 fun v1 l1 => k (p5 (p3 t v0) v1) l1 h0))
 (.seq (.reg fun c t l h k => bO (ld Pg 59 (g2 t) l h) fun v0 => bO (ld Pg 59 (g2 t) l h) fun v1 => bO (nilC v1) fun v2 => bO (fa Pg 65 v2 0) fun v3 => bO (ld Pg 59 (g2 t) l h) fun v4 => bO (nilC v4) fun v5 => bO (fa Pg 65 v5 2) fun v6 => bO (ld Pg 53 v6 l h) fun v7 => bO (ld Pg 59 (g2 t) l h) fun v8 => bO (nilC v8) fun v9 => bO (fa Pg 65 v9 3) fun v10 => bO (ld Pg 60 v10 l h) fun v11 => bO (ld Pg 67 (g3 t) l h) fun v12 => bO (ld Pg 59 (g2 t) l h) fun v13 => bO (nilC v13) fun v14 => bO (fa Pg 65 v14 0) fun v15 => bO (fa Pg 62 v15 1) fun v16 => bO (ld Pg 60 v16 l h) fun v17 => jE ((24, (g1 t)) :: (23, v17) :: (22, v16) :: (21, v15) :: (20, v14) :: (19, v13) :: (18, v12) :: (17, v11) :: (16, v10) :: (15, v9) :: (14, v8) :: (13, v7) :: (12, v6) :: (11, v5) :: (10, v4) :: (9, v3) :: (8, v2) :: (7, v1) :: (6, v0) :: []) fun e18 => jF (ft0 :: (ldF v16) :: ft0 :: ft0 :: ft0 :: (ldF (g2 t)) :: (ldF (g3 t)) :: (ldF v10) :: ft0 :: ft0 :: (ldF (g2 t)) :: (ldF v6) :: ft0 :: ft0 :: (ldF (g2 t)) :: ft0 :: ft0 :: (ldF (g2 t)) :: (ldF (g2 t)) :: []) fun q18 => clD c 65 [v3, v7, v11, v12, v17, (g1 t)] l h (fun v18 f18 l18 h18 => jE ((25, v18) :: e18) fun e19 => jF (f18 :: q18) fun q19 => clD c 64 [v0, v18] l18 h18 (fun v19 f19 l19 h19 => jE ((26, v19) :: e19) fun e20 => jF (f19 :: q19) fun q20 => gD Tryz.f63 63 1 21 c (p26 (p5 t (g5 t)) v19) l19 h19 (fun v20 f20 l20 h20 => finD (rgA Tryz.f63 1).toList [] [(0, 19)] (f20 :: q20) (k t l20 h20)) (sD Tryz.f63 63 1 c 21 none e20 q20 t l19 h19)) (sD Tryz.f63 63 1 c 20 (some 26) e19 q19 t l18 h18)) (sD Tryz.f63 63 1 c 19 (some 25) e18 q18 t l h))
 .ret))

def kp64 : List Nat := [0, 1, 3, 4, 19]
def rc64 : RC := (.seq (.reg fun c t l h k => gn Tryz.f64 64 0 0 c (p1 t (g1 t)) t l h (fun v0 l0 h0 => al Pg 67 4 l0 fun v1 l1 => k (p4 (p3 t v0) v1) l1 h0))
 (.seq (.seq (.reg fun c t l h k => bO (nilC (g0 t)) fun v0 => bO (fa Pg 65 v0 7) fun v1 => bO (ld Pg 3 v1 l h) fun v2 => bO (fa Pg 67 (g3 t) 1) fun v3 => bO (ld Pg 3 v3 l h) fun v4 => bO (mxV v4 (I 1)) fun v5 => bO (bin Pg .add 3 false v2 v5) fun v6 => bO (nilC (g0 t)) fun v7 => bO (fa Pg 65 v7 7) fun v8 => jE ((14, v8) :: (13, v7) :: (12, v6) :: (11, v5) :: (10, v4) :: (9, v3) :: (8, v2) :: (7, v1) :: (6, v0) :: (5, (g0 t)) :: []) fun e9 => jF (ft0 :: ft0 :: ft0 :: ft0 :: (ldF v3) :: ft0 :: (ldF v1) :: ft0 :: ft0 :: ft0 :: []) fun q9 => gD Tryz.f64 64 1 10 c (p12 (p14 t v8) v6) l h (fun v9 f9 l9 h9 => finD (rgA Tryz.f64 1).toList [] [] (f9 :: q9) (k t l9 h9)) (sD Tryz.f64 64 1 c 10 none e9 q9 t l h))
 (.seq (.reg fun c t l h k => bO (nilC (g0 t)) fun v0 => bO (fa Pg 65 v0 7) fun v1 => bO (ld Pg 3 v1 l h) fun v2 => bO (bin Pg .gtr 3 true v2 (I 50000)) fun v3 => k (p19 t v3) l h)
 (.cond (.tmp 19) (.reg fun c t l h k => gn Tryz.f64 64 3 0 c t t l h (fun v0 l0 h0 => gn Tryz.f64 64 3 1 c (p20 t v0) t l0 h0 (fun v1 l1 h1 => gn Tryz.f64 64 3 2 c (p21 t v1) t l1 h1 (fun v2 l2 h2 => k t l2 h2)))) .skip)))
 (.seq (.reg fun c t l h k => bO (ld Pg 67 (g3 t) l h) fun v0 => jn (fun v1 l1 h1 => k t l1 h1) fun j1 => sto 67 (g4 t) v0 l h j1 (gn Tryz.f64 64 4 1 c (p22 (p4 t (g4 t)) v0) t l h j1))
 .ret)))

def kp65 : List Nat := [0, 1, 2, 3, 4, 5, 7, 9, 12, 13, 14]
def rc65 : RC := (.seq (.reg fun c t l h k => gn Tryz.f65 65 0 0 c (p1 t (g1 t)) t l h (fun v0 l0 h0 => gn Tryz.f65 65 0 1 c (p3 t (g3 t)) t l0 h0 (fun v1 l1 h1 => al Pg 67 12 l1 fun v2 l2 => k (p12 (p9 (p7 t v0) v1) v2) l2 h1)))
 (.seq (.reg fun c t l h k => bO (nilC (g0 t)) fun v0 => bO (fa Pg 62 v0 0) fun v1 => bO (ld Pg 25 v1 l h) fun v2 => gn Tryz.f65 65 1 5 c (p19 (p18 t v2) (g4 t)) t l h (fun v3 l3 h3 => gn Tryz.f65 65 1 6 c (p20 t v3) t l3 h3 (fun v4 l4 h4 => k (p13 t v4) l4 h4)))
 (.seq (.reg fun c t l h k => jE ((22, (g2 t)) :: []) fun e0 => jF (ft0 :: []) fun q0 => clD c 84 [(g2 t)] l h (fun v0 f0 l0 h0 => bO (ld Pg 67 (g9 t) l0 h0) fun v1 => jE ((24, v1) :: (23, v0) :: e0) fun e2 => jF ((ldF (g9 t)) :: f0 :: q0) fun q2 => gD Tryz.f65 65 2 3 c (p24 t v1) l0 h0 (fun v2 f2 l2 h2 => jE ((25, v2) :: e2) fun e3 => jF (f2 :: q2) fun q3 => gD Tryz.f65 65 2 4 c (p25 (p23 t v0) v2) l2 h2 (fun v3 f3 l3 h3 => finD (rgA Tryz.f65 2).toList [] [(1, 2)] (ft0 :: f3 :: q3) (k (p14 t v3) l3 h3)) (sD Tryz.f65 65 2 c 4 (some 26) e3 q3 t l2 h2)) (sD Tryz.f65 65 2 c 3 (some 25) e2 q2 t l0 h0)) (sD Tryz.f65 65 2 c 1 (some 23) e0 q0 t l h))
 (.seq (.reg fun c t l h k => bO (fa Pg 53 (g7 t) 6) fun v0 => bO (fa Pg 49 v0 2) fun v1 => bO (ld Pg 47 v1 l h) fun v2 => jE ((32, (g5 t)) :: (31, (g14 t)) :: (30, v2) :: (29, v1) :: (28, v0) :: (27, (g13 t)) :: []) fun e3 => jF (ft0 :: ft0 :: (ldF v1) :: ft0 :: ft0 :: ft0 :: []) fun q3 => clD c 99 [(g13 t), v2, (g14 t), (g5 t)] l h (fun v3 f3 l3 h3 => bO (fa Pg 53 (g7 t) 9) fun v4 => bO (ld Pg 47 v4 l3 h3) fun v5 => jE ((38, (g5 t)) :: (37, (g14 t)) :: (36, v5) :: (35, v4) :: (34, (g13 t)) :: (33, v3) :: e3) fun e6 => jF (ft0 :: ft0 :: (ldF v4) :: ft0 :: ft0 :: f3 :: q3) fun q6 => clD c 99 [(g13 t), v5, (g14 t), (g5 t)] l3 h3 (fun v6 f6 l6 h6 => jE ((39, v6) :: e6) fun e7 => jF (f6 :: q6) fun q7 => gD Tryz.f65 65 3 13 c (p39 (p33 t v3) v6) l6 h6 (fun v7 f7 l7 h7 => jE ((40, v7) :: e7) fun e8 => jF (f7 :: q7) fun q8 => clD c 59 [(I 5), v7] l7 h7 (fun v8 f8 l8 h8 => jE ((41, v8) :: e8) fun e9 => jF (f8 :: q8) fun q9 => gD Tryz.f65 65 3 15 c (p41 (p12 t (g12 t)) v8) l8 h8 (fun v9 f9 l9 h9 => finD (rgA Tryz.f65 3).toList [] [(6, 9)] (f9 :: q9) (k t l9 h9)) (sD Tryz.f65 65 3 c 15 none e9 q9 t l8 h8)) (sD Tryz.f65 65 3 c 14 (some 41) e8 q8 t l7 h7)) (sD Tryz.f65 65 3 c 13 (some 40) e7 q7 t l6 h6)) (sD Tryz.f65 65 3 c 12 (some 39) e6 q6 t l3 h3)) (sD Tryz.f65 65 3 c 6 (some 33) e3 q3 t l h))
 .ret))))

def kp66 : List Nat := [0, 1, 2, 5]
def rc66 : RC := (.seq (.reg fun c t l h k => gn Tryz.f66 66 0 0 c (p0 t (g0 t)) t l h (fun v0 l0 h0 => al Pg 67 5 l0 fun v1 l1 => k (p5 t v1) l1 h0))
 (.seq (.reg fun c t l h k => bO (ld Pg 59 (g2 t) l h) fun v0 => jE ((6, v0) :: []) fun e1 => jF ((ldF (g2 t)) :: []) fun q1 => clD c 59 [(I 2), .nils] l h (fun v1 f1 l1 h1 => jE ((7, v1) :: e1) fun e2 => jF (f1 :: q1) fun q2 => clD c 64 [v0, v1] l1 h1 (fun v2 f2 l2 h2 => jE ((8, v2) :: e2) fun e3 => jF (f2 :: q2) fun q3 => gD Tryz.f66 66 1 3 c (p8 (p5 t (g5 t)) v2) l2 h2 (fun v3 f3 l3 h3 => finD (rgA Tryz.f66 1).toList [] [(0, 1)] (f3 :: q3) (k t l3 h3)) (sD Tryz.f66 66 1 c 3 none e3 q3 t l2 h2)) (sD Tryz.f66 66 1 c 2 (some 8) e2 q2 t l1 h1)) (sD Tryz.f66 66 1 c 1 (some 7) e1 q1 t l h))
 .ret))

def kp67 : List Nat := [0, 1, 2, 3, 5, 8, 9, 10, 11, 13, 14, 15, 16]
def rc67 : RC := (.seq (.reg fun c t l h k => gn Tryz.f67 67 0 0 c (p1 t (g1 t)) t l h (fun v0 l0 h0 => al Pg 67 8 l0 fun v1 l1 => k (p8 (p5 t v0) v1) l1 h0))
 (.seq (.reg fun c t l h k => k (p9 t .nils) l h)
 (.seq (.seq (.reg fun c t l h k => bO (fa Pg 53 (g5 t) 4) fun v0 => bO (ld Pg 46 v0 l h) fun v1 => bO (len (Pg.underlying 46) v1) fun v2 => k (p15 (p14 (p13 t v1) v2) (I 0)) l h)
 (.block 0 (.loop (.seq (.reg fun c t l h k => bO (bin Pg .lss 3 false (g15 t) (g14 t)) fun v0 => k (p16 t v0) l h)
 (.seq (.cond (.tmp 16) .skip (.exit 0))
 (.seq (.block 1 (.seq (.reg fun c t l h k => bO (ia Pg 46 (g13 t) (g15 t)) fun v0 => bO (ld Pg 92 v0 l h) fun v1 => al Pg 92 11 l fun v2 l2 => jn (fun v3 l3 h3 => k (p10 (p11 t v2) (g15 t)) l3 h3) fun j3 => sto 92 v2 v1 l2 h j3 (gn Tryz.f67 67 4 5 c (p19 (p11 t v2) v1) t l2 h j3))
 (.reg fun c t l h k => bO (fa Pg 92 (g11 t) 1) fun v0 => bO (fa Pg 49 v0 2) fun v1 => bO (ld Pg 47 v1 l h) fun v2 => bO (bin Pg .add 3 true (g10 t) (I 1)) fun v3 => bO (len (Pg.underlying 60) (g2 t)) fun v4 => bO (mnV v3 v4) fun v5 => bO (slc Pg 60 (g2 t) none (some v5) none) fun v6 => jE ((32, (g3 t)) :: (31, v6) :: (30, v5) :: (29, v4) :: (28, (g2 t)) :: (27, v3) :: (26, (g10 t)) :: (25, (g2 t)) :: (24, v2) :: (23, v1) :: (22, v0) :: (21, (g0 t)) :: (20, (g9 t)) :: []) fun e7 => jF (ft0 :: ft0 :: ft0 :: ft0 :: ft0 :: ft0 :: ft0 :: ft0 :: (ldF v1) :: ft0 :: ft0 :: ft0 :: ft0 :: []) fun q7 => clD c 99 [(g0 t), v2, v6, (g3 t)] l h (fun v7 f7 l7 h7 => jE ((33, v7) :: e7) fun e8 => jF (f7 :: q7) fun q8 => gD Tryz.f67 67 5 14 c (p33 (p20 t (g9 t)) v7) l7 h7 (fun v8 f8 l8 h8 => finD (rgA Tryz.f67 5).toList [] [] (ft0 :: f8 :: q8) (k (p9 t v8) l8 h8)) (sD Tryz.f67 67 5 c 14 (some 34) e8 q8 t l7 h7)) (sD Tryz.f67 67 5 c 13 (some 33) e7 q7 t l h))))
 (.reg fun c t l h k => bO (bin Pg .add 3 true (g15 t) (I 1)) fun v0 => k (p15 t v0) l h)))))))
 (.seq (.reg fun c t l h k => bO (fa Pg 53 (g5 t) 7) fun v0 => bO (ld Pg 47 v0 l h) fun v1 => cl c 99 [(g0 t), v1, (g2 t), (g3 t)] t l h fun v2 l2 h2 => gn Tryz.f67 67 7 7 c (p42 (p36 t (g9 t)) v2) t l2 h2 (fun v3 l3 h3 => cl c 59 [(I 5), v3] t l3 h3 fun v4 l4 h4 => jn (fun v5 l5 h5 => k t l5 h5) fun j5 => sto 67 (g8 t) v4 l4 h4 j5 (gn Tryz.f67 67 7 9 c (p44 (p8 t (g8 t)) v4) t l4 h4 j5)))
 .ret))))

def kp68 : List Nat := [0, 1, 2, 3, 4, 5, 6, 7, 10, 18]
def rc68 : RC := (.seq (.reg fun c t l h k => gn Tryz.f68 68 0 0 c (p0 t (g0 t)) t l h (fun v0 l0 h0 => gn Tryz.f68 68 0 1 c (p1 t (g1 t)) t l0 h0 (fun v1 l1 h1 => al Pg 31 4 l1 fun v2 l2 => k (p4 (p3 (p2 t v0) v1) v2) l2 h1)))
 (.seq (.seq (.reg fun c t l h k => bO (fa Pg 31 (g3 t) 0) fun v0 => bO (ld Pg 3 v0 l h) fun v1 => bO (bin Pg .eql 3 true v1 (I 18)) fun v2 => k (p10 t v2) l h)
 (.cond (.tmp 10) (.seq (.reg fun c t l h k => bO (ld Pg 136 (g2 t) l h) fun v0 => bO (fa Pg 31 (g3 t) 1) fun v1 => bO (ld Pg 9 v1 l h) fun v2 => cl c 100 [v0, v2] t l h fun v3 l3 h3 => bO (ext v3 0) fun v4 => bO (ext v3 1) fun v5 => al Pg 31 5 l3 fun v6 l6 => jn (fun v7 l7 h7 => k (p6 (p5 t v6) v5) l7 h7) fun j7 => sto 31 v6 v4 l6 h3 j7 (gn Tryz.f68 68 2 8 c (p16 (p5 t v6) v4) t l6 h3 j7))
 (.seq (.reg fun c t l h k => k (p18 t (g6 t)) l h)
 (.cond (.tmp 18) (.seq (.reg fun c t l h k => bO (ld Pg 31 (g5 t) l h) fun v0 => cl c 40 [v0] t l h fun v1 l1 h1 => jn (fun v2 l2 h2 => k t l2 h2) fun j2 => sto 31 (g4 t) v1 l1 h1 j2 (gn Tryz.f68 68 4 2 c (p20 (p4 t (g4 t)) v1) t l1 h1 j2))
 .ret) .skip))) .skip))
 (.seq (.reg fun c t l h k => bO (ld Pg 136 (g2 t) l h) fun v0 => bO (ld Pg 31 (g3 t) l h) fun v1 => cl c 101 [v0, v1] t l h fun v2 l2 h2 => al Pg 136 7 l2 fun v3 l3 => jn (fun v4 l4 h4 => k (p7 t v3) l4 h4) fun j4 => sto 136 v3 v2 l3 h2 j4 (gn Tryz.f68 68 5 4 c (p23 (p7 t v3) v2) t l3 h2 j4))
 (.seq (.reg fun c t l h k => bO (fa Pg 31 (g3 t) 5) fun v0 => bO (ld Pg 29 v0 l h) fun v1 => jE ((25, v1) :: (24, v0) :: []) fun e2 => jF ((ldF v0) :: ft0 :: []) fun q2 => clD c 102 [v1] l h (fun v2 f2 l2 h2 => bO (ld Pg 136 (g7 t) l2 h2) fun v3 => bO (fa Pg 31 (g3 t) 4) fun v4 => bO (ld Pg 28 v4 l2 h2) fun v5 => jE ((29, v5) :: (28, v4) :: (27, v3) :: (26, v2) :: e2) fun e6 => jF ((ldF v4) :: ft0 :: (ldF (g7 t)) :: f2 :: q2) fun q6 => clD c 103 [v3, v5] l2 h2 (fun v6 f6 l6 h6 => bO (ld Pg 136 (g7 t) l6 h6) fun v7 => bO (fa Pg 31 (g3 t) 6) fun v8 => bO (ld Pg 28 v8 l6 h6) fun v9 => jE ((33, v9) :: (32, v8) :: (31, v7) :: (30, v6) :: e6) fun e10 => jF ((ldF v8) :: ft0 :: (ldF (g7 t)) :: f6 :: q6) fun q10 => clD c 103 [v7, v9] l6 h6 (fun v10 f10 l10 h10 => bO (fa Pg 31 (g3 t) 5) fun v11 => jE ((35, v11) :: (34, v10) :: e10) fun e12 => jF (ft0 :: f10 :: q10) fun q12 => gD Tryz.f68 68 6 12 c (p26 (p35 t v11) v2) l10 h10 (fun v12 f12 l12 h12 => bO (fa Pg 31 (g3 t) 4) fun v13 => jE ((36, v13) :: e12) fun e14 => jF (ft0 :: f12 :: q12) fun q14 => gD Tryz.f68 68 6 14 c (p30 (p36 t v13) v6) l12 h12 (fun v14 f14 l14 h14 => bO (fa Pg 31 (g3 t) 6) fun v15 => jE ((37, v15) :: e14) fun e16 => jF (ft0 :: f14 :: q14) fun q16 => gD Tryz.f68 68 6 16 c (p34 (p37 t v15) v10) l14 h14 (fun v16 f16 l16 h16 => finD (rgA Tryz.f68 6).toList [] [(2, 3), (2, 5), (2, 7), (6, 7), (2, 9), (6, 9)] (f16 :: q16) (k t l16 h16)) (sD Tryz.f68 68 6 c 16 none e16 q16 t l14 h14)) (sD Tryz.f68 68 6 c 14 none e14 q14 t l12 h12)) (sD Tryz.f68 68 6 c 12 none e12 q12 t l10 h10)) (sD Tryz.f68 68 6 c 10 (some 34) e10 q10 t l6 h6)) (sD Tryz.f68 68 6 c 6 (some 30) e6 q6 t l2 h2)) (sD Tryz.f68 68 6 c 2 (some 26) e2 q2 t l h))
 (.seq (.reg fun c t l h k => bO (ld Pg 31 (g3 t) l h) fun v0 => jn (fun v1 l1 h1 => k t l1 h1) fun j1 => sto 31 (g4 t) v0 l h j1 (gn Tryz.f68 68 7 1 c (p38 (p4 t (g4 t)) v0) t l h j1))
 .ret)))))

def kp69 : List Nat := [0, 2, 3, 4, 8, 16]
def rc69 : RC := (.seq (.reg fun c t l h k => k (p2 t .nils) l h)
 (.seq (.reg fun c t l h k => k (p3 t .nils) l h)
 (.seq (.seq (.reg fun c t l h k => k (p4 t (I 0)) l h)
 (.block 0 (.loop (.seq (.seq (.reg fun c t l h k => bO (len (Pg.underlying 25) (g0 t)) fun v0 => bO (bin Pg .lss 3 false (g4 t) v0) fun v1 => k (p8 t v1) l h)
 (.cond (.tmp 8) .skip (.exit 0)))
 (.seq (.block 1 (.seq (.reg fun c t l h k => bO (ia Pg 25 (g0 t) (g4 t)) fun v0 => bO (fa Pg 53 v0 0) fun v1 => bO (ld Pg 4 v1 l h) fun v2 => bO (G.un .not v2) fun v3 => k (p16 t v3) l h)
 (.cond (.tmp 16) (.reg fun c t l h k => bO (bs Pg 80 1 [(0, (g4 t))]) fun v0 => gn Tryz.f69 69 6 3 c (p19 (p17 t (g3 t)) v0) t l h (fun v1 l1 h1 => k (p3 t v1) l1 h1)) .skip)))
 (.reg fun c t l h k => bO (bin Pg .add 3 true (g4 t) (I 1)) fun v0 => k (p4 t v0) l h))))))
 (.seq (.reg fun c t l h k => k (p2 t (g3 t)) l h)
 .ret))))

def kp70 : List Nat := [0, 1, 2, 3, 4, 5, 7, 12, 13, 14, 15, 16, 19, 20, 26, 30, 31, 36, 39, 50, 57, 64, 117, 135, 136, 143, 150, 160, 164]
def rc70 : RC := (.seq (.reg fun c t l h k => gn Tryz.f70 70 0 0 c (p1 t (g1 t)) t l h (fun v0 l0 h0 => al Pg 74 12 l0 fun v1 l1 => k (p12 (p7 t v0) v1) l1 h0))
 (.seq (.seq (.reg fun c t l h k => bO (ld Pg 51 (g7 t) l h) fun v0 => cl c 71 [v0] t l h fun v1 l1 h1 => bO (ext v1 0) fun v2 => bO (ext v1 1) fun v3 => al Pg 139 13 l1 fun v4 l4 => jn (fun v5 l5 h5 => k (p14 (p13 t v4) v3) l5 h5) fun j5 => sto 139 v4 v2 l4 h1 j5 (gn Tryz.f70 70 1 6 c (p24 (p13 t v4) v2) t l4 h1 j5))
 (.seq (.reg fun c t l h k => k (p26 t (g14 t)) l h)
 (.cond (.tmp 26) (.seq (.reg fun c t l h k => bO (ld Pg 139 (g13 t) l h) fun v0 => cl c 73 [v0] t l h fun v1 l1 h1 => jn (fun v2 l2 h2 => k t l2 h2) fun j2 => sto 74 (g12 t) v1 l1 h1 j2 (gn Tryz.f70 70 3 2 c (p28 (p12 t (g12 t)) v1) t l1 h1 j2))
 .ret) .skip)))
 (.seq (.seq (.reg fun c t l h k => bO (fa Pg 51 (g7 t) 0) fun v0 => bO (ld Pg 3 v0 l h) fun v1 => k (p30 t v1) l h)
 (.block 0 (.seq (.reg fun c t l h k => bO (bin Pg .eql 3 true (g30 t) (I 2)) fun v0 => k (p31 t v0) l h)
 (.cond (.tmp 31) (.seq (.reg fun c t l h k => bO (fa Pg 51 (g7 t) 3) fun v0 => bO (ld Pg 4 v0 l h) fun v1 => cl c 45 [v1] t l h fun v2 l2 h2 => jn (fun v3 l3 h3 => k t l3 h3) fun j3 => sto 74 (g12 t) v2 l2 h2 j3 (gn Tryz.f70 70 6 3 c (p35 (p12 t (g12 t)) v2) t l2 h2 j3))
 .ret) (.seq (.reg fun c t l h k => bO (bin Pg .eql 3 true (g30 t) (I 3)) fun v0 => k (p36 t v0) l h)
 (.cond (.tmp 36) (.seq (.reg fun c t l h k => cl c 45 [(.bool true)] t l h fun v0 l0 h0 => jn (fun v1 l1 h1 => k t l1 h1) fun j1 => sto 74 (g12 t) v0 l0 h0 j1 (gn Tryz.f70 70 8 1 c (p38 (p12 t (g12 t)) v0) t l0 h0 j1))
 .ret) (.seq (.reg fun c t l h k => bO (bin Pg .eql 3 true (g30 t) (I 4)) fun v0 => k (p39 t v0) l h)
 (.cond (.tmp 39) (.seq (.reg fun c t l h k => bO (len (Pg.underlying 106) (g2 t)) fun v0 => bO (bin Pg .sub 3 true v0 (I 1)) fun v1 => bO (fa Pg 51 (g7 t) 5) fun v2 => bO (ld Pg 3 v2 l h) fun v3 => bO (bin Pg .sub 3 false v1 v3) fun v4 => bO (ia Pg 106 (g2 t) v4) fun v5 => bO (ld Pg 74 v5 l h) fun v6 => jn (fun v7 l7 h7 => k t l7 h7) fun j7 => sto 74 (g12 t) v6 l h j7 (gn Tryz.f70 70 10 9 c (p49 (p12 t (g12 t)) v6) t l h j7))
 .ret) (.seq (.reg fun c t l h k => bO (bin Pg .eql 3 true (g30 t) (I 5)) fun v0 => k (p50 t v0) l h)
 (.cond (.tmp 50) (.seq (.reg fun c t l h k => bO (fa Pg 51 (g7 t) 5) fun v0 => bO (ld Pg 3 v0 l h) fun v1 => bO (ia Pg 106 (g5 t) v1) fun v2 => bO (ld Pg 74 v2 l h) fun v3 => jn (fun v4 l4 h4 => k t l4 h4) fun j4 => sto 74 (g12 t) v3 l h j4 (gn Tryz.f70 70 12 5 c (p56 (p12 t (g12 t)) v3) t l h j4))
 .ret) (.seq (.reg fun c t l h k => bO (bin Pg .eql 3 true (g30 t) (I 6)) fun v0 => k (p57 t v0) l h)
 (.cond (.tmp 57) (.seq (.reg fun c t l h k => bO (fa Pg 51 (g7 t) 5) fun v0 => bO (ld Pg 3 v0 l h) fun v1 => bO (ia Pg 106 (g4 t) v1) fun v2 => bO (ld Pg 74 v2 l h) fun v3 => jn (fun v4 l4 h4 => k t l4 h4) fun j4 => sto 74 (g12 t) v3 l h j4 (gn Tryz.f70 70 14 5 c (p63 (p12 t (g12 t)) v3) t l h j4))
 .ret) (.seq (.reg fun c t l h k => bO (bin Pg .eql 3 true (g30 t) (I 23)) fun v0 => k (p64 t v0) l h)
 (.cond (.tmp 64) (.seq (.reg fun c t l h k => bO (fa Pg 51 (g7 t) 4) fun v0 => bO (ld Pg 47 v0 l h) fun v1 => bO (ia Pg 47 v1 (I 0)) fun v2 => bO (ld Pg 51 v2 l h) fun v3 => cl c 70 [(g0 t), v3, (g2 t), (g3 t), (g4 t), (g5 t)] t l h fun v4 l4 h4 => al Pg 74 15 l4 fun v5 l5 => jn (fun v6 l6 h6 => k (p15 t v5) l6 h6) fun j6 => sto 74 v5 v4 l5 h4 j6 (gn Tryz.f70 70 16 11 c (p75 (p15 t v5) v4) t l5 h4 j6))
 (.seq (.reg fun c t l h k => bO (fa Pg 51 (g7 t) 4) fun v0 => bO (ld Pg 47 v0 l h) fun v1 => bO (ia Pg 47 v1 (I 0)) fun v2 => bO (ld Pg 51 v2 l h) fun v3 => cl c 104 [(g0 t), v3, (g3 t)] t l h fun v4 l4 h4 => bO (ext v4 0) fun v5 => bO (ext v4 1) fun v6 => bO (ext v4 2) fun v7 => k (p16 t v5) l4 h4)
 (.seq (.reg fun c t l h k => bO (fa Pg 51 (g7 t) 4) fun v0 => bO (ld Pg 47 v0 l h) fun v1 => bO (ia Pg 47 v1 (I 1)) fun v2 => bO (ld Pg 51 v2 l h) fun v3 => bO (len (Pg.underlying 106) (g2 t)) fun v4 => bO (len (Pg.underlying 106) (g2 t)) fun v5 => bO (slc Pg 106 (g2 t) none (some v4) (some v5)) fun v6 => bO (ld Pg 74 (g15 t) l h) fun v7 => jE ((98, v7) :: (97, v6) :: (96, v5) :: (95, (g2 t)) :: (94, v4) :: (93, (g2 t)) :: (92, (g2 t)) :: (91, v3) :: (90, v2) :: (89, v1) :: (88, v0) :: (87, (g0 t)) :: []) fun e8 => jF ((ldF (g15 t)) :: ft0 :: ft0 :: ft0 :: ft0 :: ft0 :: ft0 :: (ldF v2) :: ft0 :: (ldF v0) :: ft0 :: ft0 :: []) fun q8 => gD Tryz.f70 70 18 12 c (p98 t v7) l h (fun v8 f8 l8 h8 => jE ((99, v8) :: e8) fun e9 => jF (f8 :: q8) fun q9 => gD Tryz.f70 70 18 13 c (p99 (p97 t v6) v8) l8 h8 (fun v9 f9 l9 h9 => bO (len (Pg.underlying 80) (g3 t)) fun v10 => bO (len (Pg.underlying 80) (g3 t)) fun v11 => bO (slc Pg 80 (g3 t) none (some v10) (some v11)) fun v12 => jE ((107, (g16 t)) :: (106, v12) :: (105, v11) :: (104, (g3 t)) :: (103, v10) :: (102, (g3 t)) :: (101, (g3 t)) :: (100, v9) :: e9) fun e13 => jF (ft0 :: ft0 :: ft0 :: ft0 :: ft0 :: ft0 :: ft0 :: f9 :: q9) fun q13 => gD Tryz.f70 70 18 21 c (p107 t (g16 t)) l9 h9 (fun v13 f13 l13 h13 => jE ((108, v13) :: e13) fun e14 => jF (f13 :: q13) fun q14 => gD Tryz.f70 70 18 22 c (p108 (p106 t v12) v13) l13 h13 (fun v14 f14 l14 h14 => jE ((111, (g5 t)) :: (110, (g4 t)) :: (109, v14) :: e14) fun e15 => jF (ft0 :: ft0 :: f14 :: q14) fun q15 => clD c 70 [(g0 t), v3, v9, v14, (g4 t), (g5 t)] l14 h14 (fun v15 f15 l15 h15 => jE ((112, v15) :: e15) fun e16 => jF (f15 :: q15) fun q16 => gD Tryz.f70 70 18 26 c (p112 (p12 t (g12 t)) v15) l15 h15 (fun v16 f16 l16 h16 => finD (rgA Tryz.f70 18).toList [(2, 13), (4, 13), (2, 22), (4, 22)] [(2, 13), (4, 13), (2, 22), (4, 22)] (f16 :: q16) (k t l16 h16)) (sD Tryz.f70 70 18 c 26 none e16 q16 t l15 h15)) (sD Tryz.f70 70 18 c 25 (some 112) e15 q15 t l14 h14)) (sD Tryz.f70 70 18 c 22 (some 109) e14 q14 t l13 h13)) (sD Tryz.f70 70 18 c 21 (some 108) e13 q13 t l9 h9)) (sD Tryz.f70 70 18 c 13 (some 100) e9 q9 t l8 h8)) (sD Tryz.f70 70 18 c 12 (some 99) e8 q8 t l h))
 .ret))) .skip))))))))))))))
 (.seq (.reg fun c t l h k => k (p19 t .nils) l h)
 (.seq (.seq (.reg fun c t l h k => k (p20 t (I 0)) l h)
 (.block 1 (.loop (.seq (.seq (.reg fun c t l h k => bO (fa Pg 51 (g7 t) 4) fun v0 => bO (ld Pg 47 v0 l h) fun v1 => bO (len (Pg.underlying 47) v1) fun v2 => bO (bin Pg .lss 3 false (g20 t) v2) fun v3 => k (p117 t v3) l h)
 (.cond (.tmp 117) .skip (.exit 1)))
 (.seq (.block 2 (.reg fun c t l h k => bO (fa Pg 51 (g7 t) 4) fun v0 => bO (ld Pg 47 v0 l h) fun v1 => bO (ia Pg 47 v1 (g20 t)) fun v2 => bO (ld Pg 51 v2 l h) fun v3 => cl c 70 [(g0 t), v3, (g2 t), (g3 t), (g4 t), (g5 t)] t l h fun v4 l4 h4 => bO (bs Pg 106 1 [(0, v4)]) fun v5 => gn Tryz.f70 70 23 13 c (p132 (p120 t (g19 t)) v5) t l4 h4 (fun v6 l6 h6 => k (p19 t v6) l6 h6)))
 (.reg fun c t l h k => bO (bin Pg .add 3 true (g20 t) (I 1)) fun v0 => k (p20 t v0) l h))))))
 (.seq (.seq (.reg fun c t l h k => bO (fa Pg 51 (g7 t) 0) fun v0 => bO (ld Pg 3 v0 l h) fun v1 => k (p135 t v1) l h)
 (.block 3 (.seq (.reg fun c t l h k => bO (bin Pg .eql 3 true (g135 t) (I 7)) fun v0 => k (p136 t v0) l h)
 (.cond (.tmp 136) (.seq (.reg fun c t l h k => bO (ia Pg 106 (g19 t) (I 0)) fun v0 => bO (ld Pg 74 v0 l h) fun v1 => bO (bs Pg 106 1 [(0, v1)]) fun v2 => cl c 48 [(I 14), v2] t l h fun v3 l3 h3 => jn (fun v4 l4 h4 => k t l4 h4) fun j4 => sto 74 (g12 t) v3 l3 h3 j4 (gn Tryz.f70 70 26 5 c (p142 (p12 t (g12 t)) v3) t l3 h3 j4))
 .ret) (.seq (.reg fun c t l h k => bO (bin Pg .eql 3 true (g135 t) (I 8)) fun v0 => k (p143 t v0) l h)
 (.cond (.tmp 143) (.seq (.reg fun c t l h k => bO (ia Pg 106 (g19 t) (I 0)) fun v0 => bO (ld Pg 74 v0 l h) fun v1 => bO (bs Pg 106 1 [(0, v1)]) fun v2 => cl c 48 [(I 4), v2] t l h fun v3 l3 h3 => jn (fun v4 l4 h4 => k t l4 h4) fun j4 => sto 74 (g12 t) v3 l3 h3 j4 (gn Tryz.f70 70 28 5 c (p149 (p12 t (g12 t)) v3) t l3 h3 j4))
 .ret) (.seq (.reg fun c t l h k => bO (bin Pg .eql 3 true (g135 t) (I 9)) fun v0 => k (p150 t v0) l h)
 (.cond (.tmp 150) (.seq (.reg fun c t l h k => bO (ld Pg 51 (g7 t) l h) fun v0 => bO (ia Pg 106 (g19 t) (I 0)) fun v1 => bO (ld Pg 74 v1 l h) fun v2 => bO (ia Pg 106 (g19 t) (I 1)) fun v3 => bO (ld Pg 74 v3 l h) fun v4 => jE ((158, v4) :: (157, v3) :: (156, (g19 t)) :: (155, v2) :: (154, v1) :: (153, (g19 t)) :: (152, v0) :: []) fun e5 => jF ((ldF v3) :: ft0 :: ft0 :: (ldF v1) :: ft0 :: ft0 :: (ldF (g7 t)) :: []) fun q5 => clD c 105 [v0, v2, v4] l h (fun v5 f5 l5 h5 => jE ((159, v5) :: e5) fun e6 => jF (f5 :: q5) fun q6 => gD Tryz.f70 70 30 8 c (p159 (p12 t (g12 t)) v5) l5 h5 (fun v6 f6 l6 h6 => finD (rgA Tryz.f70 30).toList [] [] (f6 :: q6) (k t l6 h6)) (sD Tryz.f70 70 30 c 8 none e6 q6 t l5 h5)) (sD Tryz.f70 70 30 c 7 (some 159) e5 q5 t l h))
 .ret) (.seq (.reg fun c t l h k => bO (bin Pg .eql 3 true (g135 t) (I 22)) fun v0 => k (p160 t v0) l h)
 (.cond (.tmp 160) (.seq (.reg fun c t l h k => cl c 48 [(I 16), (g19 t)] t l h fun v0 l0 h0 => jn (fun v1 l1 h1 => k t l1 h1) fun j1 => sto 74 (g12 t) v0 l0 h0 j1 (gn Tryz.f70 70 32 2 c (p163 (p12 t (g12 t)) v0) t l0 h0 j1))
 .ret) (.seq (.reg fun c t l h k => bO (bin Pg .eql 3 true (g135 t) (I 21)) fun v0 => k (p164 t v0) l h)
 (.cond (.tmp 164) (.seq (.reg fun c t l h k => bO (fa Pg 51 (g7 t) 5) fun v0 => bO (ld Pg 3 v0 l h) fun v1 => cl c 106 [(g0 t), v1, (g19 t)] t l h fun v2 l2 h2 => jn (fun v3 l3 h3 => k t l3 h3) fun j3 => sto 74 (g12 t) v2 l2 h2 j3 (gn Tryz.f70 70 34 5 c (p170 (p12 t (g12 t)) v2) t l2 h2 j3))
 .ret) .skip))))))))))))
 (.seq (.reg fun c t l h k => bO (fa Pg 51 (g7 t) 0) fun v0 => bO (ld Pg 3 v0 l h) fun v1 => bO (ia Pg 106 (g19 t) (I 0)) fun v2 => bO (ld Pg 74 v2 l h) fun v3 => bO (ia Pg 106 (g19 t) (I 1)) fun v4 => bO (ld Pg 74 v4 l h) fun v5 => jE ((178, v5) :: (177, v4) :: (176, (g19 t)) :: (175, v3) :: (174, v2) :: (173, (g19 t)) :: (172, v1) :: (171, v0) :: []) fun e6 => jF ((ldF v4) :: ft0 :: ft0 :: (ldF v2) :: ft0 :: ft0 :: (ldF v0) :: ft0 :: []) fun q6 => clD c 107 [v1, v3, v5] l h (fun v6 f6 l6 h6 => jE ((179, v6) :: e6) fun e7 => jF (f6 :: q6) fun q7 => gD Tryz.f70 70 35 9 c (p179 (p12 t (g12 t)) v6) l6 h6 (fun v7 f7 l7 h7 => finD (rgA Tryz.f70 35).toList [] [] (f7 :: q7) (k t l7 h7)) (sD Tryz.f70 70 35 c 9 none e7 q7 t l6 h6)) (sD Tryz.f70 70 35 c 8 (some 179) e6 q6 t l h))
 .ret)))))))

def kp71 : List Nat := [0, 1, 2, 3, 6, 26]
def rc71 : RC := (.seq (.reg fun c t l h k => gn Tryz.f71 71 0 0 c (p0 t (g0 t)) t l h (fun v0 l0 h0 => al Pg 139 2 l0 fun v1 l1 => k (p3 (p2 (p1 t v0) v1) (.bool false)) l1 h0))
 (.seq (.seq (.reg fun c t l h k => bO (fa Pg 51 (g1 t) 0) fun v0 => bO (ld Pg 3 v0 l h) fun v1 => bO (bin Pg .eql 3 true v1 (I 1)) fun v2 => k (p6 t v2) l h)
 (.cond (.tmp 6) (.seq (.reg fun c t l h k => bO (fa Pg 51 (g1 t) 2) fun v0 => bO (ld Pg 9 v0 l h) fun v1 => cl c 108 [v1] t l h fun v2 l2 h2 => jn (fun v3 l3 h3 => k (p3 t (.bool true)) l3 h3) fun j3 => sto 139 (g2 t) v2 l2 h2 j3 (gn Tryz.f71 71 2 3 c (p9 (p2 t (g2 t)) v2) t l2 h2 j3))
 .ret) .skip))
 (.seq (.seq (.reg fun c t l h k => bO (fa Pg 51 (g1 t) 0) fun v0 => bO (ld Pg 3 v0 l h) fun v1 => bO (bin Pg .eql 3 true v1 (I 7)) fun v2 => jn (fun v3 l3 h3 => jn (fun v4 l4 h4 => jn (fun v5 l5 h5 => jn (fun v6 l6 h6 => bO (pick v2 v6 (.bool false)) fun v7 => jn (fun v8 l8 h8 => jn (fun v9 l9 h9 => jn (fun v10 l10 h10 => jn (fun v11 l11 h11 => jn (fun v12 l12 h12 => jn (fun v13 l13 h13 => bO (pick v7 v13 (.bool false)) fun v14 => k (p26 t v14) l13 h13) fun j13 => brB (wv v7 true) (j13 (.tuple []) l12 h12) (bO (bin Pg .eql 3 true v12 (I 1)) fun v14 => j13 v14 l12 h12)) fun j12 => brB (wv v7 true) (j12 (.tuple []) l11 h11) (bO (ld Pg 3 v11 l11 h11) fun v13 => j12 v13 l11 h11)) fun j11 => brB (wv v7 true) (j11 (.tuple []) l10 h10) (bO (fa Pg 51 v10 0) fun v12 => j11 v12 l10 h10)) fun j10 => brB (wv v7 true) (j10 (.tuple []) l9 h9) (bO (ia Pg 47 v9 (I 0)) fun v11 => j10 v11 l9 h9)) fun j9 => brB (wv v7 true) (j9 (.tuple []) l8 h8) (bO (ld Pg 47 v8 l8 h8) fun v10 => j9 v10 l8 h8)) fun j8 => brB (wv v7 true) (j8 (.tuple []) l6 h6) (bO (fa Pg 51 (g1 t) 4) fun v9 => j8 v9 l6 h6)) fun j6 => brB (wv v2 true) (j6 (.tuple []) l5 h5) (bO (bin Pg .eql 3 true v5 (I 1)) fun v7 => j6 v7 l5 h5)) fun j5 => brB (wv v2 true) (j5 (.tuple []) l4 h4) (bO (len (Pg.underlying 47) v4) fun v6 => j5 v6 l4 h4)) fun j4 => brB (wv v2 true) (j4 (.tuple []) l3 h3) (bO (ld Pg 47 v3 l3 h3) fun v5 => j4 v5 l3 h3)) fun j3 => brB (wv v2 true) (j3 (.tuple []) l h) (bO (fa Pg 51 (g1 t) 4) fun v4 => j3 v4 l h))
 (.cond (.tmp 26) (.seq (.reg fun c t l h k => bO (fa Pg 51 (g1 t) 4) fun v0 => bO (ld Pg 47 v0 l h) fun v1 => bO (ia Pg 47 v1 (I 0)) fun v2 => bO (fa Pg 51 v2 2) fun v3 => bO (ld Pg 9 v3 l h) fun v4 => cl c 108 [v4] t l h fun v5 l5 h5 => cl c 109 [v5] t l5 h5 fun v6 l6 h6 => jn (fun v7 l7 h7 => k (p3 t (.bool true)) l7 h7) fun j7 => sto 139 (g2 t) v6 l6 h6 j7 (gn Tryz.f71 71 4 7 c (p33 (p2 t (g2 t)) v6) t l6 h6 j7))
 .ret) .skip))
 (.seq (.reg fun c t l h k => gn Tryz.f71 71 5 0 c t t l h (fun v0 l0 h0 => jn (fun v1 l1 h1 => k (p3 t (.bool false)) l1 h1) fun j1 => sto 139 (g2 t) v0 l0 h0 j1 (gn Tryz.f71 71 5 1 c (p34 (p2 t (g2 t)) v0) t l0 h0 j1)))
 .ret))))

def kp72 : List Nat := [0, 1, 2, 3, 6, 8, 9, 10, 11, 12, 18, 23, 24, 45, 73, 133, 136, 142, 173, 219, 251, 295]
def rc72 : RC := (.seq (.reg fun c t l h k => gn Tryz.f72 72 0 0 c (p2 t (g2 t)) t l h (fun v0 l0 h0 => al Pg 74 8 l0 fun v1 l1 => k (p8 (p6 t v0) v1) l1 h0))
 (.seq (.seq (.reg fun c t l h k => bO (nilC (g0 t)) fun v0 => bO (fa Pg 108 v0 9) fun v1 => bO (ld Pg 4 v1 l h) fun v2 => k (p18 t v2) l h)
 (.cond (.tmp 18) (.seq (.reg fun c t l h k => gn Tryz.f72 72 2 0 c t t l h (fun v0 l0 h0 => jn (fun v1 l1 h1 => k t l1 h1) fun j1 => sto 74 (g8 t) v0 l0 h0 j1 (gn Tryz.f72 72 2 1 c (p19 (p8 t (g8 t)) v0) t l0 h0 j1)))
 .ret) .skip))
 (.seq (.seq (.reg fun c t l h k => bO (nilC (g1 t)) fun v0 => bO (fa Pg 118 v0 0) fun v1 => bO (ld Pg 3 v1 l h) fun v2 => k (p23 t v2) l h)
 (.block 0 (.seq (.reg fun c t l h k => bO (bin Pg .eql 3 true (g23 t) (I 0)) fun v0 => k (p24 t v0) l h)
 (.cond (.tmp 24) (.seq (.reg fun c t l h k => bO (nilC (g0 t)) fun v0 => bO (fa Pg 108 v0 0) fun v1 => bO (ld Pg 25 v1 l h) fun v2 => bO (nilC (g0 t)) fun v3 => bO (fa Pg 108 v3 1) fun v4 => bO (ld Pg 3 v4 l h) fun v5 => bO (nilC (g0 t)) fun v6 => bO (fa Pg 108 v6 3) fun v7 => bO (ld Pg 106 v7 l h) fun v8 => bO (ld Pg 74 (g6 t) l h) fun v9 => bO (nilC (g0 t)) fun v10 => bO (fa Pg 108 v10 5) fun v11 => bO (ld Pg 106 v11 l h) fun v12 => jE ((43, (g3 t)) :: (42, v12) :: (41, v11) :: (40, v10) :: (39, (g0 t)) :: (38, v9) :: (37, v8) :: (36, v7) :: (35, v6) :: (34, (g0 t)) :: (33, v5) :: (32, v4) :: (31, v3) :: (30, (g0 t)) :: (29, v2) :: (28, v1) :: (27, v0) :: (26, (g0 t)) :: []) fun e13 => jF (ft0 :: (ldF v11) :: ft0 :: ft0 :: ft0 :: (ldF (g6 t)) :: (ldF v7) :: ft0 :: ft0 :: ft0 :: (ldF v4) :: ft0 :: ft0 :: ft0 :: (ldF v1) :: ft0 :: ft0 :: ft0 :: []) fun q13 => clD c 110 [v2, v5, v8, v9, v12, (g3 t)] l h (fun v13 f13 l13 h13 => jE ((44, v13) :: e13) fun e14 => jF (f13 :: q13) fun q14 => gD Tryz.f72 72 5 19 c (p44 (p8 t (g8 t)) v13) l13 h13 (fun v14 f14 l14 h14 => finD (rgA Tryz.f72 5).toList [] [] (f14 :: q14) (k t l14 h14)) (sD Tryz.f72 72 5 c 19 none e14 q14 t l13 h13)) (sD Tryz.f72 72 5 c 18 (some 44) e13 q13 t l h))
 .ret) (.seq (.reg fun c t l h k => bO (bin Pg .eql 3 true (g23 t) (I 1)) fun v0 => k (p45 t v0) l h)
 (.cond (.tmp 45) (.seq (.reg fun c t l h k => bO (nilC (g1 t)) fun v0 => bO (fa Pg 118 v0 3) fun v1 => bO (ld Pg 106 v1 l h) fun v2 => bO (nilC (g1 t)) fun v3 => bO (fa Pg 118 v3 3) fun v4 => bO (ld Pg 106 v4 l h) fun v5 => bO (len (Pg.underlying 106) v5) fun v6 => bO (nilC (g1 t)) fun v7 => bO (fa Pg 118 v7 3) fun v8 => bO (ld Pg 106 v8 l h) fun v9 => bO (len (Pg.underlying 106) v9) fun v10 => bO (slc Pg 106 v2 none (some v6) (some v10)) fun v11 => bO (ld Pg 74 (g6 t) l h) fun v12 => jE ((62, v12) :: (61, v11) :: (60, v10) :: (59, v9) :: (58, v8) :: (57, v7) :: (56, (g1 t)) :: (55, v6) :: (54, v5) :: (53, v4) :: (52, v3) :: (51, (g1 t)) :: (50, v2) :: (49, v1) :: (48, v0) :: (47, (g1 t)) :: []) fun e13 => jF ((ldF (g6 t)) :: ft0 :: ft0 :: (ldF v8) :: ft0 :: ft0 :: ft0 :: ft0 :: (ldF v4) :: ft0 :: ft0 :: ft0 :: (ldF v1) :: ft0 :: ft0 :: ft0 :: []) fun q13 => gD Tryz.f72 72 7 16 c (p62 t v12) l h (fun v13 f13 l13 h13 => jE ((63, v13) :: e13) fun e14 => jF (f13 :: q13) fun q14 => gD Tryz.f72 72 7 17 c (p63 (p61 t v11) v13) l13 h13 (fun v14 f14 l14 h14 => finD (rgA Tryz.f72 7).toList [] [] (ft0 :: f14 :: q14) (k (p9 t v14) l14 h14)) (sD Tryz.f72 72 7 c 17 (some 64) e14 q14 t l13 h13)) (sD Tryz.f72 72 7 c 16 (some 63) e13 q13 t l h))
 (.seq (.seq (.reg fun c t l h k => bO (len (Pg.underlying 106) (g9 t)) fun v0 => bO (nilC (g1 t)) fun v1 => bO (fa Pg 118 v1 1) fun v2 => bO (fa Pg 51 v2 4) fun v3 => bO (ld Pg 47 v3 l h) fun v4 => bO (len (Pg.underlying 47) v4) fun v5 => bO (bin Pg .lss 3 false v0 v5) fun v6 => k (p73 t v6) l h)
 (.cond (.tmp 73) (.seq (.reg fun c t l h k => bO (nilC (g1 t)) fun v0 => bO (fa Pg 118 v0 1) fun v1 => bO (fa Pg 51 v1 4) fun v2 => bO (ld Pg 47 v2 l h) fun v3 => bO (len (Pg.underlying 106) (g9 t)) fun v4 => bO (ia Pg 47 v3 v4) fun v5 => bO (ld Pg 51 v5 l h) fun v6 => bO (nilC (g1 t)) fun v7 => bO (fa Pg 118 v7 4) fun v8 => bO (ld Pg 106 v8 l h) fun v9 => bO (nilC (g1 t)) fun v10 => bO (fa Pg 118 v10 5) fun v11 => bO (ld Pg 80 v11 l h) fun v12 => bO (nilC (g1 t)) fun v13 => bO (fa Pg 118 v13 1) fun v14 => bO (ld Pg 51 v14 l h) fun v15 => bO (nilC (g1 t)) fun v16 => bO (fa Pg 118 v16 4) fun v17 => bO (ld Pg 106 v17 l h) fun v18 => bO (nilC (g1 t)) fun v19 => bO (fa Pg 118 v19 5) fun v20 => bO (ld Pg 80 v20 l h) fun v21 => bO (nilC (g1 t)) fun v22 => bO (fa Pg 118 v22 6) fun v23 => bO (ld Pg 116 v23 l h) fun v24 => jE ((109, v24) :: (108, v23) :: (107, v22) :: (106, (g1 t)) :: (105, v21) :: (104, v20) :: (103, v19) :: (102, (g1 t)) :: (101, v18) :: (100, v17) :: (99, v16) :: (98, (g1 t)) :: (97, (g9 t)) :: (96, v15) :: (95, v14) :: (94, v13) :: (93, (g1 t)) :: (92, (g3 t)) :: (91, v12) :: (90, v11) :: (89, v10) :: (88, (g1 t)) :: (87, v9) :: (86, v8) :: (85, v7) :: (84, (g1 t)) :: (83, v6) :: (82, v5) :: (81, v4) :: (80, (g9 t)) :: (79, v3) :: (78, v2) :: (77, v1) :: (76, v0) :: (75, (g1 t)) :: (74, (g0 t)) :: []) fun e25 => jF ((ldF v23) :: ft0 :: ft0 :: ft0 :: (ldF v20) :: ft0 :: ft0 :: ft0 :: (ldF v17) :: ft0 :: ft0 :: ft0 :: ft0 :: (ldF v14) :: ft0 :: ft0 :: ft0 :: ft0 :: (ldF v11) :: ft0 :: ft0 :: ft0 :: (ldF v8) :: ft0 :: ft0 :: ft0 :: (ldF v5) :: ft0 :: ft0 :: ft0 :: (ldF v2) :: ft0 :: ft0 :: ft0 :: ft0 :: ft0 :: []) fun q25 => gD Tryz.f72 72 9 36 c (p109 (p105 (p101 (p97 (p96 t v15) (g9 t)) v18) v21) v24) l h (fun v25 f25 l25 h25 => jE ((110, v25) :: e25) fun e26 => jF (f25 :: q25) fun q26 => gD Tryz.f72 72 9 37 c (p110 t v25) l25 h25 (fun v26 f26 l26 h26 => jE ((111, v26) :: e26) fun e27 => jF (f26 :: q26) fun q27 => clD c 50 [(g0 t), v6, v9, v12, (g3 t), v26] l26 h26 (fun v27 f27 l27 h27 => jE ((112, v27) :: e27) fun e28 => jF (f27 :: q27) fun q28 => gD Tryz.f72 72 9 39 c (p112 (p8 t (g8 t)) v27) l27 h27 (fun v28 f28 l28 h28 => finD (rgA Tryz.f72 9).toList [(5, 37), (9, 37), (13, 37), (17, 37)] [(5, 37), (9, 37), (13, 37), (17, 37)] (f28 :: q28) (k t l28 h28)) (sD Tryz.f72 72 9 c 39 none e28 q28 t l27 h27)) (sD Tryz.f72 72 9 c 38 (some 112) e27 q27 t l26 h26)) (sD Tryz.f72 72 9 c 37 (some 111) e26 q26 t l25 h25)) (sD Tryz.f72 72 9 c 36 (some 110) e25 q25 t l h))
 .ret) .skip))
 (.seq (.reg fun c t l h k => bO (nilC (g1 t)) fun v0 => bO (fa Pg 118 v0 1) fun v1 => bO (ld Pg 51 v1 l h) fun v2 => bO (nilC (g1 t)) fun v3 => bO (fa Pg 118 v3 4) fun v4 => bO (ld Pg 106 v4 l h) fun v5 => bO (nilC (g1 t)) fun v6 => bO (fa Pg 118 v6 5) fun v7 => bO (ld Pg 80 v7 l h) fun v8 => bO (nilC (g1 t)) fun v9 => bO (fa Pg 118 v9 6) fun v10 => bO (ld Pg 116 v10 l h) fun v11 => jE ((131, v11) :: (130, v10) :: (129, v9) :: (128, (g1 t)) :: (127, (g3 t)) :: (126, v8) :: (125, v7) :: (124, v6) :: (123, (g1 t)) :: (122, v5) :: (121, v4) :: (120, v3) :: (119, (g1 t)) :: (118, (g9 t)) :: (117, v2) :: (116, v1) :: (115, v0) :: (114, (g1 t)) :: (113, (g0 t)) :: []) fun e12 => jF ((ldF v10) :: ft0 :: ft0 :: ft0 :: ft0 :: (ldF v7) :: ft0 :: ft0 :: ft0 :: (ldF v4) :: ft0 :: ft0 :: ft0 :: ft0 :: (ldF v1) :: ft0 :: ft0 :: ft0 :: ft0 :: []) fun q12 => clD c 74 [(g0 t), v2, (g9 t), v5, v8, (g3 t), v11] l h (fun v12 f12 l12 h12 => jE ((132, v12) :: e12) fun e13 => jF (f12 :: q12) fun q13 => gD Tryz.f72 72 10 20 c (p132 (p8 t (g8 t)) v12) l12 h12 (fun v13 f13 l13 h13 => finD (rgA Tryz.f72 10).toList [] [] (f13 :: q13) (k t l13 h13)) (sD Tryz.f72 72 10 c 20 none e13 q13 t l12 h12)) (sD Tryz.f72 72 10 c 19 (some 132) e12 q12 t l h))
 .ret))) (.seq (.reg fun c t l h k => bO (bin Pg .eql 3 true (g23 t) (I 2)) fun v0 => k (p133 t v0) l h)
 (.cond (.tmp 133) (.seq (.seq (.reg fun c t l h k => cl c 111 [(g0 t)] t l h fun v0 l0 h0 => k (p136 t v0) l0 h0)
 (.cond (.tmp 136) (.seq (.reg fun c t l h k => gn Tryz.f72 72 13 0 c t t l h (fun v0 l0 h0 => jn (fun v1 l1 h1 => k t l1 h1) fun j1 => sto 74 (g8 t) v0 l0 h0 j1 (gn Tryz.f72 72 13 1 c (p137 (p8 t (g8 t)) v0) t l0 h0 j1)))
 .ret) .skip))
 (.seq (.reg fun c t l h k => al Pg 74 10 l fun v0 l0 => al Pg 74 11 l0 fun v1 l1 => k (p11 (p10 t v0) v1) l1 h)
 (.seq (.seq (.reg fun c t l h k => bO (nilC (g1 t)) fun v0 => bO (fa Pg 118 v0 1) fun v1 => bO (fa Pg 51 v1 0) fun v2 => bO (ld Pg 3 v2 l h) fun v3 => k (p142 t v3) l h)
 (.block 1 (.seq (.reg fun c t l h k => bO (bin Pg .eql 3 true (g142 t) (I 22)) fun v0 => k (p173 t v0) l h)
 (.cond (.tmp 173) (.seq (.reg fun c t l h k => bO (nilC (g1 t)) fun v0 => bO (fa Pg 118 v0 1) fun v1 => bO (fa Pg 51 v1 4) fun v2 => bO (ld Pg 47 v2 l h) fun v3 => bO (ia Pg 47 v3 (I 1)) fun v4 => bO (ld Pg 51 v4 l h) fun v5 => bO (nilC (g1 t)) fun v6 => bO (fa Pg 118 v6 4) fun v7 => bO (ld Pg 106 v7 l h) fun v8 => bO (nilC (g1 t)) fun v9 => bO (fa Pg 118 v9 5) fun v10 => bO (ld Pg 80 v10 l h) fun v11 => bO (nilC (g1 t)) fun v12 => bO (fa Pg 118 v12 6) fun v13 => bO (ld Pg 116 v13 l h) fun v14 => jE ((195, v14) :: (194, v13) :: (193, v12) :: (192, (g1 t)) :: (191, (g3 t)) :: (190, v11) :: (189, v10) :: (188, v9) :: (187, (g1 t)) :: (186, v8) :: (185, v7) :: (184, v6) :: (183, (g1 t)) :: (182, v5) :: (181, v4) :: (180, v3) :: (179, v2) :: (178, v1) :: (177, v0) :: (176, (g1 t)) :: (175, (g0 t)) :: []) fun e15 => jF ((ldF v13) :: ft0 :: ft0 :: ft0 :: ft0 :: (ldF v10) :: ft0 :: ft0 :: ft0 :: (ldF v7) :: ft0 :: ft0 :: ft0 :: (ldF v4) :: ft0 :: (ldF v2) :: ft0 :: ft0 :: ft0 :: ft0 :: ft0 :: []) fun q15 => clD c 50 [(g0 t), v5, v8, v11, (g3 t), v14] l h (fun v15 f15 l15 h15 => jE ((196, v15) :: e15) fun e16 => jF (f15 :: q15) fun q16 => gD Tryz.f72 72 19 22 c (p196 (p10 t (g10 t)) v15) l15 h15 (fun v16 f16 l16 h16 => finD (rgA Tryz.f72 19).toList [] [] (f16 :: q16) (k t l16 h16)) (sD Tryz.f72 72 19 c 22 none e16 q16 t l15 h15)) (sD Tryz.f72 72 19 c 21 (some 196) e15 q15 t l h))
 (.reg fun c t l h k => bO (nilC (g1 t)) fun v0 => bO (fa Pg 118 v0 1) fun v1 => bO (fa Pg 51 v1 4) fun v2 => bO (ld Pg 47 v2 l h) fun v3 => bO (ia Pg 47 v3 (I 2)) fun v4 => bO (ld Pg 51 v4 l h) fun v5 => bO (nilC (g1 t)) fun v6 => bO (fa Pg 118 v6 4) fun v7 => bO (ld Pg 106 v7 l h) fun v8 => bO (nilC (g1 t)) fun v9 => bO (fa Pg 118 v9 5) fun v10 => bO (ld Pg 80 v10 l h) fun v11 => bO (nilC (g1 t)) fun v12 => bO (fa Pg 118 v12 6) fun v13 => bO (ld Pg 116 v13 l h) fun v14 => jE ((217, v14) :: (216, v13) :: (215, v12) :: (214, (g1 t)) :: (213, (g3 t)) :: (212, v11) :: (211, v10) :: (210, v9) :: (209, (g1 t)) :: (208, v8) :: (207, v7) :: (206, v6) :: (205, (g1 t)) :: (204, v5) :: (203, v4) :: (202, v3) :: (201, v2) :: (200, v1) :: (199, v0) :: (198, (g1 t)) :: (197, (g0 t)) :: []) fun e15 => jF ((ldF v13) :: ft0 :: ft0 :: ft0 :: ft0 :: (ldF v10) :: ft0 :: ft0 :: ft0 :: (ldF v7) :: ft0 :: ft0 :: ft0 :: (ldF v4) :: ft0 :: (ldF v2) :: ft0 :: ft0 :: ft0 :: ft0 :: ft0 :: []) fun q15 => clD c 50 [(g0 t), v5, v8, v11, (g3 t), v14] l h (fun v15 f15 l15 h15 => jE ((218, v15) :: e15) fun e16 => jF (f15 :: q15) fun q16 => gD Tryz.f72 72 20 22 c (p218 (p11 t (g11 t)) v15) l15 h15 (fun v16 f16 l16 h16 => finD (rgA Tryz.f72 20).toList [] [] (f16 :: q16) (k t l16 h16)) (sD Tryz.f72 72 20 c 22 none e16 q16 t l15 h15)) (sD Tryz.f72 72 20 c 21 (some 218) e15 q15 t l h))) (.seq (.reg fun c t l h k => bO (bin Pg .eql 3 true (g142 t) (I 18)) fun v0 => k (p219 t v0) l h)
 (.cond (.tmp 219) (.seq (.reg fun c t l h k => bO (nilC (g1 t)) fun v0 => bO (fa Pg 118 v0 1) fun v1 => bO (fa Pg 51 v1 4) fun v2 => bO (ld Pg 47 v2 l h) fun v3 => bO (ia Pg 47 v3 (I 1)) fun v4 => bO (ld Pg 51 v4 l h) fun v5 => bO (nilC (g1 t)) fun v6 => bO (fa Pg 118 v6 4) fun v7 => bO (ld Pg 106 v7 l h) fun v8 => bO (nilC (g1 t)) fun v9 => bO (fa Pg 118 v9 5) fun v10 => bO (ld Pg 80 v10 l h) fun v11 => bO (nilC (g1 t)) fun v12 => bO (fa Pg 118 v12 6) fun v13 => bO (ld Pg 116 v13 l h) fun v14 => jE ((241, v14) :: (240, v13) :: (239, v12) :: (238, (g1 t)) :: (237, (g3 t)) :: (236, v11) :: (235, v10) :: (234, v9) :: (233, (g1 t)) :: (232, v8) :: (231, v7) :: (230, v6) :: (229, (g1 t)) :: (228, v5) :: (227, v4) :: (226, v3) :: (225, v2) :: (224, v1) :: (223, v0) :: (222, (g1 t)) :: (221, (g0 t)) :: []) fun e15 => jF ((ldF v13) :: ft0 :: ft0 :: ft0 :: ft0 :: (ldF v10) :: ft0 :: ft0 :: ft0 :: (ldF v7) :: ft0 :: ft0 :: ft0 :: (ldF v4) :: ft0 :: (ldF v2) :: ft0 :: ft0 :: ft0 :: ft0 :: ft0 :: []) fun q15 => clD c 50 [(g0 t), v5, v8, v11, (g3 t), v14] l h (fun v15 f15 l15 h15 => jE ((242, v15) :: e15) fun e16 => jF (f15 :: q15) fun q16 => gD Tryz.f72 72 22 22 c (p242 (p10 t (g10 t)) v15) l15 h15 (fun v16 f16 l16 h16 => finD (rgA Tryz.f72 22).toList [] [] (f16 :: q16) (k t l16 h16)) (sD Tryz.f72 72 22 c 22 none e16 q16 t l15 h15)) (sD Tryz.f72 72 22 c 21 (some 242) e15 q15 t l h))
 (.reg fun c t l h k => bO (nilC (g1 t)) fun v0 => bO (fa Pg 118 v0 6) fun v1 => bO (ld Pg 116 v1 l h) fun v2 => jE ((247, v2) :: (246, v1) :: (245, v0) :: (244, (g1 t)) :: (243, (g0 t)) :: []) fun e3 => jF ((ldF v1) :: ft0 :: ft0 :: ft0 :: ft0 :: []) fun q3 => clD c 45 [(.bool false)] l h (fun v3 f3 l3 h3 => jE ((249, (g3 t)) :: (248, v3) :: e3) fun e4 => jF (ft0 :: f3 :: q3) fun q4 => clD c 72 [(g0 t), v2, v3, (g3 t)] l3 h3 (fun v4 f4 l4 h4 => jE ((250, v4) :: e4) fun e5 => jF (f4 :: q4) fun q5 => gD Tryz.f72 72 23 8 c (p250 (p11 t (g11 t)) v4) l4 h4 (fun v5 f5 l5 h5 => finD (rgA Tryz.f72 23).toList [] [(4, 5)] (f5 :: q5) (k t l5 h5)) (sD Tryz.f72 72 23 c 8 none e5 q5 t l4 h4)) (sD Tryz.f72 72 23 c 7 (some 250) e4 q4 t l3 h3)) (sD Tryz.f72 72 23 c 5 (some 248) e3 q3 t l h))) (.seq (.reg fun c t l h k => bO (bin Pg .eql 3 true (g142 t) (I 19)) fun v0 => k (p251 t v0) l h)
 (.cond (.tmp 251) (.seq (.reg fun c t l h k => bO (nilC (g1 t)) fun v0 => bO (fa Pg 118 v0 6) fun v1 => bO (ld Pg 116 v1 l h) fun v2 => jE ((257, v2) :: (256, v1) :: (255, v0) :: (254, (g1 t)) :: (253, (g0 t)) :: []) fun e3 => jF ((ldF v1) :: ft0 :: ft0 :: ft0 :: ft0 :: []) fun q3 => clD c 45 [(.bool true)] l h (fun v3 f3 l3 h3 => jE ((259, (g3 t)) :: (258, v3) :: e3) fun e4 => jF (ft0 :: f3 :: q3) fun q4 => clD c 72 [(g0 t), v2, v3, (g3 t)] l3 h3 (fun v4 f4 l4 h4 => jE ((260, v4) :: e4) fun e5 => jF (f4 :: q4) fun q5 => gD Tryz.f72 72 25 8 c (p260 (p10 t (g10 t)) v4) l4 h4 (fun v5 f5 l5 h5 => finD (rgA Tryz.f72 25).toList [] [(4, 5)] (f5 :: q5) (k t l5 h5)) (sD Tryz.f72 72 25 c 8 none e5 q5 t l4 h4)) (sD Tryz.f72 72 25 c 7 (some 260) e4 q4 t l3 h3)) (sD Tryz.f72 72 25 c 5 (some 258) e3 q3 t l h))
 (.reg fun c t l h k => bO (nilC (g1 t)) fun v0 => bO (fa Pg 118 v0 1) fun v1 => bO (fa Pg 51 v1 4) fun v2 => bO (ld Pg 47 v2 l h) fun v3 => bO (ia Pg 47 v3 (I 1)) fun v4 => bO (ld Pg 51 v4 l h) fun v5 => bO (nilC (g1 t)) fun v6 => bO (fa Pg 118 v6 4) fun v7 => bO (ld Pg 106 v7 l h) fun v8 => bO (nilC (g1 t)) fun v9 => bO (fa Pg 118 v9 5) fun v10 => bO (ld Pg 80 v10 l h) fun v11 => bO (nilC (g1 t)) fun v12 => bO (fa Pg 118 v12 6) fun v13 => bO (ld Pg 116 v13 l h) fun v14 => jE ((281, v14) :: (280, v13) :: (279, v12) :: (278, (g1 t)) :: (277, (g3 t)) :: (276, v11) :: (275, v10) :: (274, v9) :: (273, (g1 t)) :: (272, v8) :: (271, v7) :: (270, v6) :: (269, (g1 t)) :: (268, v5) :: (267, v4) :: (266, v3) :: (265, v2) :: (264, v1) :: (263, v0) :: (262, (g1 t)) :: (261, (g0 t)) :: []) fun e15 => jF ((ldF v13) :: ft0 :: ft0 :: ft0 :: ft0 :: (ldF v10) :: ft0 :: ft0 :: ft0 :: (ldF v7) :: ft0 :: ft0 :: ft0 :: (ldF v4) :: ft0 :: (ldF v2) :: ft0 :: ft0 :: ft0 :: ft0 :: ft0 :: []) fun q15 => clD c 50 [(g0 t), v5, v8, v11, (g3 t), v14] l h (fun v15 f15 l15 h15 => jE ((282, v15) :: e15) fun e16 => jF (f15 :: q15) fun q16 => gD Tryz.f72 72 26 22 c (p282 (p11 t (g11 t)) v15) l15 h15 (fun v16 f16 l16 h16 => finD (rgA Tryz.f72 26).toList [] [] (f16 :: q16) (k t l16 h16)) (sD Tryz.f72 72 26 c 22 none e16 q16 t l15 h15)) (sD Tryz.f72 72 26 c 21 (some 282) e15 q15 t l h))) (.seq (.reg fun c t l h k => bO (nilC (g1 t)) fun v0 => bO (fa Pg 118 v0 1) fun v1 => bO (fa Pg 51 v1 4) fun v2 => bO (ld Pg 47 v2 l h) fun v3 => bO (ia Pg 47 v3 (I 1)) fun v4 => bO (ld Pg 51 v4 l h) fun v5 => bO (nilC (g1 t)) fun v6 => bO (fa Pg 118 v6 4) fun v7 => bO (ld Pg 106 v7 l h) fun v8 => bO (nilC (g1 t)) fun v9 => bO (fa Pg 118 v9 5) fun v10 => bO (ld Pg 80 v10 l h) fun v11 => bO (nilC (g1 t)) fun v12 => bO (fa Pg 118 v12 6) fun v13 => bO (ld Pg 116 v13 l h) fun v14 => jE ((163, v14) :: (162, v13) :: (161, v12) :: (160, (g1 t)) :: (159, (g3 t)) :: (158, v11) :: (157, v10) :: (156, v9) :: (155, (g1 t)) :: (154, v8) :: (153, v7) :: (152, v6) :: (151, (g1 t)) :: (150, v5) :: (149, v4) :: (148, v3) :: (147, v2) :: (146, v1) :: (145, v0) :: (144, (g1 t)) :: (143, (g0 t)) :: []) fun e15 => jF ((ldF v13) :: ft0 :: ft0 :: ft0 :: ft0 :: (ldF v10) :: ft0 :: ft0 :: ft0 :: (ldF v7) :: ft0 :: ft0 :: ft0 :: (ldF v4) :: ft0 :: (ldF v2) :: ft0 :: ft0 :: ft0 :: ft0 :: ft0 :: []) fun q15 => clD c 50 [(g0 t), v5, v8, v11, (g3 t), v14] l h (fun v15 f15 l15 h15 => jE ((164, v15) :: e15) fun e16 => jF (f15 :: q15) fun q16 => gD Tryz.f72 72 16 22 c (p164 (p10 t (g10 t)) v15) l15 h15 (fun v16 f16 l16 h16 => finD (rgA Tryz.f72 16).toList [] [] (f16 :: q16) (k t l16 h16)) (sD Tryz.f72 72 16 c 22 none e16 q16 t l15 h15)) (sD Tryz.f72 72 16 c 21 (some 164) e15 q15 t l h))
 (.reg fun c t l h k => bO (nilC (g1 t)) fun v0 => bO (fa Pg 118 v0 6) fun v1 => bO (ld Pg 116 v1 l h) fun v2 => jE ((169, v2) :: (168, v1) :: (167, v0) :: (166, (g1 t)) :: (165, (g0 t)) :: []) fun e3 => jF ((ldF v1) :: ft0 :: ft0 :: ft0 :: ft0 :: []) fun q3 => clD c 45 [(.bool true)] l h (fun v3 f3 l3 h3 => jE ((171, (g3 t)) :: (170, v3) :: e3) fun e4 => jF (ft0 :: f3 :: q3) fun q4 => clD c 72 [(g0 t), v2, v3, (g3 t)] l3 h3 (fun v4 f4 l4 h4 => jE ((172, v4) :: e4) fun e5 => jF (f4 :: q4) fun q5 => gD Tryz.f72 72 17 8 c (p172 (p11 t (g11 t)) v4) l4 h4 (fun v5 f5 l5 h5 => finD (rgA Tryz.f72 17).toList [] [(4, 5)] (f5 :: q5) (k t l5 h5)) (sD Tryz.f72 72 17 c 8 none e5 q5 t l4 h4)) (sD Tryz.f72 72 17 c 7 (some 172) e4 q4 t l3 h3)) (sD Tryz.f72 72 17 c 5 (some 170) e3 q3 t l h)))))))))))
 (.seq (.reg fun c t l h k => bO (ld Pg 74 (g6 t) l h) fun v0 => bO (ld Pg 74 (g10 t) l h) fun v1 => jE ((284, v1) :: (283, v0) :: []) fun e2 => jF ((ldF (g10 t)) :: (ldF (g6 t)) :: []) fun q2 => gD Tryz.f72 72 27 2 c (p284 (p283 t v0) v1) l h (fun v2 f2 l2 h2 => jE ((285, v2) :: e2) fun e3 => jF (f2 :: q2) fun q3 => clD c 48 [(I 7), v2] l2 h2 (fun v3 f3 l3 h3 => bO (ld Pg 74 (g6 t) l3 h3) fun v4 => jE ((287, v4) :: (286, v3) :: e3) fun e5 => jF ((ldF (g6 t)) :: f3 :: q3) fun q5 => gD Tryz.f72 72 27 5 c (p287 t v4) l3 h3 (fun v5 f5 l5 h5 => jE ((288, v5) :: e5) fun e6 => jF (f5 :: q5) fun q6 => clD c 48 [(I 4), v5] l5 h5 (fun v6 f6 l6 h6 => bO (ld Pg 74 (g11 t) l6 h6) fun v7 => jE ((290, v7) :: (289, v6) :: e6) fun e8 => jF ((ldF (g11 t)) :: f6 :: q6) fun q8 => gD Tryz.f72 72 27 8 c (p290 (p289 t v6) v7) l6 h6 (fun v8 f8 l8 h8 => jE ((291, v8) :: e8) fun e9 => jF (f8 :: q8) fun q9 => clD c 48 [(I 7), v8] l8 h8 (fun v9 f9 l9 h9 => jE ((292, v9) :: e9) fun e10 => jF (f9 :: q9) fun q10 => gD Tryz.f72 72 27 10 c (p292 (p286 t v3) v9) l9 h9 (fun v10 f10 l10 h10 => jE ((293, v10) :: e10) fun e11 => jF (f10 :: q10) fun q11 => clD c 48 [(I 5), v10] l10 h10 (fun v11 f11 l11 h11 => jE ((294, v11) :: e11) fun e12 => jF (f11 :: q11) fun q12 => gD Tryz.f72 72 27 12 c (p294 (p8 t (g8 t)) v11) l11 h11 (fun v12 f12 l12 h12 => finD (rgA Tryz.f72 27).toList [] [(3, 4), (3, 7), (6, 7)] (f12 :: q12) (k t l12 h12)) (sD Tryz.f72 72 27 c 12 none e12 q12 t l11 h11)) (sD Tryz.f72 72 27 c 11 (some 294) e11 q11 t l10 h10)) (sD Tryz.f72 72 27 c 10 (some 293) e10 q10 t l9 h9)) (sD Tryz.f72 72 27 c 9 (some 292) e9 q9 t l8 h8)) (sD Tryz.f72 72 27 c 8 (some 291) e8 q8 t l6 h6)) (sD Tryz.f72 72 27 c 6 (some 289) e6 q6 t l5 h5)) (sD Tryz.f72 72 27 c 5 (some 288) e5 q5 t l3 h3)) (sD Tryz.f72 72 27 c 3 (some 286) e3 q3 t l2 h2)) (sD Tryz.f72 72 27 c 2 (some 285) e2 q2 t l h))
 .ret)))) (.seq (.reg fun c t l h k => bO (bin Pg .eql 3 true (g23 t) (I 3)) fun v0 => k (p295 t v0) l h)
 (.cond (.tmp 295) (.seq (.reg fun c t l h k => bO (nilC (g0 t)) fun v0 => bO (fa Pg 108 v0 0) fun v1 => bO (ld Pg 25 v1 l h) fun v2 => bO (nilC (g1 t)) fun v3 => bO (fa Pg 118 v3 1) fun v4 => bO (fa Pg 51 v4 4) fun v5 => bO (ld Pg 47 v5 l h) fun v6 => bO (ia Pg 47 v6 (I 0)) fun v7 => bO (ld Pg 51 v7 l h) fun v8 => bO (nilC (g1 t)) fun v9 => bO (fa Pg 118 v9 5) fun v10 => bO (ld Pg 80 v10 l h) fun v11 => jE ((312, v11) :: (311, v10) :: (310, v9) :: (309, (g1 t)) :: (308, v8) :: (307, v7) :: (306, v6) :: (305, v5) :: (304, v4) :: (303, v3) :: (302, (g1 t)) :: (301, v2) :: (300, v1) :: (299, v0) :: (298, (g0 t)) :: []) fun e12 => jF ((ldF v10) :: ft0 :: ft0 :: ft0 :: (ldF v7) :: ft0 :: (ldF v5) :: ft0 :: ft0 :: ft0 :: ft0 :: (ldF v1) :: ft0 :: ft0 :: ft0 :: []) fun q12 => clD c 104 [v2, v8, v11] l h (fun v12 f12 l12 h12 => bO (ext v12 0) fun v13 => bO (ext v12 1) fun v14 => bO (ext v12 2) fun v15 => finD (rgA Tryz.f72 29).toList [] [] (ft0 :: ft0 :: ft0 :: ft0 :: ft0 :: ft0 :: ft0 :: f12 :: q12) (k (p12 t v13) l12 h12)) (sD Tryz.f72 72 29 c 15 (some 313) e12 q12 t l h))
 (.seq (.reg fun c t l h k => bO (nilC (g1 t)) fun v0 => bO (fa Pg 118 v0 1) fun v1 => bO (fa Pg 51 v1 4) fun v2 => bO (ld Pg 47 v2 l h) fun v3 => bO (ia Pg 47 v3 (I 1)) fun v4 => bO (ld Pg 51 v4 l h) fun v5 => bO (nilC (g1 t)) fun v6 => bO (fa Pg 118 v6 4) fun v7 => bO (ld Pg 106 v7 l h) fun v8 => bO (nilC (g1 t)) fun v9 => bO (fa Pg 118 v9 4) fun v10 => bO (ld Pg 106 v10 l h) fun v11 => bO (len (Pg.underlying 106) v11) fun v12 => bO (nilC (g1 t)) fun v13 => bO (fa Pg 118 v13 4) fun v14 => bO (ld Pg 106 v14 l h) fun v15 => bO (len (Pg.underlying 106) v15) fun v16 => bO (slc Pg 106 v8 none (some v12) (some v16)) fun v17 => bO (ld Pg 74 (g6 t) l h) fun v18 => jE ((340, v18) :: (339, v17) :: (338, v16) :: (337, v15) :: (336, v14) :: (335, v13) :: (334, (g1 t)) :: (333, v12) :: (332, v11) :: (331, v10) :: (330, v9) :: (329, (g1 t)) :: (328, v8) :: (327, v7) :: (326, v6) :: (325, (g1 t)) :: (324, v5) :: (323, v4) :: (322, v3) :: (321, v2) :: (320, v1) :: (319, v0) :: (318, (g1 t)) :: (317, (g0 t)) :: []) fun e19 => jF ((ldF (g6 t)) :: ft0 :: ft0 :: (ldF v14) :: ft0 :: ft0 :: ft0 :: ft0 :: (ldF v10) :: ft0 :: ft0 :: ft0 :: (ldF v7) :: ft0 :: ft0 :: ft0 :: (ldF v4) :: ft0 :: (ldF v2) :: ft0 :: ft0 :: ft0 :: ft0 :: ft0 :: []) fun q19 => gD Tryz.f72 72 30 24 c (p340 t v18) l h (fun v19 f19 l19 h19 => jE ((341, v19) :: e19) fun e20 => jF (f19 :: q19) fun q20 => gD Tryz.f72 72 30 25 c (p341 (p339 t v17) v19) l19 h19 (fun v20 f20 l20 h20 => bO (nilC (g1 t)) fun v21 => bO (fa Pg 118 v21 5) fun v22 => bO (ld Pg 80 v22 l20 h20) fun v23 => bO (nilC (g1 t)) fun v24 => bO (fa Pg 118 v24 5) fun v25 => bO (ld Pg 80 v25 l20 h20) fun v26 => bO (len (Pg.underlying 80) v26) fun v27 => bO (nilC (g1 t)) fun v28 => bO (fa Pg 118 v28 5) fun v29 => bO (ld Pg 80 v29 l20 h20) fun v30 => bO (len (Pg.underlying 80) v30) fun v31 => bO (slc Pg 80 v23 none (some v27) (some v31)) fun v32 => jE ((358, (g12 t)) :: (357, v32) :: (356, v31) :: (355, v30) :: (354, v29) :: (353, v28) :: (352, (g1 t)) :: (351, v27) :: (350, v26) :: (349, v25) :: (348, v24) :: (347, (g1 t)) :: (346, v23) :: (345, v22) :: (344, v21) :: (343, (g1 t)) :: (342, v20) :: e20) fun e33 => jF (ft0 :: ft0 :: ft0 :: (ldF v29) :: ft0 :: ft0 :: ft0 :: ft0 :: (ldF v25) :: ft0 :: ft0 :: ft0 :: (ldF v22) :: ft0 :: ft0 :: ft0 :: f20 :: q20) fun q33 => gD Tryz.f72 72 30 42 c (p358 t (g12 t)) l20 h20 (fun v33 f33 l33 h33 => jE ((359, v33) :: e33) fun e34 => jF (f33 :: q33) fun q34 => gD Tryz.f72 72 30 43 c (p359 (p357 t v32) v33) l33 h33 (fun v34 f34 l34 h34 => bO (nilC (g1 t)) fun v35 => bO (fa Pg 118 v35 6) fun v36 => bO (ld Pg 116 v36 l34 h34) fun v37 => jE ((365, v37) :: (364, v36) :: (363, v35) :: (362, (g1 t)) :: (361, (g3 t)) :: (360, v34) :: e34) fun e38 => jF ((ldF v36) :: ft0 :: ft0 :: ft0 :: ft0 :: f34 :: q34) fun q38 => clD c 50 [(g0 t), v5, v20, v34, (g3 t), v37] l34 h34 (fun v38 f38 l38 h38 => jE ((366, v38) :: e38) fun e39 => jF (f38 :: q38) fun q39 => gD Tryz.f72 72 30 50 c (p366 (p8 t (g8 t)) v38) l38 h38 (fun v39 f39 l39 h39 => finD (rgA Tryz.f72 30).toList [(5, 25), (7, 25), (25, 29), (25, 33), (25, 38), (5, 43), (7, 43), (25, 48), (43, 48)] [(5, 25), (7, 25), (25, 29), (25, 33), (25, 38), (5, 43), (7, 43), (25, 48), (43, 48)] (f39 :: q39) (k t l39 h39)) (sD Tryz.f72 72 30 c 50 none e39 q39 t l38 h38)) (sD Tryz.f72 72 30 c 49 (some 366) e38 q38 t l34 h34)) (sD Tryz.f72 72 30 c 43 (some 360) e34 q34 t l33 h33)) (sD Tryz.f72 72 30 c 42 (some 359) e33 q33 t l20 h20)) (sD Tryz.f72 72 30 c 25 (some 342) e20 q20 t l19 h19)) (sD Tryz.f72 72 30 c 24 (some 341) e19 q19 t l h))
 .ret)) .skip))))))))))
 (.seq (.reg fun c t l h k => bO (nilC (g1 t)) fun v0 => bO (fa Pg 118 v0 6) fun v1 => bO (ld Pg 116 v1 l h) fun v2 => bO (ld Pg 74 (g6 t) l h) fun v3 => jE ((373, (g3 t)) :: (372, v3) :: (371, v2) :: (370, v1) :: (369, v0) :: (368, (g1 t)) :: (367, (g0 t)) :: []) fun e4 => jF (ft0 :: (ldF (g6 t)) :: (ldF v1) :: ft0 :: ft0 :: ft0 :: ft0 :: []) fun q4 => clD c 72 [(g0 t), v2, v3, (g3 t)] l h (fun v4 f4 l4 h4 => jE ((374, v4) :: e4) fun e5 => jF (f4 :: q4) fun q5 => gD Tryz.f72 72 31 8 c (p374 (p8 t (g8 t)) v4) l4 h4 (fun v5 f5 l5 h5 => finD (rgA Tryz.f72 31).toList [] [] (f5 :: q5) (k t l5 h5)) (sD Tryz.f72 72 31 c 8 none e5 q5 t l4 h4)) (sD Tryz.f72 72 31 c 7 (some 374) e4 q4 t l h))
 .ret))))

def kp73 : List Nat := [0, 1, 2]
def rc73 : RC := (.seq (.reg fun c t l h k => gn Tryz.f73 73 0 0 c (p0 t (g0 t)) t l h (fun v0 l0 h0 => al Pg 74 2 l0 fun v1 l1 => k (p2 (p1 t v0) v1) l1 h0))
 (.seq (.reg fun c t l h k => bO (ld Pg 139 (g1 t) l h) fun v0 => cl c 112 [v0] t l h fun v1 l1 h1 => gn Tryz.f73 73 1 2 c (p4 t v1) t l1 h1 (fun v2 l2 h2 => gn Tryz.f73 73 1 3 c (p5 t v2) t l2 h2 (fun v3 l3 h3 => jn (fun v4 l4 h4 => k t l4 h4) fun j4 => sto 74 (g2 t) v3 l3 h3 j4 (gn Tryz.f73 73 1 4 c (p6 (p2 t (g2 t)) v3) t l3 h3 j4))))
 .ret))

def kp74 : List Nat := [0, 1, 2, 3, 4, 5, 6, 8, 14, 15, 17, 18, 27, 34, 49, 60, 74, 85, 96, 110, 119, 135, 144, 147, 159]
def rc74 : RC := (.seq (.reg fun c t l h k => gn Tryz.f74 74 0 0 c (p1 t (g1 t)) t l h (fun v0 l0 h0 => al Pg 74 14 l0 fun v1 l1 => k (p14 (p8 t v0) v1) l1 h0))
 (.seq (.seq (.reg fun c t l h k => bO (fa Pg 51 (g8 t) 0) fun v0 => bO (ld Pg 3 v0 l h) fun v1 => k (p17 t v1) l h)
 (.block 0 (.seq (.reg fun c t l h k => bO (bin Pg .eql 3 true (g17 t) (I 2)) fun v0 => k (p18 t v0) l h)
 (.cond (.tmp 18) (.seq (.reg fun c t l h k => bO (fa Pg 51 (g8 t) 3) fun v0 => bO (ld Pg 4 v0 l h) fun v1 => cl c 45 [v1] t l h fun v2 l2 h2 => cl c 72 [(g0 t), (g6 t), v2, (g5 t)] t l2 h2 fun v3 l3 h3 => jn (fun v4 l4 h4 => k t l4 h4) fun j4 => sto 74 (g14 t) v3 l3 h3 j4 (gn Tryz.f74 74 3 7 c (p26 (p14 t (g14 t)) v3) t l3 h3 j4))
 .ret) (.seq (.reg fun c t l h k => bO (bin Pg .eql 3 true (g17 t) (I 3)) fun v0 => k (p27 t v0) l h)
 (.cond (.tmp 27) (.seq (.reg fun c t l h k => cl c 45 [(.bool true)] t l h fun v0 l0 h0 => cl c 72 [(g0 t), (g6 t), v0, (g5 t)] t l0 h0 fun v1 l1 h1 => jn (fun v2 l2 h2 => k t l2 h2) fun j2 => sto 74 (g14 t) v1 l1 h1 j2 (gn Tryz.f74 74 5 5 c (p33 (p14 t (g14 t)) v1) t l1 h1 j2))
 .ret) (.seq (.reg fun c t l h k => bO (bin Pg .eql 3 true (g17 t) (I 4)) fun v0 => k (p34 t v0) l h)
 (.cond (.tmp 34) (.seq (.reg fun c t l h k => bO (len (Pg.underlying 106) (g3 t)) fun v0 => bO (bin Pg .sub 3 true v0 (I 1)) fun v1 => bO (fa Pg 51 (g8 t) 5) fun v2 => bO (ld Pg 3 v2 l h) fun v3 => bO (bin Pg .sub 3 false v1 v3) fun v4 => bO (ia Pg 106 (g3 t) v4) fun v5 => bO (ld Pg 74 v5 l h) fun v6 => cl c 72 [(g0 t), (g6 t), v6, (g5 t)] t l h fun v7 l7 h7 => jn (fun v8 l8 h8 => k t l8 h8) fun j8 => sto 74 (g14 t) v7 l7 h7 j8 (gn Tryz.f74 74 7 13 c (p48 (p14 t (g14 t)) v7) t l7 h7 j8))
 .ret) (.seq (.reg fun c t l h k => bO (bin Pg .eql 3 true (g17 t) (I 5)) fun v0 => k (p49 t v0) l h)
 (.cond (.tmp 49) (.seq (.reg fun c t l h k => bO (fa Pg 51 (g8 t) 5) fun v0 => bO (ld Pg 3 v0 l h) fun v1 => bO (ia Pg 106 (g5 t) v1) fun v2 => bO (ld Pg 74 v2 l h) fun v3 => cl c 72 [(g0 t), (g6 t), v3, (g5 t)] t l h fun v4 l4 h4 => jn (fun v5 l5 h5 => k t l5 h5) fun j5 => sto 74 (g14 t) v4 l4 h4 j5 (gn Tryz.f74 74 9 9 c (p59 (p14 t (g14 t)) v4) t l4 h4 j5))
 .ret) (.seq (.reg fun c t l h k => bO (bin Pg .eql 3 true (g17 t) (I 6)) fun v0 => k (p60 t v0) l h)
 (.cond (.tmp 60) (.seq (.reg fun c t l h k => bO (nilC (g0 t)) fun v0 => bO (fa Pg 108 v0 5) fun v1 => bO (ld Pg 106 v1 l h) fun v2 => bO (fa Pg 51 (g8 t) 5) fun v3 => bO (ld Pg 3 v3 l h) fun v4 => bO (ia Pg 106 v2 v4) fun v5 => bO (ld Pg 74 v5 l h) fun v6 => jE ((72, (g5 t)) :: (71, v6) :: (70, v5) :: (69, v4) :: (68, v3) :: (67, v2) :: (66, v1) :: (65, v0) :: (64, (g0 t)) :: (63, (g6 t)) :: (62, (g0 t)) :: []) fun e7 => jF (ft0 :: (ldF v5) :: ft0 :: (ldF v3) :: ft0 :: (ldF v1) :: ft0 :: ft0 :: ft0 :: ft0 :: ft0 :: []) fun q7 => clD c 72 [(g0 t), (g6 t), v6, (g5 t)] l h (fun v7 f7 l7 h7 => jE ((73, v7) :: e7) fun e8 => jF (f7 :: q7) fun q8 => gD Tryz.f74 74 11 12 c (p73 (p14 t (g14 t)) v7) l7 h7 (fun v8 f8 l8 h8 => finD (rgA Tryz.f74 11).toList [] [] (f8 :: q8) (k t l8 h8)) (sD Tryz.f74 74 11 c 12 none e8 q8 t l7 h7)) (sD Tryz.f74 74 11 c 11 (some 73) e7 q7 t l h))
 .ret) (.seq (.reg fun c t l h k => bO (bin Pg .eql 3 true (g17 t) (I 7)) fun v0 => k (p74 t v0) l h)
 (.cond (.tmp 74) (.seq (.reg fun c t l h k => bO (ia Pg 106 (g2 t) (I 0)) fun v0 => bO (ld Pg 74 v0 l h) fun v1 => bO (bs Pg 106 1 [(0, v1)]) fun v2 => cl c 48 [(I 14), v2] t l h fun v3 l3 h3 => cl c 72 [(g0 t), (g6 t), v3, (g5 t)] t l3 h3 fun v4 l4 h4 => jn (fun v5 l5 h5 => k t l5 h5) fun j5 => sto 74 (g14 t) v4 l4 h4 j5 (gn Tryz.f74 74 13 9 c (p84 (p14 t (g14 t)) v4) t l4 h4 j5))
 .ret) (.seq (.reg fun c t l h k => bO (bin Pg .eql 3 true (g17 t) (I 8)) fun v0 => k (p85 t v0) l h)
 (.cond (.tmp 85) (.seq (.reg fun c t l h k => bO (ia Pg 106 (g2 t) (I 0)) fun v0 => bO (ld Pg 74 v0 l h) fun v1 => bO (bs Pg 106 1 [(0, v1)]) fun v2 => cl c 48 [(I 4), v2] t l h fun v3 l3 h3 => cl c 72 [(g0 t), (g6 t), v3, (g5 t)] t l3 h3 fun v4 l4 h4 => jn (fun v5 l5 h5 => k t l5 h5) fun j5 => sto 74 (g14 t) v4 l4 h4 j5 (gn Tryz.f74 74 15 9 c (p95 (p14 t (g14 t)) v4) t l4 h4 j5))
 .ret) (.seq (.reg fun c t l h k => bO (bin Pg .eql 3 true (g17 t) (I 9)) fun v0 => k (p96 t v0) l h)
 (.cond (.tmp 96) (.seq (.reg fun c t l h k => bO (ld Pg 51 (g8 t) l h) fun v0 => bO (ia Pg 106 (g2 t) (I 0)) fun v1 => bO (ld Pg 74 v1 l h) fun v2 => bO (ia Pg 106 (g2 t) (I 1)) fun v3 => bO (ld Pg 74 v3 l h) fun v4 => jE ((106, v4) :: (105, v3) :: (104, (g2 t)) :: (103, v2) :: (102, v1) :: (101, (g2 t)) :: (100, v0) :: (99, (g6 t)) :: (98, (g0 t)) :: []) fun e5 => jF ((ldF v3) :: ft0 :: ft0 :: (ldF v1) :: ft0 :: ft0 :: (ldF (g8 t)) :: ft0 :: ft0 :: []) fun q5 => clD c 105 [v0, v2, v4] l h (fun v5 f5 l5 h5 => jE ((108, (g5 t)) :: (107, v5) :: e5) fun e6 => jF (ft0 :: f5 :: q5) fun q6 => clD c 72 [(g0 t), (g6 t), v5, (g5 t)] l5 h5 (fun v6 f6 l6 h6 => jE ((109, v6) :: e6) fun e7 => jF (f6 :: q6) fun q7 => gD Tryz.f74 74 17 12 c (p109 (p14 t (g14 t)) v6) l6 h6 (fun v7 f7 l7 h7 => finD (rgA Tryz.f74 17).toList [] [] (f7 :: q7) (k t l7 h7)) (sD Tryz.f74 74 17 c 12 none e7 q7 t l6 h6)) (sD Tryz.f74 74 17 c 11 (some 109) e6 q6 t l5 h5)) (sD Tryz.f74 74 17 c 9 (some 107) e5 q5 t l h))
 .ret) (.seq (.reg fun c t l h k => bO (bin Pg .eql 3 true (g17 t) (I 24)) fun v0 => k (p110 t v0) l h)
 (.cond (.tmp 110) (.seq (.reg fun c t l h k => bO (ia Pg 106 (g2 t) (I 1)) fun v0 => bO (ld Pg 74 v0 l h) fun v1 => cl c 72 [(g0 t), (g6 t), v1, (g5 t)] t l h fun v2 l2 h2 => jn (fun v3 l3 h3 => k t l3 h3) fun j3 => sto 74 (g14 t) v2 l2 h2 j3 (gn Tryz.f74 74 19 7 c (p118 (p14 t (g14 t)) v2) t l2 h2 j3))
 .ret) (.seq (.reg fun c t l h k => bO (bin Pg .eql 3 true (g17 t) (I 25)) fun v0 => k (p119 t v0) l h)
 (.cond (.tmp 119) (.seq (.reg fun c t l h k => gn Tryz.f74 74 21 1 c (p121 t (g5 t)) t l h (fun v0 l0 h0 => k (p15 t v0) l0 h0))
 (.seq (.reg fun c t l h k => bO (fa Pg 51 (g8 t) 5) fun v0 => bO (ld Pg 3 v0 l h) fun v1 => bO (ia Pg 106 (g2 t) (I 0)) fun v2 => bO (ld Pg 74 v2 l h) fun v3 => bO (ia Pg 106 (g15 t) v1) fun v4 => jE ((129, v4) :: (128, v3) :: (127, v2) :: (126, (g2 t)) :: (125, v1) :: (124, v0) :: (123, (g15 t)) :: []) fun e5 => jF (ft0 :: (ldF v2) :: ft0 :: ft0 :: (ldF v0) :: ft0 :: ft0 :: []) fun q5 => gD Tryz.f74 74 22 7 c (p128 (p129 t v4) v3) l h (fun v5 f5 l5 h5 => finD (rgA Tryz.f74 22).toList [] [] (f5 :: q5) (k t l5 h5)) (sD Tryz.f74 74 22 c 7 none e5 q5 t l h))
 (.seq (.reg fun c t l h k => cl c 45 [(.bool true)] t l h fun v0 l0 h0 => cl c 72 [(g0 t), (g6 t), v0, (g15 t)] t l0 h0 fun v1 l1 h1 => jn (fun v2 l2 h2 => k t l2 h2) fun j2 => sto 74 (g14 t) v1 l1 h1 j2 (gn Tryz.f74 74 23 5 c (p134 (p14 t (g14 t)) v1) t l1 h1 j2))
 .ret))) (.seq (.reg fun c t l h k => bO (bin Pg .eql 3 true (g17 t) (I 26)) fun v0 => k (p135 t v0) l h)
 (.cond (.tmp 135) (.seq (.reg fun c t l h k => bO (ia Pg 106 (g2 t) (I 0)) fun v0 => bO (ld Pg 74 v0 l h) fun v1 => cl c 113 [(g0 t), (g6 t), v1, (g5 t)] t l h fun v2 l2 h2 => jn (fun v3 l3 h3 => k t l3 h3) fun j3 => sto 74 (g14 t) v2 l2 h2 j3 (gn Tryz.f74 74 25 7 c (p143 (p14 t (g14 t)) v2) t l2 h2 j3))
 .ret) (.seq (.reg fun c t l h k => bO (bin Pg .eql 3 true (g17 t) (I 28)) fun v0 => k (p144 t v0) l h)
 (.cond (.tmp 144) (.seq (.seq (.reg fun c t l h k => cl c 111 [(g0 t)] t l h fun v0 l0 h0 => k (p147 t v0) l0 h0)
 (.cond (.tmp 147) (.seq (.reg fun c t l h k => gn Tryz.f74 74 28 0 c t t l h (fun v0 l0 h0 => jn (fun v1 l1 h1 => k t l1 h1) fun j1 => sto 74 (g14 t) v0 l0 h0 j1 (gn Tryz.f74 74 28 1 c (p148 (p14 t (g14 t)) v0) t l0 h0 j1)))
 .ret) .skip))
 (.seq (.reg fun c t l h k => bO (ia Pg 106 (g2 t) (I 0)) fun v0 => bO (ld Pg 74 v0 l h) fun v1 => jE ((153, (g6 t)) :: (152, (g0 t)) :: (151, v1) :: (150, v0) :: (149, (g2 t)) :: []) fun e2 => jF (ft0 :: ft0 :: (ldF v0) :: ft0 :: ft0 :: []) fun q2 => clD c 45 [(.bool true)] l h (fun v2 f2 l2 h2 => jE ((155, (g5 t)) :: (154, v2) :: e2) fun e3 => jF (ft0 :: f2 :: q2) fun q3 => clD c 72 [(g0 t), (g6 t), v2, (g5 t)] l2 h2 (fun v3 f3 l3 h3 => jE ((156, v3) :: e3) fun e4 => jF (f3 :: q3) fun q4 => gD Tryz.f74 74 29 8 c (p156 (p151 t v1) v3) l3 h3 (fun v4 f4 l4 h4 => jE ((157, v4) :: e4) fun e5 => jF (f4 :: q4) fun q5 => clD c 48 [(I 5), v4] l4 h4 (fun v5 f5 l5 h5 => jE ((158, v5) :: e5) fun e6 => jF (f5 :: q5) fun q6 => gD Tryz.f74 74 29 10 c (p158 (p14 t (g14 t)) v5) l5 h5 (fun v6 f6 l6 h6 => finD (rgA Tryz.f74 29).toList [] [(2, 5), (2, 7)] (f6 :: q6) (k t l6 h6)) (sD Tryz.f74 74 29 c 10 none e6 q6 t l5 h5)) (sD Tryz.f74 74 29 c 9 (some 158) e5 q5 t l4 h4)) (sD Tryz.f74 74 29 c 8 (some 157) e4 q4 t l3 h3)) (sD Tryz.f74 74 29 c 7 (some 156) e3 q3 t l2 h2)) (sD Tryz.f74 74 29 c 5 (some 154) e2 q2 t l h))
 .ret)) (.seq (.reg fun c t l h k => bO (bin Pg .eql 3 true (g17 t) (I 21)) fun v0 => k (p159 t v0) l h)
 (.cond (.tmp 159) (.seq (.reg fun c t l h k => bO (ld Pg 51 (g8 t) l h) fun v0 => cl c 114 [(g0 t), v0, (g2 t), (g5 t), (g6 t)] t l h fun v1 l1 h1 => jn (fun v2 l2 h2 => k t l2 h2) fun j2 => sto 74 (g14 t) v1 l1 h1 j2 (gn Tryz.f74 74 31 6 c (p166 (p14 t (g14 t)) v1) t l1 h1 j2))
 .ret) .skip))))))))))))))))))))))))))))
 (.seq (.reg fun c t l h k => bO (fa Pg 51 (g8 t) 0) fun v0 => bO (ld Pg 3 v0 l h) fun v1 => bO (ia Pg 106 (g2 t) (I 0)) fun v2 => bO (ld Pg 74 v2 l h) fun v3 => bO (ia Pg 106 (g2 t) (I 1)) fun v4 => bO (ld Pg 74 v4 l h) fun v5 => jE ((176, v5) :: (175, v4) :: (174, (g2 t)) :: (173, v3) :: (172, v2) :: (171, (g2 t)) :: (170, v1) :: (169, v0) :: (168, (g6 t)) :: (167, (g0 t)) :: []) fun e6 => jF ((ldF v4) :: ft0 :: ft0 :: (ldF v2) :: ft0 :: ft0 :: (ldF v0) :: ft0 :: ft0 :: ft0 :: []) fun q6 => clD c 107 [v1, v3, v5] l h (fun v6 f6 l6 h6 => jE ((178, (g5 t)) :: (177, v6) :: e6) fun e7 => jF (ft0 :: f6 :: q6) fun q7 => clD c 72 [(g0 t), (g6 t), v6, (g5 t)] l6 h6 (fun v7 f7 l7 h7 => jE ((179, v7) :: e7) fun e8 => jF (f7 :: q7) fun q8 => gD Tryz.f74 74 32 13 c (p179 (p14 t (g14 t)) v7) l7 h7 (fun v8 f8 l8 h8 => finD (rgA Tryz.f74 32).toList [] [] (f8 :: q8) (k t l8 h8)) (sD Tryz.f74 74 32 c 13 none e8 q8 t l7 h7)) (sD Tryz.f74 74 32 c 12 (some 179) e7 q7 t l6 h6)) (sD Tryz.f74 74 32 c 10 (some 177) e6 q6 t l h))
 .ret)))

end
end Go.AM.S
