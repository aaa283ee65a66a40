/- Part Tb of the proof: what it says stands at its theorems. -/
import Derived.Test.YtdaimjlegjhidaaDoorProg
import Derived.Test.YtdaimjlegjhidaaDoorAm3
import Derived.KernelRfl
set_option linter.unusedVariables false
set_option linter.unusedSimpArgs false
set_option linter.unusedSectionVars false
section
/- The functions of a seat as closures. Printed by mkT.py. -/
namespace Go.AM.S
open _root_.Go.AM.G (R)
open Go Go.AM Go.Proofs
set_option linter.unusedVariables false
set_option maxRecDepth 100000
noncomputable abbrev Pg : Program := Tryd.prog
def lkD {α : Type} (d : α) (l : List (Nat × α)) (i : Nat) : α := (lkL l i).getD d
def cArr : List Nat := []
def cUse : List Nat := [4, 5, 11, 13, 14, 17, 18, 20, 21, 23, 24, 25, 31, 32, 33, 42, 43, 44, 45, 46, 57, 58, 59, 60, 65, 66, 67, 68, 69, 70, 71, 72, 73, 91, 92, 100, 102, 108, 109, 110, 111, 112]
def cGlob : List (Nat × List Nat) := [(13, [10, 63, 74]), (14, [4]), (24, [22]), (32, [15])]
def cPairs : List (Nat × List (Nat × List (Nat × Nat))) := [(5, [(17, [(3, 8), (7, 8), (3, 9), (7, 9), (8, 9), (7, 10)]), (23, [(5, 8), (7, 8)])]), (33, [(10, [(3, 10)]), (16, [(3, 10)]), (18, [(2, 8)])]), (46, [(19, [(3, 5)])])]
def cPairsH : List (Nat × List (Nat × List (Nat × Nat))) := [(5, [(17, [(3, 8), (7, 8), (3, 9), (7, 9), (8, 9), (7, 10)]), (23, [(5, 8), (7, 8)])]), (33, [(10, [(3, 5), (5, 8), (3, 10)]), (16, [(3, 5), (5, 8), (3, 10)]), (18, [(2, 4), (4, 6), (2, 8)])]), (46, [(19, [(3, 5)])]), (60, [(8, [(1, 3)])])]
def Cg : Cfg := { isArr := fun t => cArr.contains t, use := fun f => cUse.contains f, glob := fun f t => (lkD [] cGlob f).contains t, pairs := fun f i => lkD [] (lkD [] cPairs f) i, pairsH := fun f i => lkD [] (lkD [] cPairsH f) i }
noncomputable section
def I (n : Nat) : V := .int .i64 (.ofNat n)
def gl (f : Tm → V) (tm : Tm) : V := Tr.rec (motive := fun _ => V) .dead (fun _ l _ _ _ => f l) tm
def gr (f : Tm → V) (tm : Tm) : V := Tr.rec (motive := fun _ => V) .dead (fun _ _ r _ _ => f r) tm
def pl (f : Tm → V → Tm) (tm : Tm) (w : V) : Tm := Tr.rec (motive := fun _ => Tm) (.nd none (f .lf w) .lf) (fun v l r _ _ => .nd v (f l w) r) tm
def pr (f : Tm → V → Tm) (tm : Tm) (w : V) : Tm := Tr.rec (motive := fun _ => Tm) (.nd none .lf (f .lf w)) (fun v l r _ _ => .nd v l (f r w)) tm
def gn (F : Func) (f id i : Nat) (call : CallF) := gen Pg Cg call (Cg.glob f) (opA F id i)
def gD (F : Func) (f id i : Nat) (call : CallF) := genD Pg Cg call (Cg.glob f) (opA F id i)
def sD (F : Func) (f id : Nat) (call : CallF) := stopD Pg Cg call (Cg.glob f) (rgA F id) (Cg.pairs f id) (Cg.pairsH f id)
def sto (t : Nat) (a x : V) (loc : Lo) (hp : Hp) (j : V → Lo → Hp → R) (slow : R) : R := G.onPtr a (fun r off => G.onRef r (fun s g => stL Pg t s g off x loc (fun loc => j (.tuple []) loc hp)) (fun _ => slow)) (fun _ => none) none
def jE (c : List (Nat × V)) (f : List (Nat × V) → R) : R := f c
def jF (c : List Foot) (f : List Foot → R) : R := f c
def g0 (tm : Tm) : V := Tr.rec (motive := fun _ => V) .dead (fun v _ _ _ _ => Option.rec (motive := fun _ => V) .dead (fun a => a) v) tm
def g1 : Tm → V := gl g0
def g2 : Tm → V := gr g0
def g3 : Tm → V := gl g1
def g4 : Tm → V := gr g1
def g5 : Tm → V := gl g2
def g6 : Tm → V := gr g2
def g7 : Tm → V := gl g3
def g8 : Tm → V := gr g3
def g9 : Tm → V := gl g4
def g10 : Tm → V := gr g4
def g11 : Tm → V := gl g5
def g12 : Tm → V := gr g5
def g13 : Tm → V := gl g6
def g14 : Tm → V := gr g6
def g15 : Tm → V := gl g7
def g16 : Tm → V := gr g7
def g17 : Tm → V := gl g8
def g18 : Tm → V := gr g8
def g19 : Tm → V := gl g9
def g20 : Tm → V := gr g9
def g23 : Tm → V := gl g11
def g48 : Tm → V := gr g23
def g97 : Tm → V := gl g48
def p0 (tm : Tm) (w : V) : Tm := Tr.rec (motive := fun _ => Tm) (.nd (some w) .lf .lf) (fun _ l r _ _ => .nd (some w) l r) tm
def p1 : Tm → V → Tm := pl p0
def p2 : Tm → V → Tm := pr p0
def p3 : Tm → V → Tm := pl p1
def p4 : Tm → V → Tm := pr p1
def p5 : Tm → V → Tm := pl p2
def p6 : Tm → V → Tm := pr p2
def p7 : Tm → V → Tm := pl p3
def p8 : Tm → V → Tm := pr p3
def p9 : Tm → V → Tm := pl p4
def p10 : Tm → V → Tm := pr p4
def p11 : Tm → V → Tm := pl p5
def p12 : Tm → V → Tm := pr p5
def p13 : Tm → V → Tm := pl p6
def p14 : Tm → V → Tm := pr p6
def p15 : Tm → V → Tm := pl p7
def p16 : Tm → V → Tm := pr p7
def p17 : Tm → V → Tm := pl p8
def p18 : Tm → V → Tm := pr p8
def p19 : Tm → V → Tm := pl p9
def p20 : Tm → V → Tm := pr p9
def p21 : Tm → V → Tm := pl p10
def p22 : Tm → V → Tm := pr p10
def p23 : Tm → V → Tm := pl p11
def p24 : Tm → V → Tm := pr p11
def p25 : Tm → V → Tm := pl p12
def p26 : Tm → V → Tm := pr p12
def p27 : Tm → V → Tm := pl p13
def p28 : Tm → V → Tm := pr p13
def p29 : Tm → V → Tm := pl p14
def p30 : Tm → V → Tm := pr p14
def p31 : Tm → V → Tm := pl p15
def p32 : Tm → V → Tm := pr p15
def p33 : Tm → V → Tm := pl p16
def p34 : Tm → V → Tm := pr p16
def p35 : Tm → V → Tm := pl p17
def p36 : Tm → V → Tm := pr p17
def p37 : Tm → V → Tm := pl p18
def p38 : Tm → V → Tm := pr p18
def p39 : Tm → V → Tm := pl p19
def p40 : Tm → V → Tm := pr p19
def p41 : Tm → V → Tm := pl p20
def p42 : Tm → V → Tm := pr p20
def p43 : Tm → V → Tm := pl p21
def p44 : Tm → V → Tm := pr p21
def p45 : Tm → V → Tm := pl p22
def p46 : Tm → V → Tm := pr p22
def p47 : Tm → V → Tm := pl p23
def p48 : Tm → V → Tm := pr p23
def p49 : Tm → V → Tm := pl p24
def p50 : Tm → V → Tm := pr p24
def p51 : Tm → V → Tm := pl p25
def p52 : Tm → V → Tm := pr p25
def p53 : Tm → V → Tm := pl p26
def p54 : Tm → V → Tm := pr p26
def p55 : Tm → V → Tm := pl p27
def p56 : Tm → V → Tm := pr p27
def p57 : Tm → V → Tm := pl p28
def p58 : Tm → V → Tm := pr p28
def p59 : Tm → V → Tm := pl p29
def p60 : Tm → V → Tm := pr p29
def p61 : Tm → V → Tm := pl p30
def p62 : Tm → V → Tm := pr p30
def p63 : Tm → V → Tm := pl p31
def p64 : Tm → V → Tm := pr p31
def p65 : Tm → V → Tm := pl p32
def p66 : Tm → V → Tm := pr p32
def p67 : Tm → V → Tm := pl p33
def p68 : Tm → V → Tm := pr p33
def p69 : Tm → V → Tm := pl p34
def p70 : Tm → V → Tm := pr p34
def p71 : Tm → V → Tm := pl p35
def p72 : Tm → V → Tm := pr p35
def p73 : Tm → V → Tm := pl p36
def p74 : Tm → V → Tm := pr p36
def p75 : Tm → V → Tm := pl p37
def p76 : Tm → V → Tm := pr p37
def p77 : Tm → V → Tm := pl p38
def p78 : Tm → V → Tm := pr p38
def p79 : Tm → V → Tm := pl p39
def p80 : Tm → V → Tm := pr p39
def p81 : Tm → V → Tm := pl p40
def p82 : Tm → V → Tm := pr p40
def p83 : Tm → V → Tm := pl p41
def p84 : Tm → V → Tm := pr p41
def p85 : Tm → V → Tm := pl p42
def p86 : Tm → V → Tm := pr p42
def p87 : Tm → V → Tm := pl p43
def p88 : Tm → V → Tm := pr p43
def p89 : Tm → V → Tm := pl p44
def p90 : Tm → V → Tm := pr p44
def p91 : Tm → V → Tm := pl p45
def p92 : Tm → V → Tm := pr p45
def p93 : Tm → V → Tm := pl p46
def p94 : Tm → V → Tm := pr p46
def p96 : Tm → V → Tm := pr p47
def p97 : Tm → V → Tm := pl p48
def p98 : Tm → V → Tm := pr p48
def p99 : Tm → V → Tm := pl p49
def p100 : Tm → V → Tm := pr p49
def p101 : Tm → V → Tm := pl p50
def p102 : Tm → V → Tm := pr p50
def p103 : Tm → V → Tm := pl p51
def p104 : Tm → V → Tm := pr p51
def p105 : Tm → V → Tm := pl p52
def p106 : Tm → V → Tm := pr p52
def p107 : Tm → V → Tm := pl p53
def p108 : Tm → V → Tm := pr p53
def p109 : Tm → V → Tm := pl p54
def p110 : Tm → V → Tm := pr p54
def p111 : Tm → V → Tm := pl p55
def p113 : Tm → V → Tm := pl p56
def p115 : Tm → V → Tm := pl p57
def p118 : Tm → V → Tm := pr p58
def p119 : Tm → V → Tm := pl p59
def p122 : Tm → V → Tm := pr p60
def p127 : Tm → V → Tm := pl p63
def p129 : Tm → V → Tm := pl p64
def p130 : Tm → V → Tm := pr p64
def p131 : Tm → V → Tm := pl p65
def p133 : Tm → V → Tm := pl p66
def p134 : Tm → V → Tm := pr p66
def p138 : Tm → V → Tm := pr p68
def p140 : Tm → V → Tm := pr p69
def p141 : Tm → V → Tm := pl p70
def p142 : Tm → V → Tm := pr p70
def p143 : Tm → V → Tm := pl p71
def p145 : Tm → V → Tm := pl p72
def p147 : Tm → V → Tm := pl p73
def p148 : Tm → V → Tm := pr p73
def p150 : Tm → V → Tm := pr p74
def p151 : Tm → V → Tm := pl p75
def p152 : Tm → V → Tm := pr p75
def p153 : Tm → V → Tm := pl p76
def p154 : Tm → V → Tm := pr p76
def p155 : Tm → V → Tm := pl p77
def p158 : Tm → V → Tm := pr p78
def p159 : Tm → V → Tm := pl p79
def p160 : Tm → V → Tm := pr p79
def p161 : Tm → V → Tm := pl p80
def p162 : Tm → V → Tm := pr p80
def p163 : Tm → V → Tm := pl p81
def p165 : Tm → V → Tm := pl p82
def p167 : Tm → V → Tm := pl p83
def p168 : Tm → V → Tm := pr p83
def p170 : Tm → V → Tm := pr p84
def p172 : Tm → V → Tm := pr p85
def p174 : Tm → V → Tm := pr p86
def p176 : Tm → V → Tm := pr p87
def p177 : Tm → V → Tm := pl p88
def p178 : Tm → V → Tm := pr p88
def p182 : Tm → V → Tm := pr p90
def p183 : Tm → V → Tm := pl p91
def p184 : Tm → V → Tm := pr p91
def p186 : Tm → V → Tm := pr p92
def p198 : Tm → V → Tm := pr p98
def p202 : Tm → V → Tm := pr p100
def p204 : Tm → V → Tm := pr p101
def p205 : Tm → V → Tm := pl p102
def p206 : Tm → V → Tm := pr p102
def p208 : Tm → V → Tm := pr p103
def p210 : Tm → V → Tm := pr p104
def p212 : Tm → V → Tm := pr p105
def p214 : Tm → V → Tm := pr p106
def kp4 : List Nat := [0, 1, 4, 5, 6, 7, 8, 9, 11, 13, 14, 15, 17, 26]
def rc4 : RC := (.seq (.reg fun c t l h k => k (p4 t (.bool false)) l h)
 (.seq (.seq (.reg fun c t l h k => cl c 11 [] t l h fun v0 l0 h0 => bO (G.un .not v0) fun v1 => k (p17 t v1) l0 h0)
 (.cond (.tmp 17) (.seq (.reg fun c t l h k => k (p4 t (.bool false)) l h)
 .ret) .skip))
 (.seq (.reg fun c t l h k => bO (bs Pg 36 5 [(0, (.str ⟨25, 371800479289061626492697024119214087211867916538373036467570⟩)), (1, (.str ⟨36, 115066645366089132693277243409669428353013795985146050048725794798968870245044442260850⟩)), (2, (.str ⟨36, 115066674984356041290227834212075242530740995388004488205077995288286303466591704343916⟩)), (3, (.str ⟨47, 35611401871233325272521590240969142535582422894943582326615942345777048044108697321467027278871874745489700447596⟩)), (4, (.str ⟨44, 2122604958488543347866629972515651138757611596178308859998174189501347402554582546501386561870399341356396⟩))]) fun v0 => k (p5 t v0) l h)
 (.seq (.reg fun c t l h k => bO (len (Pg.underlying 36) (g5 t)) fun v0 => cl c 23 [(g0 t), v0] t l h fun v1 l1 h1 => k (p6 t v1) l1 h1)
 (.seq (.reg fun c t l h k => k (p7 t (.str ⟨0, 0⟩)) l h)
 (.seq (.seq (.reg fun c t l h k => k (p8 t (I 0)) l h)
 (.block 0 (.loop (.seq (.seq (.reg fun c t l h k => cl c 23 [(g1 t), (I 20)] t l h fun v0 l0 h0 => bO (bin Pg .lss 3 false (g8 t) v0) fun v1 => k (p26 t v1) l0 h0)
 (.cond (.tmp 26) .skip (.exit 0)))
 (.seq (.block 1 (.reg fun c t l h k => bO (bin Pg .add 9 true (g7 t) (.str ⟨1, 10⟩)) fun v0 => k (p7 t v0) l h))
 (.reg fun c t l h k => bO (bin Pg .add 3 true (g8 t) (I 1)) fun v0 => k (p8 t v0) l h))))))
 (.seq (.reg fun c t l h k => bO (ia Pg 36 (g5 t) (g6 t)) fun v0 => bO (ld Pg 9 v0 l h) fun v1 => bO (bin Pg .add 9 false (g7 t) v1) fun v2 => cl c 24 [v2] t l h fun v3 l3 h3 => bO (ext v3 0) fun v4 => bO (ext v3 1) fun v5 => bO (ext v3 2) fun v6 => k (p11 (p9 t v4) v6) l3 h3)
 (.seq (.reg fun c t l h k => cl c 13 [(g9 t)] t l h fun v0 l0 h0 => bO (ext v0 0) fun v1 => bO (ext v0 1) fun v2 => k (p13 t v2) l0 h0)
 (.seq (.reg fun c t l h k => cl c 14 [(g13 t)] t l h fun v0 l0 h0 => bO (ext v0 0) fun v1 => bO (ext v0 1) fun v2 => k (p15 (p14 t v1) v2) l0 h0)
 (.seq (.reg fun c t l h k => bO (bin Pg .eql 3 true (g11 t) (I 0)) fun v0 => jn (fun v1 l1 h1 => jn (fun v2 l2 h2 => bO (pick v0 v2 (.bool false)) fun v3 => jn (fun v4 l4 h4 => jn (fun v5 l5 h5 => jn (fun v6 l6 h6 => jn (fun v7 l7 h7 => jn (fun v8 l8 h8 => jn (fun v9 l9 h9 => jn (fun v10 l10 h10 => jn (fun v11 l11 h11 => jn (fun v12 l12 h12 => bO (pick v3 v12 (.bool false)) fun v13 => k (p4 t v13) l12 h12) fun j12 => brB (wv v3 true) (j12 (.tuple []) l11 h11) (bO (bin Pg .eql 3 false v4 v11) fun v13 => j12 v13 l11 h11)) fun j11 => brB (wv v3 true) (j11 (.tuple []) l10 h10) (bO (bin Pg .add 3 false v6 v10) fun v12 => j11 v12 l10 h10)) fun j10 => brB (wv v3 true) (j10 (.tuple []) l9 h9) (bO (ld Pg 3 v9 l9 h9) fun v11 => j10 v11 l9 h9)) fun j9 => brB (wv v3 true) (j9 (.tuple []) l8 h8) (bO (ia Pg 39 v7 v8) fun v10 => j9 v10 l8 h8)) fun j8 => brB (wv v3 true) (j8 (.tuple []) l7 h7) (j8 (g6 t) l7 h7)) fun j7 => brB (wv v3 true) (j7 (.tuple []) l6 h6) (bO (bs Pg 39 5 [(0, (I 17)), (1, (I 17)), (2, (I 28)), (3, (I 28)), (4, (I 17))]) fun v8 => j7 v8 l6 h6)) fun j6 => brB (wv v3 true) (j6 (.tuple []) l5 h5) (bO (len (Pg.underlying 9) v5) fun v7 => j6 v7 l5 h5)) fun j5 => brB (wv v3 true) (j5 (.tuple []) l4 h4) (j5 (g7 t) l4 h4)) fun j4 => brB (wv v3 true) (j4 (.tuple []) l2 h2) (j4 (g14 t) l2 h2)) fun j2 => brB (wv v0 true) (j2 (.tuple []) l1 h1) (bO (bin Pg .eql 3 true v1 (I 171)) fun v3 => j2 v3 l1 h1)) fun j1 => brB (wv v0 true) (j1 (.tuple []) l h) (j1 (g15 t) l h))
 .ret))))))))))

def kp5 : List Nat := [0, 1, 4, 5, 6, 7, 8, 10, 11, 13, 14, 15, 16, 17, 18, 19, 20, 22, 31, 111, 122, 134]
def rc5 : RC := (.seq (.reg fun c t l h k => k (p4 t (.bool false)) l h)
 (.seq (.seq (.reg fun c t l h k => cl c 11 [] t l h fun v0 l0 h0 => bO (G.un .not v0) fun v1 => k (p22 t v1) l0 h0)
 (.cond (.tmp 22) (.seq (.reg fun c t l h k => k (p4 t (.bool false)) l h)
 .ret) .skip))
 (.seq (.reg fun c t l h k => cl c 23 [(g0 t), (I 20)] t l h fun v0 l0 h0 => bO (bin Pg .add 3 true (I 1) v0) fun v1 => k (p0 t v1) l0 h0)
 (.seq (.reg fun c t l h k => cl c 23 [(g1 t), (g0 t)] t l h fun v0 l0 h0 => k (p1 t v0) l0 h0)
 (.seq (.reg fun c t l h k => k (p6 (p5 t (.str ⟨0, 0⟩)) (.str ⟨0, 0⟩)) l h)
 (.seq (.seq (.reg fun c t l h k => k (p7 t (I 0)) l h)
 (.block 0 (.loop (.seq (.seq (.reg fun c t l h k => bO (bin Pg .lss 3 false (g7 t) (g0 t)) fun v0 => k (p31 t v0) l h)
 (.cond (.tmp 31) .skip (.exit 0)))
 (.seq (.block 1 (.seq (.reg fun c t l h k => bO (bin Pg .add 9 true (g5 t) (.str ⟨5, 515940574572⟩)) fun v0 => cl c 25 [(g7 t)] t l h fun v1 l1 h1 => bO (bin Pg .add 9 false v0 v1) fun v2 => bO (bin Pg .add 9 true v2 (.str ⟨3, 2112800⟩)) fun v3 => cl c 25 [(g7 t)] t l1 h1 fun v4 l4 h4 => bO (bin Pg .add 9 false v3 v4) fun v5 => bO (bin Pg .add 9 true v5 (.str ⟨4, 544106784⟩)) fun v6 => k (p5 t v6) l4 h4)
 (.reg fun c t l h k => bO (bin Pg .add 9 true (g6 t) (.str ⟨5, 520235541868⟩)) fun v0 => bO (bin Pg .sub 3 true (I 100) (g7 t)) fun v1 => cl c 25 [v1] t l h fun v2 l2 h2 => bO (bin Pg .add 9 false v0 v2) fun v3 => bO (bin Pg .add 9 true v3 (.str ⟨3, 2112800⟩)) fun v4 => cl c 25 [(g7 t)] t l2 h2 fun v5 l5 h5 => bO (bin Pg .add 9 false v4 v5) fun v6 => bO (bin Pg .add 9 true v6 (.str ⟨4, 544106784⟩)) fun v7 => k (p6 t v7) l5 h5)))
 (.reg fun c t l h k => bO (bin Pg .add 3 true (g7 t) (I 1)) fun v0 => k (p7 t v0) l h))))))
 (.seq (.reg fun c t l h k => bO (bin Pg .add 9 true (.str ⟨20, 185261448198016195117860951736490579313051329900⟩) (g5 t)) fun v0 => bO (bin Pg .add 9 true v0 (.str ⟨1, 120⟩)) fun v1 => cl c 25 [(g1 t)] t l h fun v2 l2 h2 => bO (bin Pg .add 9 false v1 v2) fun v3 => bO (bin Pg .add 9 true v3 (.str ⟨2, 15163⟩)) fun v4 => cl c 24 [v4] t l2 h2 fun v5 l5 h5 => bO (ext v5 0) fun v6 => bO (ext v5 1) fun v7 => bO (ext v5 2) fun v8 => k (p10 (p8 t v6) v8) l5 h5)
 (.seq (.reg fun c t l h k => bO (bin Pg .add 9 true (.str ⟨20, 185261448198016195117860951736490579313051329900⟩) (g6 t)) fun v0 => bO (bin Pg .add 9 true v0 (.str ⟨1, 121⟩)) fun v1 => bO (bin Pg .sub 3 true (I 100) (g1 t)) fun v2 => cl c 25 [v2] t l h fun v3 l3 h3 => bO (bin Pg .add 9 false v1 v3) fun v4 => bO (bin Pg .add 9 true v4 (.str ⟨2, 15163⟩)) fun v5 => cl c 24 [v5] t l3 h3 fun v6 l6 h6 => bO (ext v6 0) fun v7 => bO (ext v6 1) fun v8 => bO (ext v6 2) fun v9 => k (p13 (p11 t v7) v9) l6 h6)
 (.seq (.reg fun c t l h k => cl c 13 [(g8 t)] t l h fun v0 l0 h0 => bO (ext v0 0) fun v1 => bO (ext v0 1) fun v2 => k (p15 (p14 t v1) v2) l0 h0)
 (.seq (.reg fun c t l h k => cl c 13 [(g11 t)] t l h fun v0 l0 h0 => bO (ext v0 0) fun v1 => bO (ext v0 1) fun v2 => k (p17 (p16 t v1) v2) l0 h0)
 (.seq (.seq (.reg fun c t l h k => bO (bin Pg .add 3 false (g10 t) (g13 t)) fun v0 => bO (bin Pg .neq 3 true v0 (I 0)) fun v1 => jn (fun v2 l2 h2 => jn (fun v3 l3 h3 => bO (pick v1 (.bool true) v3) fun v4 => jn (fun v5 l5 h5 => jn (fun v6 l6 h6 => bO (pick v4 (.bool true) v6) fun v7 => jn (fun v8 l8 h8 => jn (fun v9 l9 h9 => jn (fun v10 l10 h10 => bO (pick v7 (.bool true) v10) fun v11 => jn (fun v12 l12 h12 => jn (fun v13 l13 h13 => jn (fun v14 l14 h14 => bO (pick v11 (.bool true) v14) fun v15 => k (p111 t v15) l14 h14) fun j14 => brB (wv v11 false) (j14 (.tuple []) l13 h13) (bO (bin Pg .neq 3 true v13 (I 1)) fun v15 => j14 v15 l13 h13)) fun j13 => brB (wv v11 false) (j13 (.tuple []) l12 h12) (bO (len (Pg.underlying 23) v12) fun v14 => j13 v14 l12 h12)) fun j12 => brB (wv v11 false) (j12 (.tuple []) l10 h10) (j12 (g16 t) l10 h10)) fun j10 => brB (wv v7 false) (j10 (.tuple []) l9 h9) (bO (bin Pg .neq 3 true v9 (I 1)) fun v11 => j10 v11 l9 h9)) fun j9 => brB (wv v7 false) (j9 (.tuple []) l8 h8) (bO (len (Pg.underlying 23) v8) fun v10 => j9 v10 l8 h8)) fun j8 => brB (wv v7 false) (j8 (.tuple []) l6 h6) (j8 (g14 t) l6 h6)) fun j6 => brB (wv v4 false) (j6 (.tuple []) l5 h5) (bO (bin Pg .neq 27 true v5 .nili) fun v7 => j6 v7 l5 h5)) fun j5 => brB (wv v4 false) (j5 (.tuple []) l3 h3) (j5 (g17 t) l3 h3)) fun j3 => brB (wv v1 false) (j3 (.tuple []) l2 h2) (bO (bin Pg .neq 27 true v2 .nili) fun v4 => j3 v4 l2 h2)) fun j2 => brB (wv v1 false) (j2 (.tuple []) l h) (j2 (g15 t) l h))
 (.cond (.tmp 111) (.seq (.reg fun c t l h k => k (p4 t (.bool false)) l h)
 .ret) .skip))
 (.seq (.reg fun c t l h k => bO (ia Pg 23 (g14 t) (I 0)) fun v0 => bO (fa Pg 53 v0 11) fun v1 => bO (ld Pg 51 v1 l h) fun v2 => bO (ia Pg 23 (g16 t) (I 0)) fun v3 => bO (fa Pg 53 v3 11) fun v4 => bO (ld Pg 51 v4 l h) fun v5 => jE ((119, v5) :: (118, v4) :: (117, v3) :: (116, (g16 t)) :: (115, v2) :: (114, v1) :: (113, v0) :: (112, (g14 t)) :: []) fun e6 => jF ((ldF v4) :: ft0 :: ft0 :: ft0 :: (ldF v1) :: ft0 :: ft0 :: ft0 :: []) fun q6 => gD Tryd.f5 5 17 8 c t l h (fun v6 f6 l6 h6 => jE ((18, v6) :: e6) fun e7 => jF (f6 :: q6) fun q7 => gD Tryd.f5 5 17 9 c t l6 h6 (fun v7 f7 l7 h7 => jE ((19, v7) :: e7) fun e8 => jF (f7 :: q7) fun q8 => gD Tryd.f5 5 17 10 c (p115 (p18 t v6) v2) l7 h7 (fun v8 f8 l8 h8 => jF (f8 :: q8) fun q9 => gD Tryd.f5 5 17 11 c (p119 (p19 t v7) v5) l8 h8 (fun v9 f9 l9 h9 => finD (rgA Tryd.f5 17).toList [(3, 8), (7, 8), (3, 9), (7, 9), (8, 9), (7, 10)] [(3, 8), (7, 8), (3, 9), (7, 9), (8, 9), (7, 10)] (f9 :: q9) (k (p19 (p18 t v6) v7) l9 h9)) (sD Tryd.f5 5 17 c 11 none e8 q9 t l8 h8)) (sD Tryd.f5 5 17 c 10 none e8 q8 t l7 h7)) (sD Tryd.f5 5 17 c 9 (some 19) e7 q7 t l6 h6)) (sD Tryd.f5 5 17 c 8 (some 18) e6 q6 t l h))
 (.seq (.seq (.reg fun c t l h k => k (p20 t (I 0)) l h)
 (.block 2 (.loop (.seq (.seq (.reg fun c t l h k => bO (bin Pg .lss 3 false (g20 t) (g0 t)) fun v0 => k (p122 t v0) l h)
 (.cond (.tmp 122) .skip (.exit 2)))
 (.seq (.block 3 (.seq (.seq (.reg fun c t l h k => bO (fa Pg 51 (g18 t) 4) fun v0 => bO (ld Pg 47 v0 l h) fun v1 => bO (len (Pg.underlying 47) v1) fun v2 => bO (bin Pg .neq 3 true v2 (I 2)) fun v3 => jn (fun v4 l4 h4 => jn (fun v5 l5 h5 => jn (fun v6 l6 h6 => jn (fun v7 l7 h7 => bO (pick v3 (.bool true) v7) fun v8 => k (p134 t v8) l7 h7) fun j7 => brB (wv v3 false) (j7 (.tuple []) l6 h6) (bO (bin Pg .neq 3 true v6 (I 2)) fun v8 => j7 v8 l6 h6)) fun j6 => brB (wv v3 false) (j6 (.tuple []) l5 h5) (bO (len (Pg.underlying 47) v5) fun v7 => j6 v7 l5 h5)) fun j5 => brB (wv v3 false) (j5 (.tuple []) l4 h4) (bO (ld Pg 47 v4 l4 h4) fun v6 => j5 v6 l4 h4)) fun j4 => brB (wv v3 false) (j4 (.tuple []) l h) (bO (fa Pg 51 (g19 t) 4) fun v5 => j4 v5 l h))
 (.cond (.tmp 134) (.seq (.reg fun c t l h k => k (p4 t (.bool false)) l h)
 .ret) .skip))
 (.reg fun c t l h k => bO (fa Pg 51 (g18 t) 4) fun v0 => bO (ld Pg 47 v0 l h) fun v1 => bO (ia Pg 47 v1 (I 1)) fun v2 => bO (ld Pg 51 v2 l h) fun v3 => bO (fa Pg 51 (g19 t) 4) fun v4 => bO (ld Pg 47 v4 l h) fun v5 => bO (ia Pg 47 v5 (I 1)) fun v6 => bO (ld Pg 51 v6 l h) fun v7 => jE ((142, v7) :: (141, v6) :: (140, v5) :: (139, v4) :: (138, v3) :: (137, v2) :: (136, v1) :: (135, v0) :: []) fun e8 => jF ((ldF v6) :: ft0 :: (ldF v4) :: ft0 :: (ldF v2) :: ft0 :: (ldF v0) :: ft0 :: []) fun q8 => gD Tryd.f5 5 23 8 c (p138 (p18 t (g18 t)) v3) l h (fun v8 f8 l8 h8 => jF (f8 :: q8) fun q9 => gD Tryd.f5 5 23 9 c (p142 (p19 t (g19 t)) v7) l8 h8 (fun v9 f9 l9 h9 => finD (rgA Tryd.f5 23).toList [(5, 8), (7, 8)] [(5, 8), (7, 8)] (f9 :: q9) (k t l9 h9)) (sD Tryd.f5 5 23 c 9 none e8 q9 t l8 h8)) (sD Tryd.f5 5 23 c 8 none e8 q8 t l h))))
 (.reg fun c t l h k => bO (bin Pg .add 3 true (g20 t) (I 1)) fun v0 => k (p20 t v0) l h))))))
 (.seq (.reg fun c t l h k => bO (fa Pg 51 (g18 t) 5) fun v0 => bO (ld Pg 3 v0 l h) fun v1 => bO (bin Pg .sub 3 true (g0 t) (I 1)) fun v2 => bO (bin Pg .sub 3 false v2 (g1 t)) fun v3 => bO (bin Pg .eql 3 false v1 v3) fun v4 => jn (fun v5 l5 h5 => jn (fun v6 l6 h6 => jn (fun v7 l7 h7 => jn (fun v8 l8 h8 => jn (fun v9 l9 h9 => bO (pick v4 v9 (.bool false)) fun v10 => k (p4 t v10) l9 h9) fun j9 => brB (wv v4 true) (j9 (.tuple []) l8 h8) (bO (bin Pg .eql 3 false v6 v8) fun v10 => j9 v10 l8 h8)) fun j8 => brB (wv v4 true) (j8 (.tuple []) l7 h7) (bO (ld Pg 3 v7 l7 h7) fun v9 => j8 v9 l7 h7)) fun j7 => brB (wv v4 true) (j7 (.tuple []) l6 h6) (bO (fa Pg 51 (g18 t) 5) fun v8 => j7 v8 l6 h6)) fun j6 => brB (wv v4 true) (j6 (.tuple []) l5 h5) (bO (ld Pg 3 v5 l5 h5) fun v7 => j6 v7 l5 h5)) fun j5 => brB (wv v4 true) (j5 (.tuple []) l h) (bO (fa Pg 51 (g19 t) 5) fun v6 => j5 v6 l h))
 .ret))))))))))))))

def kp11 : List Nat := [0, 1, 3, 4, 5, 6, 8, 10, 11, 12]
def rc11 : RC := (.seq (.reg fun c t l h k => k (p0 t (.bool false)) l h)
 (.seq (.reg fun c t l h k => cl c 24 [(.str ⟨62, 47336538132909823112764684548391336578022189627686334421550548225523135775272861195024073825096683498556201413404776116273014622868433929227966244210⟩)] t l h fun v0 l0 h0 => bO (ext v0 0) fun v1 => bO (ext v0 1) fun v2 => bO (ext v0 2) fun v3 => k (p3 (p1 t v1) v3) l0 h0)
 (.seq (.reg fun c t l h k => cl c 13 [(g1 t)] t l h fun v0 l0 h0 => bO (ext v0 0) fun v1 => bO (ext v0 1) fun v2 => k (p5 (p4 t v1) v2) l0 h0)
 (.seq (.reg fun c t l h k => cl c 24 [(.str ⟨23, 5673328854632776360142250882055822260058941399070172524⟩)] t l h fun v0 l0 h0 => bO (ext v0 0) fun v1 => bO (ext v0 1) fun v2 => bO (ext v0 2) fun v3 => k (p8 (p6 t v1) v3) l0 h0)
 (.seq (.reg fun c t l h k => cl c 13 [(g6 t)] t l h fun v0 l0 h0 => bO (ext v0 0) fun v1 => bO (ext v0 1) fun v2 => k (p10 t v2) l0 h0)
 (.seq (.reg fun c t l h k => cl c 14 [(g10 t)] t l h fun v0 l0 h0 => bO (ext v0 0) fun v1 => bO (ext v0 1) fun v2 => k (p12 (p11 t v1) v2) l0 h0)
 (.seq (.reg fun c t l h k => bO (bin Pg .add 3 false (g3 t) (g8 t)) fun v0 => bO (bin Pg .eql 3 true v0 (I 0)) fun v1 => jn (fun v2 l2 h2 => jn (fun v3 l3 h3 => bO (pick v1 v3 (.bool false)) fun v4 => jn (fun v5 l5 h5 => jn (fun v6 l6 h6 => jn (fun v7 l7 h7 => bO (pick v4 v7 (.bool false)) fun v8 => jn (fun v9 l9 h9 => jn (fun v10 l10 h10 => jn (fun v11 l11 h11 => jn (fun v12 l12 h12 => jn (fun v13 l13 h13 => jn (fun v14 l14 h14 => jn (fun v15 l15 h15 => bO (pick v8 v15 (.bool false)) fun v16 => jn (fun v17 l17 h17 => jn (fun v18 l18 h18 => jn (fun v19 l19 h19 => jn (fun v20 l20 h20 => jn (fun v21 l21 h21 => jn (fun v22 l22 h22 => jn (fun v23 l23 h23 => jn (fun v24 l24 h24 => jn (fun v25 l25 h25 => jn (fun v26 l26 h26 => bO (pick v16 v26 (.bool false)) fun v27 => jn (fun v28 l28 h28 => jn (fun v29 l29 h29 => jn (fun v30 l30 h30 => jn (fun v31 l31 h31 => jn (fun v32 l32 h32 => jn (fun v33 l33 h33 => jn (fun v34 l34 h34 => jn (fun v35 l35 h35 => jn (fun v36 l36 h36 => jn (fun v37 l37 h37 => jn (fun v38 l38 h38 => jn (fun v39 l39 h39 => bO (pick v27 v39 (.bool false)) fun v40 => jn (fun v41 l41 h41 => jn (fun v42 l42 h42 => bO (pick v40 v42 (.bool false)) fun v43 => jn (fun v44 l44 h44 => jn (fun v45 l45 h45 => bO (pick v43 v45 (.bool false)) fun v46 => jn (fun v47 l47 h47 => jn (fun v48 l48 h48 => jn (fun v49 l49 h49 => jn (fun v50 l50 h50 => bO (pick v46 v50 (.bool false)) fun v51 => jn (fun v52 l52 h52 => jn (fun v53 l53 h53 => jn (fun v54 l54 h54 => jn (fun v55 l55 h55 => bO (pick v51 v55 (.bool false)) fun v56 => k (p0 t v56) l55 h55) fun j55 => brB (wv v51 true) (j55 (.tuple []) l54 h54) (cl c 20 [v53, v54] t l54 h54 fun v56 l56 h56 => j55 v56 l56 h56)) fun j54 => brB (wv v51 true) (j54 (.tuple []) l53 h53) (bO (bs Pg 39 1 [(0, (I 1))]) fun v55 => j54 v55 l53 h53)) fun j53 => brB (wv v51 true) (j53 (.tuple []) l52 h52) (cl c 21 [v52] t l52 h52 fun v54 l54 h54 => j53 v54 l54 h54)) fun j52 => brB (wv v51 true) (j52 (.tuple []) l50 h50) (j52 (g1 t) l50 h50)) fun j50 => brB (wv v46 true) (j50 (.tuple []) l49 h49) (cl c 17 [v48, v49] t l49 h49 fun v51 l51 h51 => j50 v51 l51 h51)) fun j49 => brB (wv v46 true) (j49 (.tuple []) l48 h48) (bO (bs Pg 36 1 [(0, (.str ⟨1, 99⟩))]) fun v50 => j49 v50 l48 h48)) fun j48 => brB (wv v46 true) (j48 (.tuple []) l47 h47) (cl c 18 [v47] t l47 h47 fun v49 l49 h49 => j48 v49 l49 h49)) fun j47 => brB (wv v46 true) (j47 (.tuple []) l45 h45) (j47 (g1 t) l45 h45)) fun j45 => brB (wv v43 true) (j45 (.tuple []) l44 h44) (bO (bin Pg .eql 3 true v44 (I 170)) fun v46 => j45 v46 l44 h44)) fun j44 => brB (wv v43 true) (j44 (.tuple []) l42 h42) (j44 (g12 t) l42 h42)) fun j42 => brB (wv v40 true) (j42 (.tuple []) l41 h41) (bO (bin Pg .eql 3 true v41 (I 20)) fun v43 => j42 v43 l41 h41)) fun j41 => brB (wv v40 true) (j41 (.tuple []) l39 h39) (j41 (g11 t) l39 h39)) fun j39 => brB (wv v27 true) (j39 (.tuple []) l38 h38) (bO (bin Pg .eql 3 true v38 (I 1)) fun v40 => j39 v40 l38 h38)) fun j38 => brB (wv v27 true) (j38 (.tuple []) l37 h37) (bO (ld Pg 3 v37 l37 h37) fun v39 => j38 v39 l37 h37)) fun j37 => brB (wv v27 true) (j37 (.tuple []) l36 h36) (bO (fa Pg 51 v36 5) fun v38 => j37 v38 l36 h36)) fun j36 => brB (wv v27 true) (j36 (.tuple []) l35 h35) (bO (ia Pg 47 v35 (I 1)) fun v37 => j36 v37 l35 h35)) fun j35 => brB (wv v27 true) (j35 (.tuple []) l34 h34) (bO (ld Pg 47 v34 l34 h34) fun v36 => j35 v36 l34 h34)) fun j34 => brB (wv v27 true) (j34 (.tuple []) l33 h33) (bO (fa Pg 51 v33 4) fun v35 => j34 v35 l33 h33)) fun j33 => brB (wv v27 true) (j33 (.tuple []) l32 h32) (bO (ia Pg 47 v32 (I 1)) fun v34 => j33 v34 l32 h32)) fun j32 => brB (wv v27 true) (j32 (.tuple []) l31 h31) (bO (ld Pg 47 v31 l31 h31) fun v33 => j32 v33 l31 h31)) fun j31 => brB (wv v27 true) (j31 (.tuple []) l30 h30) (bO (fa Pg 51 v30 4) fun v32 => j31 v32 l30 h30)) fun j30 => brB (wv v27 true) (j30 (.tuple []) l29 h29) (bO (fa Pg 53 v29 11) fun v31 => j30 v31 l29 h29)) fun j29 => brB (wv v27 true) (j29 (.tuple []) l28 h28) (bO (ia Pg 23 v28 (I 1)) fun v30 => j29 v30 l28 h28)) fun j28 => brB (wv v27 true) (j28 (.tuple []) l26 h26) (j28 (g4 t) l26 h26)) fun j26 => brB (wv v16 true) (j26 (.tuple []) l25 h25) (bO (bin Pg .eql 3 true v25 (I 2)) fun v27 => j26 v27 l25 h25)) fun j25 => brB (wv v16 true) (j25 (.tuple []) l24 h24) (bO (len (Pg.underlying 47) v24) fun v26 => j25 v26 l24 h24)) fun j24 => brB (wv v16 true) (j24 (.tuple []) l23 h23) (bO (ld Pg 47 v23 l23 h23) fun v25 => j24 v25 l23 h23)) fun j23 => brB (wv v16 true) (j23 (.tuple []) l22 h22) (bO (fa Pg 51 v22 4) fun v24 => j23 v24 l22 h22)) fun j22 => brB (wv v16 true) (j22 (.tuple []) l21 h21) (bO (ia Pg 47 v21 (I 1)) fun v23 => j22 v23 l21 h21)) fun j21 => brB (wv v16 true) (j21 (.tuple []) l20 h20) (bO (ld Pg 47 v20 l20 h20) fun v22 => j21 v22 l20 h20)) fun j20 => brB (wv v16 true) (j20 (.tuple []) l19 h19) (bO (fa Pg 51 v19 4) fun v21 => j20 v21 l19 h19)) fun j19 => brB (wv v16 true) (j19 (.tuple []) l18 h18) (bO (fa Pg 53 v18 11) fun v20 => j19 v20 l18 h18)) fun j18 => brB (wv v16 true) (j18 (.tuple []) l17 h17) (bO (ia Pg 23 v17 (I 1)) fun v19 => j18 v19 l17 h17)) fun j17 => brB (wv v16 true) (j17 (.tuple []) l15 h15) (j17 (g4 t) l15 h15)) fun j15 => brB (wv v8 true) (j15 (.tuple []) l14 h14) (bO (bin Pg .eql 3 true v14 (I 2)) fun v16 => j15 v16 l14 h14)) fun j14 => brB (wv v8 true) (j14 (.tuple []) l13 h13) (bO (len (Pg.underlying 47) v13) fun v15 => j14 v15 l13 h13)) fun j13 => brB (wv v8 true) (j13 (.tuple []) l12 h12) (bO (ld Pg 47 v12 l12 h12) fun v14 => j13 v14 l12 h12)) fun j12 => brB (wv v8 true) (j12 (.tuple []) l11 h11) (bO (fa Pg 51 v11 4) fun v13 => j12 v13 l11 h11)) fun j11 => brB (wv v8 true) (j11 (.tuple []) l10 h10) (bO (fa Pg 53 v10 11) fun v12 => j11 v12 l10 h10)) fun j10 => brB (wv v8 true) (j10 (.tuple []) l9 h9) (bO (ia Pg 23 v9 (I 1)) fun v11 => j10 v11 l9 h9)) fun j9 => brB (wv v8 true) (j9 (.tuple []) l7 h7) (j9 (g4 t) l7 h7)) fun j7 => brB (wv v4 true) (j7 (.tuple []) l6 h6) (bO (bin Pg .eql 3 true v6 (I 2)) fun v8 => j7 v8 l6 h6)) fun j6 => brB (wv v4 true) (j6 (.tuple []) l5 h5) (bO (len (Pg.underlying 23) v5) fun v7 => j6 v7 l5 h5)) fun j5 => brB (wv v4 true) (j5 (.tuple []) l3 h3) (j5 (g4 t) l3 h3)) fun j3 => brB (wv v1 true) (j3 (.tuple []) l2 h2) (bO (bin Pg .eql 27 true v2 .nili) fun v4 => j3 v4 l2 h2)) fun j2 => brB (wv v1 true) (j2 (.tuple []) l h) (j2 (g5 t) l h))
 .ret)))))))

def kp13 : List Nat := [0, 2, 3, 4, 5, 7, 8, 11, 12, 13, 14, 32, 44, 54]
def rc13 : RC := (.seq (.reg fun c t l h k => k (p3 (p2 t .nils) .nili) l h)
 (.seq (.reg fun c t l h k => gn Tryd.f13 13 1 0 c t t l h (fun v0 l0 h0 => gn Tryd.f13 13 1 1 c (p9 t v0) t l0 h0 (fun v1 l1 h1 => k (p4 t v1) l1 h1)))
 (.seq (.reg fun c t l h k => k (p5 t .nils) l h)
 (.seq (.seq (.reg fun c t l h k => bO (len (Pg.underlying 23) (g0 t)) fun v0 => k (p13 (p12 (p11 t (g0 t)) v0) (I 0)) l h)
 (.block 0 (.loop (.seq (.reg fun c t l h k => bO (bin Pg .lss 3 false (g13 t) (g12 t)) fun v0 => k (p14 t v0) l h)
 (.seq (.cond (.tmp 14) .skip (.exit 0))
 (.seq (.block 1 (.seq (.reg fun c t l h k => bO (ia Pg 23 (g11 t) (g13 t)) fun v0 => bO (ld Pg 53 v0 l h) fun v1 => al Pg 53 7 l fun v2 l2 => jn (fun v3 l3 h3 => k (p7 t v2) l3 h3) fun j3 => sto 53 v2 v1 l2 h j3 (gn Tryd.f13 13 5 3 c (p16 (p7 t v2) v1) t l2 h j3))
 (.seq (.seq (.reg fun c t l h k => bO (nilC (g4 t)) fun v0 => bO (fa Pg 61 v0 0) fun v1 => bO (ld Pg 36 v1 l h) fun v2 => bO (fa Pg 53 (g7 t) 1) fun v3 => bO (ld Pg 9 v3 l h) fun v4 => jE ((22, v4) :: (21, v3) :: (20, v2) :: (19, v1) :: (18, v0) :: (17, (g4 t)) :: []) fun e5 => jF ((ldF v3) :: ft0 :: (ldF v1) :: ft0 :: ft0 :: ft0 :: []) fun q5 => clD c 31 [v2, v4] l h (fun v5 f5 l5 h5 => jn (fun v6 f6 l6 h6 => jn (fun v7 f7 l7 h7 => jn (fun v8 f8 l8 h8 => jn (fun v9 f9 l9 h9 => jn (fun v10 f10 l10 h10 => jn (fun v11 f11 l11 h11 => jn (fun v12 f12 l12 h12 => bO (pick v5 (.bool true) v12) fun v13 => finD (rgA Tryd.f13 6).toList [] [] (ft0 :: f12 :: f11 :: f10 :: f9 :: f8 :: f7 :: f6 :: ft0 :: f5 :: q5) (k (p32 t v13) l12 h12)) fun j12 => brB (wv v5 false) (j12 (.tuple []) ft0 l11 h11) (jE ((30, v11) :: (29, v10) :: (28, v9) :: (27, v8) :: (26, v7) :: (25, v6) :: (24, v5) :: (23, v5) :: e5) fun e13 => jF (f11 :: f10 :: f9 :: f8 :: f7 :: f6 :: ft0 :: f5 :: q5) fun q13 => clD c 31 [v9, v11] l11 h11 (fun v13 f13 l13 h13 => j12 v13 f13 l13 h13) (sD Tryd.f13 13 6 c 14 (some 31) e13 q13 t l11 h11))) fun j11 => brB (wv v5 false) (j11 (.tuple []) ft0 l10 h10) (bO (ld Pg 9 v10 l10 h10) fun v12 => j11 v12 (ldF v10) l10 h10)) fun j10 => brB (wv v5 false) (j10 (.tuple []) ft0 l9 h9) (bO (fa Pg 53 (g7 t) 1) fun v11 => j10 v11 ft0 l9 h9)) fun j9 => brB (wv v5 false) (j9 (.tuple []) ft0 l8 h8) (bO (ld Pg 36 v8 l8 h8) fun v10 => j9 v10 (ldF v8) l8 h8)) fun j8 => brB (wv v5 false) (j8 (.tuple []) ft0 l7 h7) (bO (fa Pg 61 v7 1) fun v9 => j8 v9 ft0 l7 h7)) fun j7 => brB (wv v5 false) (j7 (.tuple []) ft0 l6 h6) (bO (nilC v6) fun v8 => j7 v8 ft0 l6 h6)) fun j6 => brB (wv v5 false) (j6 (.tuple []) ft0 l5 h5) (j6 (g4 t) ft0 l5 h5)) (sD Tryd.f13 13 6 c 6 (some 23) e5 q5 t l h))
 (.cond (.tmp 32) (.reg fun c t l h k => bO (fa Pg 53 (g7 t) 12) fun v0 => bO (ld Pg 3 v0 l h) fun v1 => cl c 32 [(g4 t), v1, (I 171)] t l h fun v2 l2 h2 => k t l2 h2) .skip))
 (.seq (.reg fun c t l h k => bO (ld Pg 53 (g7 t) l h) fun v0 => cl c 33 [(g4 t), v0] t l h fun v1 l1 h1 => al Pg 53 8 l1 fun v2 l2 => jn (fun v3 l3 h3 => k (p8 t v2) l3 h3) fun j3 => sto 53 v2 v1 l2 h1 j3 (gn Tryd.f13 13 8 4 c (p39 (p8 t v2) v1) t l2 h1 j3))
 (.seq (.seq (.reg fun c t l h k => bO (nilC (g4 t)) fun v0 => bO (fa Pg 61 v0 4) fun v1 => bO (ld Pg 27 v1 l h) fun v2 => bO (bin Pg .neq 27 true v2 .nili) fun v3 => k (p44 t v3) l h)
 (.cond (.tmp 44) (.seq (.reg fun c t l h k => bO (nilC (g4 t)) fun v0 => bO (fa Pg 61 v0 4) fun v1 => bO (ld Pg 27 v1 l h) fun v2 => k (p3 (p2 t .nils) v2) l h)
 .ret) .skip))
 (.seq (.reg fun c t l h k => bO (ld Pg 53 (g8 t) l h) fun v0 => bO (bs Pg 23 1 [(0, v0)]) fun v1 => gn Tryd.f13 13 11 3 c (p51 (p49 t (g5 t)) v1) t l h (fun v2 l2 h2 => k (p5 t v2) l2 h2))
 (.seq (.reg fun c t l h k => bO (fa Pg 53 (g7 t) 0) fun v0 => bO (ld Pg 4 v0 l h) fun v1 => k (p54 t v1) l h)
 (.cond (.tmp 54) (.reg fun c t l h k => bO (nilC (g4 t)) fun v0 => bO (fa Pg 61 v0 0) fun v1 => bO (ld Pg 36 v1 l h) fun v2 => bO (fa Pg 53 (g7 t) 1) fun v3 => bO (ld Pg 9 v3 l h) fun v4 => jE ((61, v4) :: (60, v3) :: (59, v2) :: (58, v1) :: (57, v0) :: (56, (g4 t)) :: (55, (g4 t)) :: []) fun e5 => jF ((ldF v3) :: ft0 :: (ldF v1) :: ft0 :: ft0 :: ft0 :: ft0 :: []) fun q5 => gD Tryd.f13 13 13 7 c (p61 t v4) l h (fun v5 f5 l5 h5 => jE ((62, v5) :: e5) fun e6 => jF (f5 :: q5) fun q6 => gD Tryd.f13 13 13 8 c (p62 (p59 t v2) v5) l5 h5 (fun v6 f6 l6 h6 => bO (nilC (g4 t)) fun v7 => bO (fa Pg 61 v7 0) fun v8 => jE ((65, v8) :: (64, v7) :: (63, v6) :: e6) fun e9 => jF (ft0 :: ft0 :: f6 :: q6) fun q9 => gD Tryd.f13 13 13 11 c (p63 (p65 t v8) v6) l6 h6 (fun v9 f9 l9 h9 => finD (rgA Tryd.f13 13).toList [] [] (f9 :: q9) (k t l9 h9)) (sD Tryd.f13 13 13 c 11 none e9 q9 t l6 h6)) (sD Tryd.f13 13 13 c 8 (some 63) e6 q6 t l5 h5)) (sD Tryd.f13 13 13 c 7 (some 62) e5 q5 t l h)) (.reg fun c t l h k => bO (nilC (g4 t)) fun v0 => bO (fa Pg 61 v0 1) fun v1 => bO (ld Pg 36 v1 l h) fun v2 => bO (fa Pg 53 (g7 t) 1) fun v3 => bO (ld Pg 9 v3 l h) fun v4 => jE ((72, v4) :: (71, v3) :: (70, v2) :: (69, v1) :: (68, v0) :: (67, (g4 t)) :: (66, (g4 t)) :: []) fun e5 => jF ((ldF v3) :: ft0 :: (ldF v1) :: ft0 :: ft0 :: ft0 :: ft0 :: []) fun q5 => gD Tryd.f13 13 14 7 c (p72 t v4) l h (fun v5 f5 l5 h5 => jE ((73, v5) :: e5) fun e6 => jF (f5 :: q5) fun q6 => gD Tryd.f13 13 14 8 c (p73 (p70 t v2) v5) l5 h5 (fun v6 f6 l6 h6 => bO (nilC (g4 t)) fun v7 => bO (fa Pg 61 v7 1) fun v8 => jE ((76, v8) :: (75, v7) :: (74, v6) :: e6) fun e9 => jF (ft0 :: ft0 :: f6 :: q6) fun q9 => gD Tryd.f13 13 14 11 c (p74 (p76 t v8) v6) l6 h6 (fun v9 f9 l9 h9 => finD (rgA Tryd.f13 14).toList [] [] (f9 :: q9) (k t l9 h9)) (sD Tryd.f13 13 14 c 11 none e9 q9 t l6 h6)) (sD Tryd.f13 13 14 c 8 (some 74) e6 q6 t l5 h5)) (sD Tryd.f13 13 14 c 7 (some 73) e5 q5 t l h))))))))))
 (.reg fun c t l h k => bO (bin Pg .add 3 true (g13 t) (I 1)) fun v0 => k (p13 t v0) l h)))))))
 (.seq (.reg fun c t l h k => k (p3 (p2 t (g5 t)) .nili) l h)
 .ret)))))

def kp14 : List Nat := [0, 2, 3, 4, 6, 13]
def rc14 : RC := (.seq (.reg fun c t l h k => k (p3 (p2 t (I 0)) (I 0)) l h)
 (.seq (.seq (.reg fun c t l h k => bO (bin Pg .eql 27 true (g0 t) .nili) fun v0 => k (p6 t v0) l h)
 (.cond (.tmp 6) (.seq (.reg fun c t l h k => k (p3 (p2 t (I 0)) (I 0)) l h)
 .ret) .skip))
 (.seq (.reg fun c t l h k => gn Tryd.f14 14 3 0 c t t l h (fun v0 l0 h0 => k (p4 t v0) l0 h0))
 (.seq (.seq (.reg fun c t l h k => gn Tryd.f14 14 4 1 c (p4 t (g4 t)) t l h (fun v0 l0 h0 => cl c 34 [(g0 t), v0] t l0 h0 fun v1 l1 h1 => jn (fun v2 l2 h2 => jn (fun v3 l3 h3 => bO (pick v1 v3 (.bool false)) fun v4 => k (p13 t v4) l3 h3) fun j3 => brB (wv v1 true) (j3 (.tuple []) l2 h2) (bO (bin Pg .neq 66 true v2 .nilp) fun v4 => j3 v4 l2 h2)) fun j2 => brB (wv v1 true) (j2 (.tuple []) l1 h1) (bO (ld Pg 66 (g4 t) l1 h1) fun v3 => j2 v3 l1 h1)))
 (.cond (.tmp 13) (.seq (.reg fun c t l h k => bO (ld Pg 66 (g4 t) l h) fun v0 => bO (nilC v0) fun v1 => bO (fa Pg 70 v1 0) fun v2 => bO (ld Pg 3 v2 l h) fun v3 => bO (ld Pg 66 (g4 t) l h) fun v4 => bO (nilC v4) fun v5 => bO (fa Pg 70 v5 1) fun v6 => bO (ld Pg 64 v6 l h) fun v7 => k (p3 (p2 t v3) v7) l h)
 .ret) .skip))
 (.seq (.reg fun c t l h k => k (p3 (p2 t (.int .i64 (.negSucc 1))) (.int .i64 (.negSucc 1))) l h)
 .ret)))))

def kp17 : List Nat := [0, 1, 4, 5, 10, 14, 25]
def rc17 : RC := (.seq (.reg fun c t l h k => k (p4 t (.bool false)) l h)
 (.seq (.seq (.reg fun c t l h k => bO (len (Pg.underlying 36) (g0 t)) fun v0 => bO (len (Pg.underlying 36) (g1 t)) fun v1 => bO (bin Pg .neq 3 false v0 v1) fun v2 => k (p10 t v2) l h)
 (.cond (.tmp 10) (.seq (.reg fun c t l h k => k (p4 t (.bool false)) l h)
 .ret) .skip))
 (.seq (.seq (.reg fun c t l h k => k (p5 t (I 0)) l h)
 (.block 0 (.loop (.seq (.seq (.reg fun c t l h k => bO (len (Pg.underlying 36) (g0 t)) fun v0 => bO (bin Pg .lss 3 false (g5 t) v0) fun v1 => k (p14 t v1) l h)
 (.cond (.tmp 14) .skip (.exit 0)))
 (.seq (.block 1 (.seq (.reg fun c t l h k => bO (ia Pg 36 (g0 t) (g5 t)) fun v0 => bO (ld Pg 9 v0 l h) fun v1 => bO (ia Pg 36 (g1 t) (g5 t)) fun v2 => bO (ld Pg 9 v2 l h) fun v3 => bO (bin Pg .neq 9 false v1 v3) fun v4 => k (p25 t v4) l h)
 (.cond (.tmp 25) (.seq (.reg fun c t l h k => k (p4 t (.bool false)) l h)
 .ret) .skip)))
 (.reg fun c t l h k => bO (bin Pg .add 3 true (g5 t) (I 1)) fun v0 => k (p5 t v0) l h))))))
 (.seq (.reg fun c t l h k => k (p4 t (.bool true)) l h)
 .ret))))

def kp18 : List Nat := [0, 2, 3, 5, 6, 7, 8, 9, 13]
def rc18 : RC := (.seq (.reg fun c t l h k => k (p2 t .nils) l h)
 (.seq (.reg fun c t l h k => k (p3 t .nils) l h)
 (.seq (.seq (.reg fun c t l h k => bO (len (Pg.underlying 23) (g0 t)) fun v0 => k (p8 (p7 (p6 t (g0 t)) v0) (I 0)) l h)
 (.block 0 (.loop (.seq (.reg fun c t l h k => bO (bin Pg .lss 3 false (g8 t) (g7 t)) fun v0 => k (p9 t v0) l h)
 (.seq (.cond (.tmp 9) .skip (.exit 0))
 (.seq (.block 1 (.seq (.reg fun c t l h k => bO (ia Pg 23 (g6 t) (g8 t)) fun v0 => bO (ld Pg 53 v0 l h) fun v1 => al Pg 53 5 l fun v2 l2 => jn (fun v3 l3 h3 => k (p5 t v2) l3 h3) fun j3 => sto 53 v2 v1 l2 h j3 (gn Tryd.f18 18 4 3 c (p11 (p5 t v2) v1) t l2 h j3))
 (.seq (.reg fun c t l h k => bO (fa Pg 53 (g5 t) 0) fun v0 => bO (ld Pg 4 v0 l h) fun v1 => k (p13 t v1) l h)
 (.cond (.tmp 13) (.reg fun c t l h k => bO (fa Pg 53 (g5 t) 1) fun v0 => bO (ld Pg 9 v0 l h) fun v1 => bO (bs Pg 36 1 [(0, v1)]) fun v2 => gn Tryd.f18 18 6 4 c (p17 (p14 t (g3 t)) v2) t l h (fun v3 l3 h3 => k (p3 t v3) l3 h3)) .skip))))
 (.reg fun c t l h k => bO (bin Pg .add 3 true (g8 t) (I 1)) fun v0 => k (p8 t v0) l h)))))))
 (.seq (.reg fun c t l h k => k (p2 t (g3 t)) l h)
 .ret))))

def kp20 : List Nat := [0, 1, 4, 5, 10, 14, 25]
def rc20 : RC := (.seq (.reg fun c t l h k => k (p4 t (.bool false)) l h)
 (.seq (.seq (.reg fun c t l h k => bO (len (Pg.underlying 39) (g0 t)) fun v0 => bO (len (Pg.underlying 39) (g1 t)) fun v1 => bO (bin Pg .neq 3 false v0 v1) fun v2 => k (p10 t v2) l h)
 (.cond (.tmp 10) (.seq (.reg fun c t l h k => k (p4 t (.bool false)) l h)
 .ret) .skip))
 (.seq (.seq (.reg fun c t l h k => k (p5 t (I 0)) l h)
 (.block 0 (.loop (.seq (.seq (.reg fun c t l h k => bO (len (Pg.underlying 39) (g0 t)) fun v0 => bO (bin Pg .lss 3 false (g5 t) v0) fun v1 => k (p14 t v1) l h)
 (.cond (.tmp 14) .skip (.exit 0)))
 (.seq (.block 1 (.seq (.reg fun c t l h k => bO (ia Pg 39 (g0 t) (g5 t)) fun v0 => bO (ld Pg 3 v0 l h) fun v1 => bO (ia Pg 39 (g1 t) (g5 t)) fun v2 => bO (ld Pg 3 v2 l h) fun v3 => bO (bin Pg .neq 3 false v1 v3) fun v4 => k (p25 t v4) l h)
 (.cond (.tmp 25) (.seq (.reg fun c t l h k => k (p4 t (.bool false)) l h)
 .ret) .skip)))
 (.reg fun c t l h k => bO (bin Pg .add 3 true (g5 t) (I 1)) fun v0 => k (p5 t v0) l h))))))
 (.seq (.reg fun c t l h k => k (p4 t (.bool true)) l h)
 .ret))))

def kp21 : List Nat := [0, 2, 3, 4, 5, 6, 7, 8, 9, 15]
def rc21 : RC := (.seq (.reg fun c t l h k => k (p2 t .nils) l h)
 (.seq (.reg fun c t l h k => k (p3 t .nils) l h)
 (.seq (.seq (.reg fun c t l h k => bO (len (Pg.underlying 23) (g0 t)) fun v0 => k (p8 (p7 (p6 t (g0 t)) v0) (I 0)) l h)
 (.block 0 (.loop (.seq (.reg fun c t l h k => bO (bin Pg .lss 3 false (g8 t) (g7 t)) fun v0 => k (p9 t v0) l h)
 (.seq (.cond (.tmp 9) .skip (.exit 0))
 (.seq (.block 1 (.seq (.reg fun c t l h k => bO (ia Pg 23 (g6 t) (g8 t)) fun v0 => bO (ld Pg 53 v0 l h) fun v1 => al Pg 53 5 l fun v2 l2 => jn (fun v3 l3 h3 => k (p4 (p5 t v2) (g8 t)) l3 h3) fun j3 => sto 53 v2 v1 l2 h j3 (gn Tryd.f21 21 4 5 c (p12 (p5 t v2) v1) t l2 h j3))
 (.seq (.reg fun c t l h k => bO (fa Pg 53 (g5 t) 0) fun v0 => bO (ld Pg 4 v0 l h) fun v1 => bO (G.un .not v1) fun v2 => k (p15 t v2) l h)
 (.cond (.tmp 15) (.reg fun c t l h k => bO (bs Pg 39 1 [(0, (g4 t))]) fun v0 => gn Tryd.f21 21 6 3 c (p18 (p16 t (g3 t)) v0) t l h (fun v1 l1 h1 => k (p3 t v1) l1 h1)) .skip))))
 (.reg fun c t l h k => bO (bin Pg .add 3 true (g8 t) (I 1)) fun v0 => k (p8 t v0) l h)))))))
 (.seq (.reg fun c t l h k => k (p2 t (g3 t)) l h)
 .ret))))

def kp23 : List Nat := [0, 1, 4, 9]
def rc23 : RC := (.seq (.reg fun c t l h k => k (p4 t (I 0)) l h)
 (.seq (.reg fun c t l h k => bO (bin Pg .rem 3 false (g0 t) (g1 t)) fun v0 => k (p0 t v0) l h)
 (.seq (.seq (.reg fun c t l h k => bO (bin Pg .lss 3 true (g0 t) (I 0)) fun v0 => k (p9 t v0) l h)
 (.cond (.tmp 9) (.reg fun c t l h k => bO (bin Pg .add 3 false (g0 t) (g1 t)) fun v0 => k (p0 t v0) l h) .skip))
 (.seq (.reg fun c t l h k => k (p4 t (g0 t)) l h)
 .ret))))

def kp24 : List Nat := [0, 2, 3, 4, 5, 6, 7, 8, 9, 17, 33, 44, 59]
def rc24 : RC := (.seq (.reg fun c t l h k => k (p4 (p3 (p2 t .nils) (I 0)) (I 0)) l h)
 (.seq (.reg fun c t l h k => cl c 42 [(g0 t)] t l h fun v0 l0 h0 => bO (ext v0 0) fun v1 => bO (ext v0 1) fun v2 => bO (ext v0 2) fun v3 => k (p7 (p6 (p5 t v1) v2) v3) l0 h0)
 (.seq (.seq (.reg fun c t l h k => bO (bin Pg .neq 3 true (g7 t) (I 0)) fun v0 => k (p17 t v0) l h)
 (.cond (.tmp 17) (.seq (.reg fun c t l h k => k (p4 (p3 (p2 t .nils) (g6 t)) (g7 t)) l h)
 .ret) .skip))
 (.seq (.reg fun c t l h k => gn Tryd.f24 24 4 1 c (p20 t (g5 t)) t l h (fun v0 l0 h0 => gn Tryd.f24 24 4 2 c (p21 t v0) t l0 h0 (fun v1 l1 h1 => k (p8 t v1) l1 h1)))
 (.seq (.reg fun c t l h k => k (p9 t .nils) l h)
 (.seq (.block 0 (.loop (.seq (.seq (.reg fun c t l h k => bO (nilC (g8 t)) fun v0 => bO (fa Pg 88 v0 2) fun v1 => bO (ld Pg 3 v1 l h) fun v2 => bO (bin Pg .eql 3 true v2 (I 0)) fun v3 => jn (fun v4 l4 h4 => jn (fun v5 l5 h5 => jn (fun v6 l6 h6 => jn (fun v7 l7 h7 => bO (pick v3 v7 (.bool false)) fun v8 => k (p33 t v8) l7 h7) fun j7 => brB (wv v3 true) (j7 (.tuple []) l6 h6) (bO (bin Pg .neq 3 true v6 (I 0)) fun v8 => j7 v8 l6 h6)) fun j6 => brB (wv v3 true) (j6 (.tuple []) l5 h5) (bO (fld Pg 90 v5 0) fun v7 => j6 v7 l5 h5)) fun j5 => brB (wv v3 true) (j5 (.tuple []) l4 h4) (cl c 43 [v4] t l4 h4 fun v6 l6 h6 => j5 v6 l6 h6)) fun j4 => brB (wv v3 true) (j4 (.tuple []) l h) (j4 (g8 t) l h))
 (.cond (.tmp 33) .skip (.exit 0)))
 (.block 1 (.seq (.seq (.reg fun c t l h k => cl c 44 [(g8 t), (.str ⟨3, 6710642⟩)] t l h fun v0 l0 h0 => jn (fun v1 l1 h1 => jn (fun v2 l2 h2 => bO (pick v0 (.bool true) v2) fun v3 => jn (fun v4 l4 h4 => jn (fun v5 l5 h5 => jn (fun v6 l6 h6 => bO (pick v3 v6 (.bool false)) fun v7 => k (p44 t v7) l6 h6) fun j6 => brB (wv v3 true) (j6 (.tuple []) l5 h5) (bO (bin Pg .eql 3 true v5 (I 100)) fun v7 => j6 v7 l5 h5)) fun j5 => brB (wv v3 true) (j5 (.tuple []) l4 h4) (bO (len (Pg.underlying 23) v4) fun v6 => j5 v6 l4 h4)) fun j4 => brB (wv v3 true) (j4 (.tuple []) l2 h2) (j4 (g9 t) l2 h2)) fun j2 => brB (wv v0 false) (j2 (.tuple []) l1 h1) (cl c 44 [v1, (.str ⟨3, 7628140⟩)] t l1 h1 fun v3 l3 h3 => j2 v3 l3 h3)) fun j1 => brB (wv v0 false) (j1 (.tuple []) l0 h0) (j1 (g8 t) l0 h0))
 (.cond (.tmp 44) (.seq (.reg fun c t l h k => cl c 43 [(g8 t)] t l h fun v0 l0 h0 => bO (fld Pg 90 v0 2) fun v1 => cl c 45 [(g8 t), v1, (I 152)] t l0 h0 fun v2 l2 h2 => k t l2 h2)
 (.exit 0)) .skip))
 (.reg fun c t l h k => cl c 46 [(g8 t)] t l h fun v0 l0 h0 => bO (bs Pg 23 1 [(0, v0)]) fun v1 => gn Tryd.f24 24 9 4 c (p53 (p50 t (g9 t)) v1) t l0 h0 (fun v2 l2 h2 => k (p9 t v2) l2 h2)))))))
 (.seq (.seq (.reg fun c t l h k => bO (nilC (g8 t)) fun v0 => bO (fa Pg 88 v0 2) fun v1 => bO (ld Pg 3 v1 l h) fun v2 => bO (bin Pg .neq 3 true v2 (I 0)) fun v3 => k (p59 t v3) l h)
 (.cond (.tmp 59) (.seq (.reg fun c t l h k => bO (nilC (g8 t)) fun v0 => bO (fa Pg 88 v0 3) fun v1 => bO (ld Pg 3 v1 l h) fun v2 => bO (nilC (g8 t)) fun v3 => bO (fa Pg 88 v3 2) fun v4 => bO (ld Pg 3 v4 l h) fun v5 => k (p4 (p3 (p2 t .nils) v2) v5) l h)
 .ret) .skip))
 (.seq (.reg fun c t l h k => k (p4 (p3 (p2 t (g9 t)) (I 0)) (I 0)) l h)
 .ret))))))))

def kp25 : List Nat := [0, 2, 4, 10]
def rc25 : RC := (.seq (.reg fun c t l h k => k (p2 t (.str ⟨0, 0⟩)) l h)
 (.seq (.seq (.reg fun c t l h k => bO (bin Pg .lss 3 true (g0 t) (I 0)) fun v0 => k (p4 t v0) l h)
 (.cond (.tmp 4) (.seq (.reg fun c t l h k => bO (G.un .neg (g0 t)) fun v0 => cl c 25 [v0] t l h fun v1 l1 h1 => bO (bin Pg .add 9 true (.str ⟨1, 45⟩) v1) fun v2 => k (p2 t v2) l1 h1)
 .ret) .skip))
 (.seq (.seq (.reg fun c t l h k => bO (bin Pg .lss 3 true (g0 t) (I 10)) fun v0 => k (p10 t v0) l h)
 (.cond (.tmp 10) (.seq (.reg fun c t l h k => bO (bin Pg .add 3 true (g0 t) (I 1)) fun v0 => bO (slc Pg 9 (.str ⟨10, 270211885617516653982000⟩) (some (g0 t)) (some v0) none) fun v1 => k (p2 t v1) l h)
 .ret) .skip))
 (.seq (.reg fun c t l h k => bO (bin Pg .quo 3 true (g0 t) (I 10)) fun v0 => cl c 25 [v0] t l h fun v1 l1 h1 => bO (bin Pg .rem 3 true (g0 t) (I 10)) fun v2 => cl c 25 [v2] t l1 h1 fun v3 l3 h3 => bO (bin Pg .add 9 false v1 v3) fun v4 => k (p2 t v4) l3 h3)
 .ret))))

def kp31 : List Nat := [0, 1, 4]
def rc31 : RC := (.seq (.reg fun c t l h k => k (p4 t (.bool false)) l h)
 (.seq (.reg fun c t l h k => cl c 57 [(g0 t), (g1 t)] t l h fun v0 l0 h0 => bO (bin Pg .geq 3 true v0 (I 0)) fun v1 => k (p4 t v1) l0 h0)
 .ret))

def kp32 : List Nat := [0, 1, 2, 10]
def rc32 : RC := (.seq (.reg fun c t l h k => bO (nilC (g0 t)) fun v0 => bO (fa Pg 61 v0 4) fun v1 => bO (ld Pg 27 v1 l h) fun v2 => bO (bin Pg .eql 27 true v2 .nili) fun v3 => k (p10 t v3) l h)
 (.cond (.tmp 10) (.reg fun c t l h k => gn Tryd.f32 32 1 3 c (p13 (p12 t (g1 t)) (g2 t)) t l h (fun v0 l0 h0 => gn Tryd.f32 32 1 4 c (p14 t v0) t l0 h0 (fun v1 l1 h1 => gn Tryd.f32 32 1 5 c (p15 t v1) t l1 h1 (fun v2 l2 h2 => bO (nilC (g0 t)) fun v3 => bO (fa Pg 61 v3 4) fun v4 => jn (fun v5 l5 h5 => k t l5 h5) fun j5 => sto 27 v4 v2 l2 h2 j5 (gn Tryd.f32 32 1 8 c (p16 (p18 t v4) v2) t l2 h2 j5))))) .skip))

def kp33 : List Nat := [0, 1, 3, 4, 5, 6, 8, 10, 17, 18, 19, 20, 26]
def rc33 : RC := (.seq (.reg fun c t l h k => gn Tryd.f33 33 0 0 c (p1 t (g1 t)) t l h (fun v0 l0 h0 => al Pg 53 4 l0 fun v1 l1 => k (p4 (p3 t v0) v1) l1 h0))
 (.seq (.seq (.reg fun c t l h k => bO (fa Pg 53 (g3 t) 3) fun v0 => bO (ld Pg 4 v0 l h) fun v1 => k (p10 t v1) l h)
 (.cond (.tmp 10) (.reg fun c t l h k => bO (fa Pg 53 (g3 t) 1) fun v0 => bO (ld Pg 9 v0 l h) fun v1 => bO (nilC (g0 t)) fun v2 => bO (fa Pg 61 v2 2) fun v3 => jn (fun v4 l4 h4 => k t l4 h4) fun j4 => sto 9 v3 v1 l h j4 (gn Tryd.f33 33 2 5 c (p13 (p15 t v3) v1) t l h j4)) .skip))
 (.seq (.reg fun c t l h k => k (p5 t .nils) l h)
 (.seq (.reg fun c t l h k => k (p6 t .nils) l h)
 (.seq (.seq (.reg fun c t l h k => bO (fa Pg 53 (g3 t) 4) fun v0 => bO (ld Pg 46 v0 l h) fun v1 => bO (len (Pg.underlying 46) v1) fun v2 => k (p19 (p18 (p17 t v1) v2) (I 0)) l h)
 (.block 0 (.loop (.seq (.reg fun c t l h k => bO (bin Pg .lss 3 false (g19 t) (g18 t)) fun v0 => k (p20 t v0) l h)
 (.seq (.cond (.tmp 20) .skip (.exit 0))
 (.seq (.block 1 (.seq (.reg fun c t l h k => bO (ia Pg 46 (g17 t) (g19 t)) fun v0 => bO (ld Pg 77 v0 l h) fun v1 => al Pg 77 8 l fun v2 l2 => jn (fun v3 l3 h3 => k (p8 t v2) l3 h3) fun j3 => sto 77 v2 v1 l2 h j3 (gn Tryd.f33 33 7 3 c (p22 (p8 t v2) v1) t l2 h j3))
 (.seq (.seq (.reg fun c t l h k => bO (fa Pg 77 (g8 t) 0) fun v0 => bO (ld Pg 9 v0 l h) fun v1 => cl c 31 [(g5 t), v1] t l h fun v2 l2 h2 => k (p26 t v2) l2 h2)
 (.cond (.tmp 26) (.reg fun c t l h k => bO (fa Pg 77 (g8 t) 2) fun v0 => bO (ld Pg 3 v0 l h) fun v1 => cl c 32 [(g0 t), v1, (I 171)] t l h fun v2 l2 h2 => k t l2 h2) .skip))
 (.seq (.reg fun c t l h k => bO (fa Pg 77 (g8 t) 1) fun v0 => bO (fa Pg 49 v0 2) fun v1 => bO (ld Pg 47 v1 l h) fun v2 => jE ((35, (g5 t)) :: (34, v2) :: (33, v1) :: (32, v0) :: (31, (g0 t)) :: []) fun e3 => jF (ft0 :: (ldF v1) :: ft0 :: ft0 :: ft0 :: []) fun q3 => clD c 59 [(g5 t)] l h (fun v3 f3 l3 h3 => bO (fa Pg 77 (g8 t) 1) fun v4 => bO (fa Pg 49 v4 1) fun v5 => bO (ld Pg 9 v5 l3 h3) fun v6 => jE ((39, v6) :: (38, v5) :: (37, v4) :: (36, v3) :: e3) fun e7 => jF ((ldF v5) :: ft0 :: ft0 :: f3 :: q3) fun q7 => gD Tryd.f33 33 10 9 c (p39 t v6) l3 h3 (fun v7 f7 l7 h7 => jE ((40, v7) :: e7) fun e8 => jF (f7 :: q7) fun q8 => gD Tryd.f33 33 10 10 c (p40 (p36 t v3) v7) l7 h7 (fun v8 f8 l8 h8 => jE ((41, v8) :: e8) fun e9 => jF (f8 :: q8) fun q9 => clD c 58 [(g0 t), v2, v8] l8 h8 (fun v9 f9 l9 h9 => bO (fa Pg 77 (g8 t) 1) fun v10 => bO (fa Pg 49 v10 2) fun v11 => jE ((44, v11) :: (43, v10) :: (42, v9) :: e9) fun e12 => jF (ft0 :: ft0 :: f9 :: q9) fun q12 => gD Tryd.f33 33 10 14 c (p42 (p44 t v11) v9) l9 h9 (fun v12 f12 l12 h12 => finD (rgA Tryd.f33 10).toList [(3, 10)] [(3, 5), (5, 8), (3, 10)] (f12 :: q12) (k t l12 h12)) (sD Tryd.f33 33 10 c 14 none e12 q12 t l9 h9)) (sD Tryd.f33 33 10 c 11 (some 42) e9 q9 t l8 h8)) (sD Tryd.f33 33 10 c 10 (some 41) e8 q8 t l7 h7)) (sD Tryd.f33 33 10 c 9 (some 40) e7 q7 t l3 h3)) (sD Tryd.f33 33 10 c 5 (some 36) e3 q3 t l h))
 (.seq (.reg fun c t l h k => bO (fa Pg 77 (g8 t) 0) fun v0 => bO (ld Pg 9 v0 l h) fun v1 => bO (bs Pg 36 1 [(0, v1)]) fun v2 => gn Tryd.f33 33 11 4 c (p48 (p45 t (g5 t)) v2) t l h (fun v3 l3 h3 => k (p5 t v3) l3 h3))
 (.reg fun c t l h k => bO (ld Pg 77 (g8 t) l h) fun v0 => bO (bs Pg 46 1 [(0, v0)]) fun v1 => gn Tryd.f33 33 12 3 c (p52 (p50 t (g6 t)) v1) t l h (fun v2 l2 h2 => k (p6 t v2) l2 h2)))))))
 (.reg fun c t l h k => bO (bin Pg .add 3 true (g19 t) (I 1)) fun v0 => k (p19 t v0) l h)))))))
 (.seq (.reg fun c t l h k => bO (fa Pg 53 (g3 t) 4) fun v0 => jn (fun v1 l1 h1 => k t l1 h1) fun j1 => sto 46 v0 (g6 t) l h j1 (gn Tryd.f33 33 14 2 c (p55 (p56 t v0) (g6 t)) t l h j1))
 (.seq (.reg fun c t l h k => bO (fa Pg 53 (g3 t) 7) fun v0 => bO (ld Pg 47 v0 l h) fun v1 => cl c 58 [(g0 t), v1, (g5 t)] t l h fun v2 l2 h2 => bO (fa Pg 53 (g3 t) 7) fun v3 => jn (fun v4 l4 h4 => k t l4 h4) fun j4 => sto 47 v3 v2 l2 h2 j4 (gn Tryd.f33 33 15 6 c (p61 (p62 t v3) v2) t l2 h2 j4))
 (.seq (.reg fun c t l h k => bO (fa Pg 53 (g3 t) 6) fun v0 => bO (fa Pg 49 v0 2) fun v1 => bO (ld Pg 47 v1 l h) fun v2 => jE ((67, (g5 t)) :: (66, v2) :: (65, v1) :: (64, v0) :: (63, (g0 t)) :: []) fun e3 => jF (ft0 :: (ldF v1) :: ft0 :: ft0 :: ft0 :: []) fun q3 => clD c 59 [(g5 t)] l h (fun v3 f3 l3 h3 => bO (fa Pg 53 (g3 t) 6) fun v4 => bO (fa Pg 49 v4 1) fun v5 => bO (ld Pg 9 v5 l3 h3) fun v6 => jE ((71, v6) :: (70, v5) :: (69, v4) :: (68, v3) :: e3) fun e7 => jF ((ldF v5) :: ft0 :: ft0 :: f3 :: q3) fun q7 => gD Tryd.f33 33 16 9 c (p71 t v6) l3 h3 (fun v7 f7 l7 h7 => jE ((72, v7) :: e7) fun e8 => jF (f7 :: q7) fun q8 => gD Tryd.f33 33 16 10 c (p72 (p68 t v3) v7) l7 h7 (fun v8 f8 l8 h8 => jE ((73, v8) :: e8) fun e9 => jF (f8 :: q8) fun q9 => clD c 58 [(g0 t), v2, v8] l8 h8 (fun v9 f9 l9 h9 => bO (fa Pg 53 (g3 t) 6) fun v10 => bO (fa Pg 49 v10 2) fun v11 => jE ((76, v11) :: (75, v10) :: (74, v9) :: e9) fun e12 => jF (ft0 :: ft0 :: f9 :: q9) fun q12 => gD Tryd.f33 33 16 14 c (p74 (p76 t v11) v9) l9 h9 (fun v12 f12 l12 h12 => finD (rgA Tryd.f33 16).toList [(3, 10)] [(3, 5), (5, 8), (3, 10)] (f12 :: q12) (k t l12 h12)) (sD Tryd.f33 33 16 c 14 none e12 q12 t l9 h9)) (sD Tryd.f33 33 16 c 11 (some 74) e9 q9 t l8 h8)) (sD Tryd.f33 33 16 c 10 (some 73) e8 q8 t l7 h7)) (sD Tryd.f33 33 16 c 9 (some 72) e7 q7 t l3 h3)) (sD Tryd.f33 33 16 c 5 (some 68) e3 q3 t l h))
 (.seq (.reg fun c t l h k => bO (nilC (g0 t)) fun v0 => bO (fa Pg 61 v0 3) fun v1 => jn (fun v2 l2 h2 => k t l2 h2) fun j2 => sto 4 v1 (.bool true) l h j2 (gn Tryd.f33 33 17 3 c (p79 t v1) t l h j2))
 (.seq (.reg fun c t l h k => bO (fa Pg 53 (g3 t) 9) fun v0 => bO (ld Pg 47 v0 l h) fun v1 => jE ((83, (g5 t)) :: (82, v1) :: (81, v0) :: (80, (g0 t)) :: []) fun e2 => jF (ft0 :: (ldF v0) :: ft0 :: ft0 :: []) fun q2 => clD c 59 [(g5 t)] l h (fun v2 f2 l2 h2 => bO (fa Pg 53 (g3 t) 8) fun v3 => bO (ld Pg 9 v3 l2 h2) fun v4 => jE ((86, v4) :: (85, v3) :: (84, v2) :: e2) fun e5 => jF ((ldF v3) :: ft0 :: f2 :: q2) fun q5 => gD Tryd.f33 33 18 7 c (p86 t v4) l2 h2 (fun v5 f5 l5 h5 => jE ((87, v5) :: e5) fun e6 => jF (f5 :: q5) fun q6 => gD Tryd.f33 33 18 8 c (p87 (p84 t v2) v5) l5 h5 (fun v6 f6 l6 h6 => jE ((88, v6) :: e6) fun e7 => jF (f6 :: q6) fun q7 => clD c 58 [(g0 t), v1, v6] l6 h6 (fun v7 f7 l7 h7 => bO (fa Pg 53 (g3 t) 9) fun v8 => jE ((90, v8) :: (89, v7) :: e7) fun e9 => jF (ft0 :: f7 :: q7) fun q9 => gD Tryd.f33 33 18 11 c (p89 (p90 t v8) v7) l7 h7 (fun v9 f9 l9 h9 => finD (rgA Tryd.f33 18).toList [(2, 8)] [(2, 4), (4, 6), (2, 8)] (f9 :: q9) (k t l9 h9)) (sD Tryd.f33 33 18 c 11 none e9 q9 t l7 h7)) (sD Tryd.f33 33 18 c 9 (some 89) e7 q7 t l6 h6)) (sD Tryd.f33 33 18 c 8 (some 88) e6 q6 t l5 h5)) (sD Tryd.f33 33 18 c 7 (some 87) e5 q5 t l2 h2)) (sD Tryd.f33 33 18 c 4 (some 84) e2 q2 t l h))
 (.seq (.reg fun c t l h k => bO (nilC (g0 t)) fun v0 => bO (fa Pg 61 v0 3) fun v1 => jn (fun v2 l2 h2 => k t l2 h2) fun j2 => sto 4 v1 (.bool false) l h j2 (gn Tryd.f33 33 19 3 c (p93 t v1) t l h j2))
 (.seq (.reg fun c t l h k => bO (fa Pg 53 (g3 t) 10) fun v0 => bO (ld Pg 47 v0 l h) fun v1 => cl c 58 [(g0 t), v1, (g5 t)] t l h fun v2 l2 h2 => bO (fa Pg 53 (g3 t) 10) fun v3 => jn (fun v4 l4 h4 => k t l4 h4) fun j4 => sto 47 v3 v2 l2 h2 j4 (gn Tryd.f33 33 20 6 c (p98 (p99 t v3) v2) t l2 h2 j4))
 (.seq (.reg fun c t l h k => bO (fa Pg 53 (g3 t) 11) fun v0 => bO (ld Pg 51 v0 l h) fun v1 => cl c 60 [(g0 t), v1, (g5 t)] t l h fun v2 l2 h2 => bO (fa Pg 53 (g3 t) 11) fun v3 => jn (fun v4 l4 h4 => k t l4 h4) fun j4 => sto 51 v3 v2 l2 h2 j4 (gn Tryd.f33 33 21 6 c (p104 (p105 t v3) v2) t l2 h2 j4))
 (.seq (.reg fun c t l h k => bO (nilC (g0 t)) fun v0 => bO (fa Pg 61 v0 2) fun v1 => jn (fun v2 l2 h2 => k t l2 h2) fun j2 => sto 9 v1 (.str ⟨0, 0⟩) l h j2 (gn Tryd.f33 33 22 3 c (p108 t v1) t l h j2))
 (.seq (.reg fun c t l h k => bO (ld Pg 53 (g3 t) l h) fun v0 => jn (fun v1 l1 h1 => k t l1 h1) fun j1 => sto 53 (g4 t) v0 l h j1 (gn Tryd.f33 33 23 1 c (p109 (p4 t (g4 t)) v0) t l h j1))
 .ret)))))))))))))))

def kp42 : List Nat := [0, 2, 3, 4, 5, 6, 7, 8, 9, 10, 11, 12, 13, 16, 20, 28, 48, 76, 84, 92, 97, 103, 115, 118, 131, 138, 150, 159, 167, 184, 198, 202]
def rc42 : RC := (.seq (.reg fun c t l h k => k (p4 (p3 (p2 t .nils) (I 0)) (I 0)) l h)
 (.seq (.seq (.reg fun c t l h k => bO (len (Pg.underlying 9) (g0 t)) fun v0 => bO (bin Pg .gtr 3 true v0 (I 65536)) fun v1 => k (p16 t v1) l h)
 (.cond (.tmp 16) (.seq (.reg fun c t l h k => k (p4 (p3 (p2 t .nils) (I 65536)) (I 141)) l h)
 .ret) .skip))
 (.seq (.reg fun c t l h k => k (p5 t .nils) l h)
 (.seq (.reg fun c t l h k => k (p6 t (I 0)) l h)
 (.seq (.block 0 (.loop (.seq (.seq (.reg fun c t l h k => bO (len (Pg.underlying 9) (g0 t)) fun v0 => bO (bin Pg .lss 3 false (g6 t) v0) fun v1 => k (p20 t v1) l h)
 (.cond (.tmp 20) .skip (.exit 0)))
 (.block 1 (.seq (.reg fun c t l h k => cl c 65 [(g0 t), (g6 t)] t l h fun v0 l0 h0 => bO (ext v0 0) fun v1 => bO (ext v0 1) fun v2 => k (p8 (p7 t v1) v2) l0 h0)
 (.seq (.seq (.reg fun c t l h k => bO (bin Pg .eql 3 true (g7 t) (I 1)) fun v0 => k (p28 t v0) l h)
 (.cond (.tmp 28) (.seq (.reg fun c t l h k => bO (bin Pg .add 3 true (g6 t) (I 1)) fun v0 => k (p6 t v0) l h)
 (.exit 1)) .skip))
 (.seq (.seq (.reg fun c t l h k => bO (bin Pg .add 3 true (g6 t) (I 1)) fun v0 => bO (len (Pg.underlying 9) (g0 t)) fun v1 => bO (bin Pg .lss 3 false v0 v1) fun v2 => jn (fun v3 l3 h3 => jn (fun v4 l4 h4 => jn (fun v5 l5 h5 => jn (fun v6 l6 h6 => bO (pick v2 v6 (.bool false)) fun v7 => jn (fun v8 l8 h8 => jn (fun v9 l9 h9 => jn (fun v10 l10 h10 => jn (fun v11 l11 h11 => jn (fun v12 l12 h12 => bO (pick v7 v12 (.bool false)) fun v13 => k (p48 t v13) l12 h12) fun j12 => brB (wv v7 true) (j12 (.tuple []) l11 h11) (bO (bin Pg .eql 5 true v11 (.int .u8 (.ofNat 42))) fun v13 => j12 v13 l11 h11)) fun j11 => brB (wv v7 true) (j11 (.tuple []) l10 h10) (bO (idx Pg 9 v8 v10) fun v12 => j11 v12 l10 h10)) fun j10 => brB (wv v7 true) (j10 (.tuple []) l9 h9) (bO (bin Pg .add 3 true v9 (I 1)) fun v11 => j10 v11 l9 h9)) fun j9 => brB (wv v7 true) (j9 (.tuple []) l8 h8) (j9 (g6 t) l8 h8)) fun j8 => brB (wv v7 true) (j8 (.tuple []) l6 h6) (j8 (g0 t) l6 h6)) fun j6 => brB (wv v2 true) (j6 (.tuple []) l5 h5) (bO (bin Pg .eql 5 true v5 (.int .u8 (.ofNat 40))) fun v7 => j6 v7 l5 h5)) fun j5 => brB (wv v2 true) (j5 (.tuple []) l4 h4) (bO (idx Pg 9 v3 v4) fun v6 => j5 v6 l4 h4)) fun j4 => brB (wv v2 true) (j4 (.tuple []) l3 h3) (j4 (g6 t) l3 h3)) fun j3 => brB (wv v2 true) (j3 (.tuple []) l h) (j3 (g0 t) l h))
 (.cond (.tmp 48) (.seq (.reg fun c t l h k => k (p9 t (g6 t)) l h)
 (.seq (.reg fun c t l h k => bO (bin Pg .add 3 true (g6 t) (I 2)) fun v0 => k (p6 t v0) l h)
 (.seq (.block 2 (.loop (.seq (.seq (.reg fun c t l h k => bO (len (Pg.underlying 9) (g0 t)) fun v0 => bO (bin Pg .lss 3 false (g6 t) v0) fun v1 => jn (fun v2 l2 h2 => jn (fun v3 l3 h3 => jn (fun v4 l4 h4 => jn (fun v5 l5 h5 => jn (fun v6 l6 h6 => jn (fun v7 l7 h7 => jn (fun v8 l8 h8 => jn (fun v9 l9 h9 => jn (fun v10 l10 h10 => jn (fun v11 l11 h11 => jn (fun v12 l12 h12 => jn (fun v13 l13 h13 => jn (fun v14 l14 h14 => jn (fun v15 l15 h15 => jn (fun v16 l16 h16 => jn (fun v17 l17 h17 => jn (fun v18 l18 h18 => jn (fun v19 l19 h19 => jn (fun v20 l20 h20 => bO (pick v1 v20 (.bool false)) fun v21 => k (p76 t v21) l20 h20) fun j20 => brB (wv v1 true) (j20 (.tuple []) l19 h19) (bO (G.un .not v19) fun v21 => j20 v21 l19 h19)) fun j19 => brB (wv v1 true) (j19 (.tuple []) l18 h18) (bO (pick v13 v18 (.bool false)) fun v20 => j19 v20 l18 h18)) fun j18 => brB (wv v13 true) (j18 (.tuple []) l17 h17) (bO (bin Pg .eql 5 true v17 (.int .u8 (.ofNat 41))) fun v19 => j18 v19 l17 h17)) fun j17 => brB (wv v13 true) (j17 (.tuple []) l16 h16) (bO (idx Pg 9 v14 v16) fun v18 => j17 v18 l16 h16)) fun j16 => brB (wv v13 true) (j16 (.tuple []) l15 h15) (bO (bin Pg .add 3 true v15 (I 1)) fun v17 => j16 v17 l15 h15)) fun j15 => brB (wv v13 true) (j15 (.tuple []) l14 h14) (j15 (g6 t) l14 h14)) fun j14 => brB (wv v13 true) (j14 (.tuple []) l13 h13) (j14 (g0 t) l13 h13)) fun j13 => brB (wv v1 true) (j13 (.tuple []) l12 h12) (j13 v12 l12 h12)) fun j12 => brB (wv v1 true) (j12 (.tuple []) l11 h11) (bO (pick v7 v11 (.bool false)) fun v13 => j12 v13 l11 h11)) fun j11 => brB (wv v7 true) (j11 (.tuple []) l10 h10) (bO (bin Pg .eql 5 true v10 (.int .u8 (.ofNat 42))) fun v12 => j11 v12 l10 h10)) fun j10 => brB (wv v7 true) (j10 (.tuple []) l9 h9) (bO (idx Pg 9 v8 v9) fun v11 => j10 v11 l9 h9)) fun j9 => brB (wv v7 true) (j9 (.tuple []) l8 h8) (j9 (g6 t) l8 h8)) fun j8 => brB (wv v7 true) (j8 (.tuple []) l7 h7) (j8 (g0 t) l7 h7)) fun j7 => brB (wv v1 true) (j7 (.tuple []) l6 h6) (j7 v6 l6 h6)) fun j6 => brB (wv v1 true) (j6 (.tuple []) l5 h5) (bO (bin Pg .lss 3 false v3 v5) fun v7 => j6 v7 l5 h5)) fun j5 => brB (wv v1 true) (j5 (.tuple []) l4 h4) (bO (len (Pg.underlying 9) v4) fun v6 => j5 v6 l4 h4)) fun j4 => brB (wv v1 true) (j4 (.tuple []) l3 h3) (j4 (g0 t) l3 h3)) fun j3 => brB (wv v1 true) (j3 (.tuple []) l2 h2) (bO (bin Pg .add 3 true v2 (I 1)) fun v4 => j3 v4 l2 h2)) fun j2 => brB (wv v1 true) (j2 (.tuple []) l h) (j2 (g6 t) l h))
 (.cond (.tmp 76) .skip (.exit 2)))
 (.block 3 (.seq (.reg fun c t l h k => cl c 65 [(g0 t), (g6 t)] t l h fun v0 l0 h0 => bO (ext v0 0) fun v1 => bO (ext v0 1) fun v2 => k (p8 (p7 t v1) v2) l0 h0)
 (.seq (.seq (.reg fun c t l h k => bO (bin Pg .eql 3 true (g7 t) (I 0)) fun v0 => k (p84 t v0) l h)
 (.cond (.tmp 84) (.seq (.reg fun c t l h k => k (p4 (p3 (p2 t .nils) (g6 t)) (I 140)) l h)
 .ret) .skip))
 (.reg fun c t l h k => bO (bin Pg .add 3 false (g6 t) (g8 t)) fun v0 => k (p6 t v0) l h)))))))
 (.seq (.seq (.reg fun c t l h k => bO (len (Pg.underlying 9) (g0 t)) fun v0 => bO (bin Pg .geq 3 false (g6 t) v0) fun v1 => k (p92 t v1) l h)
 (.cond (.tmp 92) (.seq (.reg fun c t l h k => k (p4 (p3 (p2 t .nils) (g9 t)) (I 140)) l h)
 .ret) .skip))
 (.seq (.reg fun c t l h k => bO (bin Pg .add 3 true (g6 t) (I 2)) fun v0 => k (p6 t v0) l h)
 (.exit 1)))))) .skip))
 (.seq (.reg fun c t l h k => k (p10 t (g6 t)) l h)
 (.seq (.reg fun c t l h k => k (p97 t (g7 t)) l h)
 (.block 4 (.seq (.reg fun c t l h k => bO (bin Pg .eql 3 true (g97 t) (I 0)) fun v0 => k (p115 t v0) l h)
 (.cond (.tmp 115) (.seq (.reg fun c t l h k => k (p4 (p3 (p2 t .nils) (g6 t)) (I 140)) l h)
 .ret) (.seq (.reg fun c t l h k => bO (bin Pg .eql 3 true (g97 t) (I 2)) fun v0 => k (p118 t v0) l h)
 (.cond (.tmp 118) (.seq (.block 5 (.loop (.seq (.seq (.reg fun c t l h k => bO (len (Pg.underlying 9) (g0 t)) fun v0 => bO (bin Pg .lss 3 false (g6 t) v0) fun v1 => jn (fun v2 l2 h2 => jn (fun v3 l3 h3 => jn (fun v4 l4 h4 => jn (fun v5 l5 h5 => jn (fun v6 l6 h6 => jn (fun v7 l7 h7 => bO (pick v1 v7 (.bool false)) fun v8 => k (p131 t v8) l7 h7) fun j7 => brB (wv v1 true) (j7 (.tuple []) l6 h6) (bO (pick v4 (.bool true) v6) fun v8 => j7 v8 l6 h6)) fun j6 => brB (wv v4 false) (j6 (.tuple []) l5 h5) (bO (bin Pg .eql 3 true v5 (I 3)) fun v7 => j6 v7 l5 h5)) fun j5 => brB (wv v4 false) (j5 (.tuple []) l4 h4) (j5 (g7 t) l4 h4)) fun j4 => brB (wv v1 true) (j4 (.tuple []) l3 h3) (j4 v3 l3 h3)) fun j3 => brB (wv v1 true) (j3 (.tuple []) l2 h2) (bO (bin Pg .eql 3 true v2 (I 2)) fun v4 => j3 v4 l2 h2)) fun j2 => brB (wv v1 true) (j2 (.tuple []) l h) (j2 (g7 t) l h))
 (.cond (.tmp 131) .skip (.exit 5)))
 (.block 6 (.seq (.reg fun c t l h k => bO (bin Pg .add 3 false (g6 t) (g8 t)) fun v0 => k (p6 t v0) l h)
 (.seq (.reg fun c t l h k => bO (len (Pg.underlying 9) (g0 t)) fun v0 => bO (bin Pg .lss 3 false (g6 t) v0) fun v1 => k (p138 t v1) l h)
 (.cond (.tmp 138) (.reg fun c t l h k => cl c 65 [(g0 t), (g6 t)] t l h fun v0 l0 h0 => bO (ext v0 0) fun v1 => bO (ext v0 1) fun v2 => k (p8 (p7 t v1) v2) l0 h0) .skip)))))))
 (.seq (.reg fun c t l h k => bO (slc Pg 9 (g0 t) (some (g10 t)) (some (g6 t)) none) fun v0 => k (p11 t v0) l h)
 (.seq (.reg fun c t l h k => cl c 66 [(g11 t)] t l h fun v0 l0 h0 => k (p150 t v0) l0 h0)
 (.cond (.tmp 150) (.reg fun c t l h k => gn Tryd.f42 42 36 3 c (p153 (p152 t (g11 t)) (g10 t)) t l h (fun v0 l0 h0 => bO (bs Pg 83 1 [(0, v0)]) fun v1 => gn Tryd.f42 42 36 5 c (p155 (p151 t (g5 t)) v1) t l0 h0 (fun v2 l2 h2 => k (p5 t v2) l2 h2))) (.seq (.seq (.reg fun c t l h k => bO (len (Pg.underlying 9) (g11 t)) fun v0 => bO (bin Pg .gtr 3 true v0 (I 40)) fun v1 => k (p159 t v1) l h)
 (.cond (.tmp 159) (.seq (.reg fun c t l h k => k (p4 (p3 (p2 t .nils) (g10 t)) (I 141)) l h)
 .ret) .skip))
 (.reg fun c t l h k => gn Tryd.f42 42 39 3 c (p163 (p162 t (g11 t)) (g10 t)) t l h (fun v0 l0 h0 => bO (bs Pg 83 1 [(0, v0)]) fun v1 => gn Tryd.f42 42 39 5 c (p165 (p161 t (g5 t)) v1) t l0 h0 (fun v2 l2 h2 => k (p5 t v2) l2 h2)))))))) (.seq (.reg fun c t l h k => bO (bin Pg .eql 3 true (g97 t) (I 3)) fun v0 => k (p167 t v0) l h)
 (.cond (.tmp 167) (.seq (.block 7 (.loop (.seq (.seq (.reg fun c t l h k => bO (len (Pg.underlying 9) (g0 t)) fun v0 => bO (bin Pg .lss 3 false (g6 t) v0) fun v1 => jn (fun v2 l2 h2 => jn (fun v3 l3 h3 => jn (fun v4 l4 h4 => jn (fun v5 l5 h5 => bO (pick v1 v5 (.bool false)) fun v6 => jn (fun v7 l7 h7 => jn (fun v8 l8 h8 => jn (fun v9 l9 h9 => jn (fun v10 l10 h10 => bO (pick v6 v10 (.bool false)) fun v11 => k (p184 t v11) l10 h10) fun j10 => brB (wv v6 true) (j10 (.tuple []) l9 h9) (bO (bin Pg .leq 5 true v9 (.int .u8 (.ofNat 57))) fun v11 => j10 v11 l9 h9)) fun j9 => brB (wv v6 true) (j9 (.tuple []) l8 h8) (bO (idx Pg 9 v7 v8) fun v10 => j9 v10 l8 h8)) fun j8 => brB (wv v6 true) (j8 (.tuple []) l7 h7) (j8 (g6 t) l7 h7)) fun j7 => brB (wv v6 true) (j7 (.tuple []) l5 h5) (j7 (g0 t) l5 h5)) fun j5 => brB (wv v1 true) (j5 (.tuple []) l4 h4) (bO (bin Pg .geq 5 true v4 (.int .u8 (.ofNat 48))) fun v6 => j5 v6 l4 h4)) fun j4 => brB (wv v1 true) (j4 (.tuple []) l3 h3) (bO (idx Pg 9 v2 v3) fun v5 => j4 v5 l3 h3)) fun j3 => brB (wv v1 true) (j3 (.tuple []) l2 h2) (j3 (g6 t) l2 h2)) fun j2 => brB (wv v1 true) (j2 (.tuple []) l h) (j2 (g0 t) l h))
 (.cond (.tmp 184) .skip (.exit 7)))
 (.block 8 (.reg fun c t l h k => bO (bin Pg .add 3 true (g6 t) (I 1)) fun v0 => k (p6 t v0) l h)))))
 (.seq (.reg fun c t l h k => bO (slc Pg 9 (g0 t) (some (g10 t)) (some (g6 t)) none) fun v0 => k (p12 t v0) l h)
 (.seq (.seq (.reg fun c t l h k => bO (len (Pg.underlying 9) (g12 t)) fun v0 => bO (bin Pg .gtr 3 true v0 (I 1)) fun v1 => jn (fun v2 l2 h2 => jn (fun v3 l3 h3 => jn (fun v4 l4 h4 => bO (pick v1 v4 (.bool false)) fun v5 => k (p198 t v5) l4 h4) fun j4 => brB (wv v1 true) (j4 (.tuple []) l3 h3) (bO (bin Pg .eql 5 true v3 (.int .u8 (.ofNat 48))) fun v5 => j4 v5 l3 h3)) fun j3 => brB (wv v1 true) (j3 (.tuple []) l2 h2) (bO (idx Pg 9 v2 (I 0)) fun v4 => j3 v4 l2 h2)) fun j2 => brB (wv v1 true) (j2 (.tuple []) l h) (j2 (g12 t) l h))
 (.cond (.tmp 198) (.seq (.reg fun c t l h k => k (p4 (p3 (p2 t .nils) (g10 t)) (I 140)) l h)
 .ret) .skip))
 (.seq (.seq (.reg fun c t l h k => bO (len (Pg.underlying 9) (g12 t)) fun v0 => bO (bin Pg .gtr 3 true v0 (I 400)) fun v1 => k (p202 t v1) l h)
 (.cond (.tmp 202) (.seq (.reg fun c t l h k => k (p4 (p3 (p2 t .nils) (g10 t)) (I 141)) l h)
 .ret) .skip))
 (.reg fun c t l h k => gn Tryd.f42 42 48 3 c (p206 (p205 t (g12 t)) (g10 t)) t l h (fun v0 l0 h0 => bO (bs Pg 83 1 [(0, v0)]) fun v1 => gn Tryd.f42 42 48 5 c (p208 (p204 t (g5 t)) v1) t l0 h0 (fun v2 l2 h2 => k (p5 t v2) l2 h2))))))) (.seq (.reg fun c t l h k => bO (slc Pg 9 (g0 t) (some (g6 t)) none none) fun v0 => cl c 67 [v0] t l h fun v1 l1 h1 => k (p13 t v1) l1 h1)
 (.seq (.seq (.reg fun c t l h k => bO (bin Pg .eql 9 true (g13 t) (.str ⟨0, 0⟩)) fun v0 => k (p103 t v0) l h)
 (.cond (.tmp 103) (.seq (.reg fun c t l h k => k (p4 (p3 (p2 t .nils) (g6 t)) (I 140)) l h)
 .ret) .skip))
 (.seq (.reg fun c t l h k => bO (len (Pg.underlying 9) (g13 t)) fun v0 => bO (bin Pg .add 3 false (g6 t) v0) fun v1 => k (p6 t v1) l h)
 (.reg fun c t l h k => gn Tryd.f42 42 26 3 c (p111 (p110 t (g13 t)) (g10 t)) t l h (fun v0 l0 h0 => bO (bs Pg 83 1 [(0, v0)]) fun v1 => gn Tryd.f42 42 26 5 c (p113 (p109 t (g5 t)) v1) t l0 h0 (fun v2 l2 h2 => k (p5 t v2) l2 h2))))))))))))))))))))))
 (.seq (.reg fun c t l h k => bO (len (Pg.underlying 9) (g0 t)) fun v0 => gn Tryd.f42 42 49 3 c (p212 t v0) t l h (fun v1 l1 h1 => bO (bs Pg 83 1 [(0, v1)]) fun v2 => gn Tryd.f42 42 49 5 c (p214 (p210 t (g5 t)) v2) t l1 h1 (fun v3 l3 h3 => k (p4 (p3 (p2 t v3) (I 0)) (I 0)) l3 h3)))
 .ret))))))

def kp43 : List Nat := [0, 2, 7]
def rc43 : RC := (.seq (.reg fun c t l h k => al Pg 90 2 l fun v0 l0 => k (p2 t v0) l0 h)
 (.seq (.seq (.reg fun c t l h k => bO (nilC (g0 t)) fun v0 => bO (fa Pg 88 v0 2) fun v1 => bO (ld Pg 3 v1 l h) fun v2 => bO (bin Pg .neq 3 true v2 (I 0)) fun v3 => k (p7 t v3) l h)
 (.cond (.tmp 7) (.seq (.reg fun c t l h k => gn Tryd.f43 43 2 0 c t t l h (fun v0 l0 h0 => jn (fun v1 l1 h1 => k t l1 h1) fun j1 => sto 90 (g2 t) v0 l0 h0 j1 (gn Tryd.f43 43 2 1 c (p8 (p2 t (g2 t)) v0) t l0 h0 j1)))
 .ret) .skip))
 (.seq (.reg fun c t l h k => bO (nilC (g0 t)) fun v0 => bO (fa Pg 88 v0 0) fun v1 => bO (ld Pg 83 v1 l h) fun v2 => bO (nilC (g0 t)) fun v3 => bO (fa Pg 88 v3 1) fun v4 => bO (ld Pg 3 v4 l h) fun v5 => bO (ia Pg 83 v2 v5) fun v6 => bO (ld Pg 90 v6 l h) fun v7 => jE ((18, v7) :: (17, v6) :: (16, v5) :: (15, v4) :: (14, v3) :: (13, (g0 t)) :: (12, v2) :: (11, v1) :: (10, v0) :: (9, (g0 t)) :: []) fun e8 => jF ((ldF v6) :: ft0 :: (ldF v4) :: ft0 :: ft0 :: ft0 :: (ldF v1) :: ft0 :: ft0 :: ft0 :: []) fun q8 => gD Tryd.f43 43 3 10 c (p18 (p2 t (g2 t)) v7) l h (fun v8 f8 l8 h8 => finD (rgA Tryd.f43 3).toList [] [] (f8 :: q8) (k t l8 h8)) (sD Tryd.f43 43 3 c 10 none e8 q8 t l h))
 .ret)))

def kp44 : List Nat := [0, 1, 4, 5]
def rc44 : RC := (.seq (.reg fun c t l h k => k (p4 t (.bool false)) l h)
 (.seq (.reg fun c t l h k => cl c 43 [(g0 t)] t l h fun v0 l0 h0 => al Pg 90 5 l0 fun v1 l1 => jn (fun v2 l2 h2 => k (p5 t v1) l2 h2) fun j2 => sto 90 v1 v0 l1 h0 j2 (gn Tryd.f44 44 1 3 c (p7 (p5 t v1) v0) t l1 h0 j2))
 (.seq (.reg fun c t l h k => bO (nilC (g0 t)) fun v0 => bO (fa Pg 88 v0 2) fun v1 => bO (ld Pg 3 v1 l h) fun v2 => bO (bin Pg .eql 3 true v2 (I 0)) fun v3 => jn (fun v4 l4 h4 => jn (fun v5 l5 h5 => jn (fun v6 l6 h6 => jn (fun v7 l7 h7 => jn (fun v8 l8 h8 => jn (fun v9 l9 h9 => jn (fun v10 l10 h10 => jn (fun v11 l11 h11 => bO (pick v3 v11 (.bool false)) fun v12 => jn (fun v13 l13 h13 => jn (fun v14 l14 h14 => jn (fun v15 l15 h15 => jn (fun v16 l16 h16 => bO (pick v12 v16 (.bool false)) fun v17 => k (p4 t v17) l16 h16) fun j16 => brB (wv v12 true) (j16 (.tuple []) l15 h15) (bO (bin Pg .eql 9 false v14 v15) fun v17 => j16 v17 l15 h15)) fun j15 => brB (wv v12 true) (j15 (.tuple []) l14 h14) (j15 (g1 t) l14 h14)) fun j14 => brB (wv v12 true) (j14 (.tuple []) l13 h13) (bO (ld Pg 9 v13 l13 h13) fun v15 => j14 v15 l13 h13)) fun j13 => brB (wv v12 true) (j13 (.tuple []) l11 h11) (bO (fa Pg 90 (g5 t) 1) fun v14 => j13 v14 l11 h11)) fun j11 => brB (wv v3 true) (j11 (.tuple []) l10 h10) (bO (pick v7 (.bool true) v10) fun v12 => j11 v12 l10 h10)) fun j10 => brB (wv v7 false) (j10 (.tuple []) l9 h9) (bO (bin Pg .eql 3 true v9 (I 4)) fun v11 => j10 v11 l9 h9)) fun j9 => brB (wv v7 false) (j9 (.tuple []) l8 h8) (bO (ld Pg 3 v8 l8 h8) fun v10 => j9 v10 l8 h8)) fun j8 => brB (wv v7 false) (j8 (.tuple []) l7 h7) (bO (fa Pg 90 (g5 t) 0) fun v9 => j8 v9 l7 h7)) fun j7 => brB (wv v3 true) (j7 (.tuple []) l6 h6) (j7 v6 l6 h6)) fun j6 => brB (wv v3 true) (j6 (.tuple []) l5 h5) (bO (bin Pg .eql 3 true v5 (I 2)) fun v7 => j6 v7 l5 h5)) fun j5 => brB (wv v3 true) (j5 (.tuple []) l4 h4) (bO (ld Pg 3 v4 l4 h4) fun v6 => j5 v6 l4 h4)) fun j4 => brB (wv v3 true) (j4 (.tuple []) l h) (bO (fa Pg 90 (g5 t) 0) fun v5 => j4 v5 l h))
 .ret)))

def kp45 : List Nat := [0, 1, 2, 10]
def rc45 : RC := (.seq (.reg fun c t l h k => bO (nilC (g0 t)) fun v0 => bO (fa Pg 88 v0 2) fun v1 => bO (ld Pg 3 v1 l h) fun v2 => bO (bin Pg .eql 3 true v2 (I 0)) fun v3 => k (p10 t v3) l h)
 (.cond (.tmp 10) (.reg fun c t l h k => bO (nilC (g0 t)) fun v0 => bO (fa Pg 88 v0 2) fun v1 => jn (fun v2 l2 h2 => bO (nilC (g0 t)) fun v3 => bO (fa Pg 88 v3 3) fun v4 => jn (fun v5 l5 h5 => k t l5 h5) fun j5 => sto 3 v4 (g1 t) l2 h2 j5 (gn Tryd.f45 45 1 9 c (p14 (p18 t v4) (g1 t)) t l2 h2 j5)) fun j2 => sto 3 v1 (g2 t) l h j2 (gn Tryd.f45 45 1 6 c (p13 (p16 t v1) (g2 t)) t l h j2)) .skip))

def kp46 : List Nat := [0, 2, 3, 4, 5, 6, 7, 8, 9, 10, 11, 12, 13, 14, 16, 32, 47, 76, 80, 119, 127, 133, 143, 150, 163, 170]
def rc46 : RC := (.seq (.reg fun c t l h k => al Pg 53 2 l fun v0 l0 => k (p2 t v0) l0 h)
 (.seq (.reg fun c t l h k => al Pg 53 3 l fun v0 l0 => k (p3 t v0) l0 h)
 (.seq (.seq (.reg fun c t l h k => cl c 68 [(g0 t), (.str ⟨3, 6710642⟩)] t l h fun v0 l0 h0 => k (p16 t v0) l0 h0)
 (.cond (.tmp 16) (.seq (.reg fun c t l h k => cl c 69 [(g0 t)] t l h fun v0 l0 h0 => al Pg 90 4 l0 fun v1 l1 => jn (fun v2 l2 h2 => k (p4 t v1) l2 h2) fun j2 => sto 90 v1 v0 l1 h0 j2 (gn Tryd.f46 46 3 3 c (p18 (p4 t v1) v0) t l1 h0 j2))
 (.seq (.reg fun c t l h k => bO (fa Pg 90 (g4 t) 1) fun v0 => bO (ld Pg 9 v0 l h) fun v1 => bO (fa Pg 90 (g4 t) 2) fun v2 => bO (ld Pg 3 v2 l h) fun v3 => gn Tryd.f46 46 4 4 c (p22 (p20 t v1) v3) t l h (fun v4 l4 h4 => jn (fun v5 l5 h5 => k t l5 h5) fun j5 => sto 53 (g3 t) v4 l4 h4 j5 (gn Tryd.f46 46 4 5 c (p23 (p3 t (g3 t)) v4) t l4 h4 j5)))
 (.seq (.reg fun c t l h k => cl c 70 [(g0 t), (.str ⟨2, 15674⟩)] t l h fun v0 l0 h0 => k t l0 h0)
 (.seq (.reg fun c t l h k => cl c 68 [(g0 t), (.str ⟨1, 45⟩)] t l h fun v0 l0 h0 => k (p5 t v0) l0 h0)
 (.seq (.reg fun c t l h k => cl c 43 [(g0 t)] t l h fun v0 l0 h0 => al Pg 90 6 l0 fun v1 l1 => jn (fun v2 l2 h2 => k (p6 t v1) l2 h2) fun j2 => sto 90 v1 v0 l1 h0 j2 (gn Tryd.f46 46 7 3 c (p29 (p6 t v1) v0) t l1 h0 j2))
 (.seq (.seq (.reg fun c t l h k => bO (fa Pg 90 (g6 t) 0) fun v0 => bO (ld Pg 3 v0 l h) fun v1 => bO (bin Pg .neq 3 true v1 (I 3)) fun v2 => k (p32 t v2) l h)
 (.cond (.tmp 32) (.reg fun c t l h k => bO (fa Pg 90 (g6 t) 2) fun v0 => bO (ld Pg 3 v0 l h) fun v1 => cl c 45 [(g0 t), v1, (I 150)] t l h fun v2 l2 h2 => k t l2 h2) .skip))
 (.seq (.reg fun c t l h k => cl c 71 [(g0 t)] t l h fun v0 l0 h0 => k t l0 h0)
 (.seq (.reg fun c t l h k => bO (fa Pg 90 (g6 t) 1) fun v0 => bO (ld Pg 9 v0 l h) fun v1 => bO (fa Pg 53 (g3 t) 2) fun v2 => jn (fun v3 l3 h3 => k t l3 h3) fun j3 => sto 9 v2 v1 l h j3 (gn Tryd.f46 46 11 3 c (p40 (p41 t v2) v1) t l h j3))
 (.seq (.seq (.reg fun c t l h k => jn (fun v0 l0 h0 => jn (fun v1 l1 h1 => jn (fun v2 l2 h2 => bO (pick (g5 t) v2 (.bool false)) fun v3 => k (p47 t v3) l2 h2) fun j2 => brB (wv (g5 t) true) (j2 (.tuple []) l1 h1) (bO (bin Pg .neq 9 true v1 (.str ⟨1, 48⟩)) fun v3 => j2 v3 l1 h1)) fun j1 => brB (wv (g5 t) true) (j1 (.tuple []) l0 h0) (bO (ld Pg 9 v0 l0 h0) fun v2 => j1 v2 l0 h0)) fun j0 => brB (wv (g5 t) true) (j0 (.tuple []) l h) (bO (fa Pg 90 (g6 t) 1) fun v1 => j0 v1 l h))
 (.cond (.tmp 47) (.reg fun c t l h k => bO (fa Pg 90 (g6 t) 1) fun v0 => bO (ld Pg 9 v0 l h) fun v1 => bO (bin Pg .add 9 true (.str ⟨1, 45⟩) v1) fun v2 => bO (fa Pg 53 (g3 t) 2) fun v3 => jn (fun v4 l4 h4 => k t l4 h4) fun j4 => sto 9 v3 v2 l h j4 (gn Tryd.f46 46 13 4 c (p50 (p51 t v3) v2) t l h j4)) .skip))
 (.seq (.reg fun c t l h k => cl c 70 [(g0 t), (.str ⟨2, 15163⟩)] t l h fun v0 l0 h0 => k t l0 h0)
 (.seq (.reg fun c t l h k => bO (ld Pg 53 (g3 t) l h) fun v0 => jn (fun v1 l1 h1 => k t l1 h1) fun j1 => sto 53 (g2 t) v0 l h j1 (gn Tryd.f46 46 15 1 c (p54 (p2 t (g2 t)) v0) t l h j1))
 .ret))))))))))) .skip))
 (.seq (.reg fun c t l h k => cl c 70 [(g0 t), (.str ⟨3, 7628140⟩)] t l h fun v0 l0 h0 => k t l0 h0)
 (.seq (.reg fun c t l h k => cl c 68 [(g0 t), (.str ⟨3, 6514034⟩)] t l h fun v0 l0 h0 => bO (fa Pg 53 (g3 t) 3) fun v1 => jn (fun v2 l2 h2 => k t l2 h2) fun j2 => sto 4 v1 v0 l0 h0 j2 (gn Tryd.f46 46 17 3 c (p58 (p59 t v1) v0) t l0 h0 j2))
 (.seq (.reg fun c t l h k => cl c 69 [(g0 t)] t l h fun v0 l0 h0 => al Pg 90 7 l0 fun v1 l1 => jn (fun v2 l2 h2 => k (p7 t v1) l2 h2) fun j2 => sto 90 v1 v0 l1 h0 j2 (gn Tryd.f46 46 18 3 c (p61 (p7 t v1) v0) t l1 h0 j2))
 (.seq (.reg fun c t l h k => bO (fa Pg 90 (g7 t) 1) fun v0 => bO (ld Pg 9 v0 l h) fun v1 => bO (fa Pg 90 (g7 t) 2) fun v2 => bO (ld Pg 3 v2 l h) fun v3 => bO (fa Pg 53 (g3 t) 1) fun v4 => jE ((66, v4) :: (65, v3) :: (64, v2) :: (63, v1) :: (62, v0) :: []) fun e5 => jF (ft0 :: (ldF v2) :: ft0 :: (ldF v0) :: ft0 :: []) fun q5 => gD Tryd.f46 46 19 5 c (p63 (p66 t v4) v1) l h (fun v5 f5 l5 h5 => bO (fa Pg 53 (g3 t) 12) fun v6 => jE ((67, v6) :: e5) fun e7 => jF (ft0 :: f5 :: q5) fun q7 => gD Tryd.f46 46 19 7 c (p65 (p67 t v6) v3) l5 h5 (fun v7 f7 l7 h7 => finD (rgA Tryd.f46 19).toList [(3, 5)] [(3, 5)] (f7 :: q7) (k t l7 h7)) (sD Tryd.f46 46 19 c 7 none e7 q7 t l5 h5)) (sD Tryd.f46 46 19 c 5 none e5 q5 t l h))
 (.seq (.block 0 (.loop (.seq (.seq (.reg fun c t l h k => bO (nilC (g0 t)) fun v0 => bO (fa Pg 88 v0 2) fun v1 => bO (ld Pg 3 v1 l h) fun v2 => bO (bin Pg .eql 3 true v2 (I 0)) fun v3 => jn (fun v4 l4 h4 => jn (fun v5 l5 h5 => bO (pick v3 v5 (.bool false)) fun v6 => k (p76 t v6) l5 h5) fun j5 => brB (wv v3 true) (j5 (.tuple []) l4 h4) (cl c 44 [v4, (.str ⟨1, 40⟩)] t l4 h4 fun v6 l6 h6 => j5 v6 l6 h6)) fun j4 => brB (wv v3 true) (j4 (.tuple []) l h) (j4 (g0 t) l h))
 (.cond (.tmp 76) .skip (.exit 0)))
 (.block 1 (.seq (.seq (.reg fun c t l h k => bO (fa Pg 53 (g3 t) 4) fun v0 => bO (ld Pg 46 v0 l h) fun v1 => bO (len (Pg.underlying 46) v1) fun v2 => bO (bin Pg .eql 3 true v2 (I 8)) fun v3 => k (p80 t v3) l h)
 (.cond (.tmp 80) (.seq (.reg fun c t l h k => cl c 43 [(g0 t)] t l h fun v0 l0 h0 => bO (fld Pg 90 v0 2) fun v1 => cl c 45 [(g0 t), v1, (I 152)] t l0 h0 fun v2 l2 h2 => k t l2 h2)
 (.seq (.reg fun c t l h k => bO (ld Pg 53 (g3 t) l h) fun v0 => jn (fun v1 l1 h1 => k t l1 h1) fun j1 => sto 53 (g2 t) v0 l h j1 (gn Tryd.f46 46 23 1 c (p86 (p2 t (g2 t)) v0) t l h j1))
 .ret)) .skip))
 (.seq (.reg fun c t l h k => cl c 71 [(g0 t)] t l h fun v0 l0 h0 => k t l0 h0)
 (.seq (.reg fun c t l h k => cl c 69 [(g0 t)] t l h fun v0 l0 h0 => al Pg 90 8 l0 fun v1 l1 => jn (fun v2 l2 h2 => k (p8 t v1) l2 h2) fun j2 => sto 90 v1 v0 l1 h0 j2 (gn Tryd.f46 46 25 3 c (p90 (p8 t v1) v0) t l1 h0 j2))
 (.seq (.reg fun c t l h k => cl c 70 [(g0 t), (.str ⟨1, 58⟩)] t l h fun v0 l0 h0 => k t l0 h0)
 (.seq (.reg fun c t l h k => cl c 72 [(g0 t)] t l h fun v0 l0 h0 => al Pg 49 9 l0 fun v1 l1 => jn (fun v2 l2 h2 => k (p9 t v1) l2 h2) fun j2 => sto 49 v1 v0 l1 h0 j2 (gn Tryd.f46 46 27 3 c (p94 (p9 t v1) v0) t l1 h0 j2))
 (.seq (.reg fun c t l h k => cl c 70 [(g0 t), (.str ⟨1, 41⟩)] t l h fun v0 l0 h0 => k t l0 h0)
 (.reg fun c t l h k => bO (fa Pg 53 (g3 t) 4) fun v0 => bO (ld Pg 46 v0 l h) fun v1 => bO (fa Pg 90 (g8 t) 1) fun v2 => bO (ld Pg 9 v2 l h) fun v3 => bO (ld Pg 49 (g9 t) l h) fun v4 => bO (fa Pg 90 (g8 t) 2) fun v5 => bO (ld Pg 3 v5 l h) fun v6 => gn Tryd.f46 46 29 7 c (p103 (p101 (p100 t v3) v4) v6) t l h (fun v7 l7 h7 => bO (bs Pg 46 1 [(0, v7)]) fun v8 => gn Tryd.f46 46 29 9 c (p105 (p98 t v1) v8) t l7 h7 (fun v9 l9 h9 => bO (fa Pg 53 (g3 t) 4) fun v10 => jn (fun v11 l11 h11 => k t l11 h11) fun j11 => sto 46 v10 v9 l9 h9 j11 (gn Tryd.f46 46 29 11 c (p106 (p107 t v10) v9) t l9 h9 j11))))))))))))))
 (.seq (.reg fun c t l h k => cl c 70 [(g0 t), (.str ⟨1, 58⟩)] t l h fun v0 l0 h0 => k t l0 h0)
 (.seq (.reg fun c t l h k => bO (bs Pg 36 5 [(0, (.str ⟨4, 1701999952⟩)), (1, (.str ⟨5, 435744240723⟩)), (2, (.str ⟨3, 7239749⟩)), (3, (.str ⟨3, 7105601⟩)), (4, (.str ⟨3, 7760196⟩))]) fun v0 => k (p10 t v0) l h)
 (.seq (.seq (.reg fun c t l h k => k (p11 t (I 0)) l h)
 (.block 2 (.loop (.seq (.seq (.reg fun c t l h k => bO (len (Pg.underlying 36) (g10 t)) fun v0 => bO (bin Pg .lss 3 false (g11 t) v0) fun v1 => jn (fun v2 l2 h2 => jn (fun v3 l3 h3 => jn (fun v4 l4 h4 => bO (pick v1 v4 (.bool false)) fun v5 => k (p119 t v5) l4 h4) fun j4 => brB (wv v1 true) (j4 (.tuple []) l3 h3) (bO (bin Pg .eql 3 true v3 (I 0)) fun v5 => j4 v5 l3 h3)) fun j3 => brB (wv v1 true) (j3 (.tuple []) l2 h2) (bO (ld Pg 3 v2 l2 h2) fun v4 => j3 v4 l2 h2)) fun j2 => brB (wv v1 true) (j2 (.tuple []) l h) (bO (fa Pg 53 (g3 t) 5) fun v3 => j2 v3 l h))
 (.cond (.tmp 119) .skip (.exit 2)))
 (.seq (.block 3 (.seq (.reg fun c t l h k => bO (ia Pg 36 (g10 t) (g11 t)) fun v0 => bO (ld Pg 9 v0 l h) fun v1 => cl c 68 [(g0 t), v1] t l h fun v2 l2 h2 => k (p127 t v2) l2 h2)
 (.cond (.tmp 127) (.reg fun c t l h k => bO (bin Pg .add 3 true (I 1) (g11 t)) fun v0 => bO (fa Pg 53 (g3 t) 5) fun v1 => jn (fun v2 l2 h2 => k t l2 h2) fun j2 => sto 3 v1 v0 l h j2 (gn Tryd.f46 46 36 3 c (p129 (p130 t v1) v0) t l h j2)) .skip)))
 (.reg fun c t l h k => bO (bin Pg .add 3 true (g11 t) (I 1)) fun v0 => k (p11 t v0) l h))))))
 (.seq (.seq (.reg fun c t l h k => bO (fa Pg 53 (g3 t) 5) fun v0 => bO (ld Pg 3 v0 l h) fun v1 => bO (bin Pg .eql 3 true v1 (I 0)) fun v2 => k (p133 t v2) l h)
 (.cond (.tmp 133) (.reg fun c t l h k => cl c 43 [(g0 t)] t l h fun v0 l0 h0 => bO (fld Pg 90 v0 2) fun v1 => cl c 45 [(g0 t), v1, (I 150)] t l0 h0 fun v2 l2 h2 => k t l2 h2) .skip))
 (.seq (.reg fun c t l h k => cl c 72 [(g0 t)] t l h fun v0 l0 h0 => bO (fa Pg 53 (g3 t) 6) fun v1 => jn (fun v2 l2 h2 => k t l2 h2) fun j2 => sto 49 v1 v0 l0 h0 j2 (gn Tryd.f46 46 39 3 c (p140 (p141 t v1) v0) t l0 h0 j2))
 (.seq (.seq (.reg fun c t l h k => cl c 68 [(g0 t), (.str ⟨8, 8315178084276987250⟩)] t l h fun v0 l0 h0 => k (p143 t v0) l0 h0)
 (.cond (.tmp 143) (.seq (.reg fun c t l h k => cl c 73 [(g0 t)] t l h fun v0 l0 h0 => al Pg 51 12 l0 fun v1 l1 => jn (fun v2 l2 h2 => k (p12 t v1) l2 h2) fun j2 => sto 51 v1 v0 l1 h0 j2 (gn Tryd.f46 46 41 3 c (p145 (p12 t v1) v0) t l1 h0 j2))
 (.reg fun c t l h k => bO (ld Pg 51 (g12 t) l h) fun v0 => bO (bs Pg 47 1 [(0, v0)]) fun v1 => bO (fa Pg 53 (g3 t) 7) fun v2 => jn (fun v3 l3 h3 => k t l3 h3) fun j3 => sto 47 v2 v1 l h j3 (gn Tryd.f46 46 42 3 c (p147 (p148 t v2) v1) t l h j3))) .skip))
 (.seq (.seq (.reg fun c t l h k => cl c 68 [(g0 t), (.str ⟨7, 32481164592901733⟩)] t l h fun v0 l0 h0 => k (p150 t v0) l0 h0)
 (.cond (.tmp 150) (.seq (.reg fun c t l h k => cl c 69 [(g0 t)] t l h fun v0 l0 h0 => bO (fld Pg 90 v0 1) fun v1 => bO (fa Pg 53 (g3 t) 8) fun v2 => jn (fun v3 l3 h3 => k t l3 h3) fun j3 => sto 9 v2 v1 l0 h0 j3 (gn Tryd.f46 46 44 4 c (p153 (p154 t v2) v1) t l0 h0 j3))
 (.seq (.reg fun c t l h k => cl c 70 [(g0 t), (.str ⟨1, 46⟩)] t l h fun v0 l0 h0 => k t l0 h0)
 (.seq (.reg fun c t l h k => cl c 73 [(g0 t)] t l h fun v0 l0 h0 => al Pg 51 13 l0 fun v1 l1 => jn (fun v2 l2 h2 => k (p13 t v1) l2 h2) fun j2 => sto 51 v1 v0 l1 h0 j2 (gn Tryd.f46 46 46 3 c (p158 (p13 t v1) v0) t l1 h0 j2))
 (.reg fun c t l h k => bO (ld Pg 51 (g13 t) l h) fun v0 => bO (bs Pg 47 1 [(0, v0)]) fun v1 => bO (fa Pg 53 (g3 t) 9) fun v2 => jn (fun v3 l3 h3 => k t l3 h3) fun j3 => sto 47 v2 v1 l h j3 (gn Tryd.f46 46 47 3 c (p160 (p161 t v2) v1) t l h j3))))) .skip))
 (.seq (.seq (.reg fun c t l h k => cl c 68 [(g0 t), (.str ⟨9, 2128685862185089590628⟩)] t l h fun v0 l0 h0 => k (p163 t v0) l0 h0)
 (.cond (.tmp 163) (.seq (.reg fun c t l h k => cl c 73 [(g0 t)] t l h fun v0 l0 h0 => al Pg 51 14 l0 fun v1 l1 => jn (fun v2 l2 h2 => k (p14 t v1) l2 h2) fun j2 => sto 51 v1 v0 l1 h0 j2 (gn Tryd.f46 46 49 3 c (p165 (p14 t v1) v0) t l1 h0 j2))
 (.seq (.reg fun c t l h k => bO (ld Pg 51 (g14 t) l h) fun v0 => bO (bs Pg 47 1 [(0, v0)]) fun v1 => bO (fa Pg 53 (g3 t) 10) fun v2 => jn (fun v3 l3 h3 => k t l3 h3) fun j3 => sto 47 v2 v1 l h j3 (gn Tryd.f46 46 50 3 c (p167 (p168 t v2) v1) t l h j3))
 (.block 4 (.loop (.seq (.seq (.reg fun c t l h k => cl c 68 [(g0 t), (.str ⟨1, 44⟩)] t l h fun v0 l0 h0 => k (p170 t v0) l0 h0)
 (.cond (.tmp 170) .skip (.exit 4)))
 (.block 5 (.seq (.reg fun c t l h k => cl c 73 [(g0 t)] t l h fun v0 l0 h0 => jn (fun v1 l1 h1 => k t l1 h1) fun j1 => sto 51 (g14 t) v0 l0 h0 j1 (gn Tryd.f46 46 52 2 c (p172 (p14 t (g14 t)) v0) t l0 h0 j1))
 (.reg fun c t l h k => bO (fa Pg 53 (g3 t) 10) fun v0 => bO (ld Pg 47 v0 l h) fun v1 => bO (ld Pg 51 (g14 t) l h) fun v2 => bO (bs Pg 47 1 [(0, v2)]) fun v3 => gn Tryd.f46 46 53 4 c (p176 (p174 t v1) v3) t l h (fun v4 l4 h4 => bO (fa Pg 53 (g3 t) 10) fun v5 => jn (fun v6 l6 h6 => k t l6 h6) fun j6 => sto 47 v5 v4 l4 h4 j6 (gn Tryd.f46 46 53 6 c (p177 (p178 t v5) v4) t l4 h4 j6)))))))))) .skip))
 (.seq (.reg fun c t l h k => cl c 70 [(g0 t), (.str ⟨2, 29545⟩)] t l h fun v0 l0 h0 => k t l0 h0)
 (.seq (.reg fun c t l h k => cl c 73 [(g0 t)] t l h fun v0 l0 h0 => bO (fa Pg 53 (g3 t) 11) fun v1 => jn (fun v2 l2 h2 => k t l2 h2) fun j2 => sto 51 v1 v0 l0 h0 j2 (gn Tryd.f46 46 55 3 c (p182 (p183 t v1) v0) t l0 h0 j2))
 (.seq (.reg fun c t l h k => cl c 70 [(g0 t), (.str ⟨2, 15163⟩)] t l h fun v0 l0 h0 => k t l0 h0)
 (.seq (.reg fun c t l h k => bO (ld Pg 53 (g3 t) l h) fun v0 => jn (fun v1 l1 h1 => k t l1 h1) fun j1 => sto 53 (g2 t) v0 l h j1 (gn Tryd.f46 46 57 1 c (p186 (p2 t (g2 t)) v0) t l h j1))
 .ret))))))))))))))))))))

def kp57 : List Nat := [0, 1, 4, 5, 7, 8, 9, 16]
def rc57 : RC := (.seq (.reg fun c t l h k => k (p4 t (I 0)) l h)
 (.seq (.seq (.reg fun c t l h k => bO (len (Pg.underlying 36) (g0 t)) fun v0 => k (p8 (p7 t v0) (I 0)) l h)
 (.block 0 (.loop (.seq (.reg fun c t l h k => bO (bin Pg .lss 3 false (g8 t) (g7 t)) fun v0 => k (p9 t v0) l h)
 (.seq (.cond (.tmp 9) .skip (.exit 0))
 (.seq (.block 1 (.seq (.reg fun c t l h k => k (p5 t (g8 t)) l h)
 (.seq (.reg fun c t l h k => bO (ia Pg 36 (g0 t) (g5 t)) fun v0 => bO (ld Pg 9 v0 l h) fun v1 => bO (bin Pg .eql 9 false (g1 t) v1) fun v2 => k (p16 t v2) l h)
 (.cond (.tmp 16) (.seq (.reg fun c t l h k => k (p4 t (g5 t)) l h)
 .ret) .skip))))
 (.reg fun c t l h k => bO (bin Pg .add 3 true (g8 t) (I 1)) fun v0 => k (p8 t v0) l h)))))))
 (.seq (.reg fun c t l h k => k (p4 t (.int .i64 (.negSucc 0))) l h)
 .ret)))

def kp58 : List Nat := [0, 1, 2, 6, 7, 8, 10, 13, 14, 15, 16]
def rc58 : RC := (.seq (.reg fun c t l h k => k (p6 t .nils) l h)
 (.seq (.reg fun c t l h k => gn Tryd.f58 58 1 1 c (p11 t (g0 t)) t l h (fun v0 l0 h0 => k (p7 t v0) l0 h0))
 (.seq (.reg fun c t l h k => k (p8 t .nils) l h)
 (.seq (.seq (.reg fun c t l h k => bO (len (Pg.underlying 47) (g1 t)) fun v0 => k (p15 (p14 (p13 t (g1 t)) v0) (I 0)) l h)
 (.block 0 (.loop (.seq (.reg fun c t l h k => bO (bin Pg .lss 3 false (g15 t) (g14 t)) fun v0 => k (p16 t v0) l h)
 (.seq (.cond (.tmp 16) .skip (.exit 0))
 (.seq (.block 1 (.seq (.reg fun c t l h k => bO (ia Pg 47 (g13 t) (g15 t)) fun v0 => bO (ld Pg 51 v0 l h) fun v1 => al Pg 51 10 l fun v2 l2 => jn (fun v3 l3 h3 => k (p10 t v2) l3 h3) fun j3 => sto 51 v2 v1 l2 h j3 (gn Tryd.f58 58 5 3 c (p18 (p10 t v2) v1) t l2 h j3))
 (.reg fun c t l h k => bO (ld Pg 51 (g10 t) l h) fun v0 => gn Tryd.f58 58 6 4 c (p22 (p21 (p20 t (g7 t)) v0) (g2 t)) t l h (fun v1 l1 h1 => bO (bs Pg 47 1 [(0, v1)]) fun v2 => gn Tryd.f58 58 6 6 c (p24 (p19 t (g8 t)) v2) t l1 h1 (fun v3 l3 h3 => k (p8 t v3) l3 h3)))))
 (.reg fun c t l h k => bO (bin Pg .add 3 true (g15 t) (I 1)) fun v0 => k (p15 t v0) l h)))))))
 (.seq (.reg fun c t l h k => k (p6 t (g8 t)) l h)
 .ret)))))

def kp59 : List Nat := [0, 2]
def rc59 : RC := (.seq (.reg fun c t l h k => k (p2 t .nils) l h)
 (.seq (.reg fun c t l h k => bO (len (Pg.underlying 36) (g0 t)) fun v0 => bO (len (Pg.underlying 36) (g0 t)) fun v1 => bO (slc Pg 36 (g0 t) none (some v0) (some v1)) fun v2 => k (p2 t v2) l h)
 .ret))

def kp60 : List Nat := [0, 1, 2, 4, 6, 7, 8, 9, 10, 17, 18, 19, 20, 36]
def rc60 : RC := (.seq (.reg fun c t l h k => gn Tryd.f60 60 0 0 c (p1 t (g1 t)) t l h (fun v0 l0 h0 => al Pg 51 6 l0 fun v1 l1 => k (p6 (p4 t v0) v1) l1 h0))
 (.seq (.reg fun c t l h k => bO (ld Pg 51 (g4 t) l h) fun v0 => cl c 86 [(g0 t), v0, (g2 t)] t l h fun v1 l1 h1 => bO (fa Pg 51 (g4 t) 5) fun v2 => jn (fun v3 l3 h3 => k t l3 h3) fun j3 => sto 3 v2 v1 l1 h1 j3 (gn Tryd.f60 60 1 5 c (p14 (p15 t v2) v1) t l1 h1 j3))
 (.seq (.reg fun c t l h k => k (p7 t .nils) l h)
 (.seq (.seq (.reg fun c t l h k => bO (fa Pg 51 (g4 t) 4) fun v0 => bO (ld Pg 47 v0 l h) fun v1 => bO (len (Pg.underlying 47) v1) fun v2 => k (p19 (p18 (p17 t v1) v2) (I 0)) l h)
 (.block 0 (.loop (.seq (.reg fun c t l h k => bO (bin Pg .lss 3 false (g19 t) (g18 t)) fun v0 => k (p20 t v0) l h)
 (.seq (.cond (.tmp 20) .skip (.exit 0))
 (.seq (.block 1 (.seq (.reg fun c t l h k => bO (ia Pg 47 (g17 t) (g19 t)) fun v0 => bO (ld Pg 51 v0 l h) fun v1 => al Pg 51 9 l fun v2 l2 => jn (fun v3 l3 h3 => k (p8 (p9 t v2) (g19 t)) l3 h3) fun j3 => sto 51 v2 v1 l2 h j3 (gn Tryd.f60 60 5 5 c (p23 (p9 t v2) v1) t l2 h j3))
 (.seq (.reg fun c t l h k => k (p10 t (g2 t)) l h)
 (.seq (.seq (.reg fun c t l h k => bO (bin Pg .eql 3 true (g8 t) (I 1)) fun v0 => jn (fun v1 l1 h1 => jn (fun v2 l2 h2 => jn (fun v3 l3 h3 => jn (fun v4 l4 h4 => jn (fun v5 l5 h5 => jn (fun v6 l6 h6 => jn (fun v7 l7 h7 => jn (fun v8 l8 h8 => bO (pick v0 v8 (.bool false)) fun v9 => k (p36 t v9) l8 h8) fun j8 => brB (wv v0 true) (j8 (.tuple []) l7 h7) (bO (pick v4 (.bool true) v7) fun v9 => j8 v9 l7 h7)) fun j7 => brB (wv v4 false) (j7 (.tuple []) l6 h6) (bO (bin Pg .eql 3 true v6 (I 27)) fun v8 => j7 v8 l6 h6)) fun j6 => brB (wv v4 false) (j6 (.tuple []) l5 h5) (bO (ld Pg 3 v5 l5 h5) fun v7 => j6 v7 l5 h5)) fun j5 => brB (wv v4 false) (j5 (.tuple []) l4 h4) (bO (fa Pg 51 (g4 t) 0) fun v6 => j5 v6 l4 h4)) fun j4 => brB (wv v0 true) (j4 (.tuple []) l3 h3) (j4 v3 l3 h3)) fun j3 => brB (wv v0 true) (j3 (.tuple []) l2 h2) (bO (bin Pg .eql 3 true v2 (I 23)) fun v4 => j3 v4 l2 h2)) fun j2 => brB (wv v0 true) (j2 (.tuple []) l1 h1) (bO (ld Pg 3 v1 l1 h1) fun v3 => j2 v3 l1 h1)) fun j1 => brB (wv v0 true) (j1 (.tuple []) l h) (bO (fa Pg 51 (g4 t) 0) fun v2 => j1 v2 l h))
 (.cond (.tmp 36) (.reg fun c t l h k => jE ((37, (g2 t)) :: []) fun e0 => jF (ft0 :: []) fun q0 => clD c 59 [(g2 t)] l h (fun v0 f0 l0 h0 => bO (fa Pg 51 (g4 t) 1) fun v1 => bO (ld Pg 9 v1 l0 h0) fun v2 => jE ((40, v2) :: (39, v1) :: (38, v0) :: e0) fun e3 => jF ((ldF v1) :: ft0 :: f0 :: q0) fun q3 => gD Tryd.f60 60 8 4 c (p40 t v2) l0 h0 (fun v3 f3 l3 h3 => jE ((41, v3) :: e3) fun e4 => jF (f3 :: q3) fun q4 => gD Tryd.f60 60 8 5 c (p41 (p38 t v0) v3) l3 h3 (fun v4 f4 l4 h4 => finD (rgA Tryd.f60 8).toList [] [(1, 3)] (ft0 :: f4 :: q4) (k (p10 t v4) l4 h4)) (sD Tryd.f60 60 8 c 5 (some 42) e4 q4 t l3 h3)) (sD Tryd.f60 60 8 c 4 (some 41) e3 q3 t l0 h0)) (sD Tryd.f60 60 8 c 1 (some 38) e0 q0 t l h)) .skip))
 (.reg fun c t l h k => bO (ld Pg 51 (g9 t) l h) fun v0 => cl c 60 [(g0 t), v0, (g10 t)] t l h fun v1 l1 h1 => bO (bs Pg 47 1 [(0, v1)]) fun v2 => gn Tryd.f60 60 9 6 c (p48 (p43 t (g7 t)) v2) t l1 h1 (fun v3 l3 h3 => k (p7 t v3) l3 h3))))))
 (.reg fun c t l h k => bO (bin Pg .add 3 true (g19 t) (I 1)) fun v0 => k (p19 t v0) l h)))))))
 (.seq (.reg fun c t l h k => bO (fa Pg 51 (g4 t) 4) fun v0 => jn (fun v1 l1 h1 => k t l1 h1) fun j1 => sto 47 v0 (g7 t) l h j1 (gn Tryd.f60 60 11 2 c (p51 (p52 t v0) (g7 t)) t l h j1))
 (.seq (.reg fun c t l h k => bO (ld Pg 51 (g4 t) l h) fun v0 => jn (fun v1 l1 h1 => k t l1 h1) fun j1 => sto 51 (g6 t) v0 l h j1 (gn Tryd.f60 60 12 1 c (p53 (p6 t (g6 t)) v0) t l h j1))
 .ret))))))

def kp65 : List Nat := [0, 1, 4, 5, 6, 7, 8, 12, 27, 46, 53, 68]
def rc65 : RC := (.seq (.reg fun c t l h k => k (p5 (p4 t (I 0)) (I 0)) l h)
 (.seq (.reg fun c t l h k => bO (idx Pg 9 (g0 t) (g1 t)) fun v0 => k (p6 t v0) l h)
 (.seq (.block 0 (.seq (.reg fun c t l h k => bO (bin Pg .eql 5 true (g6 t) (.int .u8 (.ofNat 32))) fun v0 => jn (fun v1 l1 h1 => jn (fun v2 l2 h2 => bO (pick v0 (.bool true) v2) fun v3 => jn (fun v4 l4 h4 => jn (fun v5 l5 h5 => bO (pick v3 (.bool true) v5) fun v6 => jn (fun v7 l7 h7 => jn (fun v8 l8 h8 => bO (pick v6 (.bool true) v8) fun v9 => k (p12 t v9) l8 h8) fun j8 => brB (wv v6 false) (j8 (.tuple []) l7 h7) (bO (bin Pg .eql 5 true v7 (.int .u8 (.ofNat 13))) fun v9 => j8 v9 l7 h7)) fun j7 => brB (wv v6 false) (j7 (.tuple []) l5 h5) (j7 (g6 t) l5 h5)) fun j5 => brB (wv v3 false) (j5 (.tuple []) l4 h4) (bO (bin Pg .eql 5 true v4 (.int .u8 (.ofNat 10))) fun v6 => j5 v6 l4 h4)) fun j4 => brB (wv v3 false) (j4 (.tuple []) l2 h2) (j4 (g6 t) l2 h2)) fun j2 => brB (wv v0 false) (j2 (.tuple []) l1 h1) (bO (bin Pg .eql 5 true v1 (.int .u8 (.ofNat 9))) fun v3 => j2 v3 l1 h1)) fun j1 => brB (wv v0 false) (j1 (.tuple []) l h) (j1 (g6 t) l h))
 (.cond (.tmp 12) (.seq (.reg fun c t l h k => k (p5 (p4 t (I 1)) (I 1)) l h)
 .ret) (.seq (.reg fun c t l h k => bO (bin Pg .geq 5 true (g6 t) (.int .u8 (.ofNat 65))) fun v0 => jn (fun v1 l1 h1 => jn (fun v2 l2 h2 => bO (pick v0 v2 (.bool false)) fun v3 => jn (fun v4 l4 h4 => jn (fun v5 l5 h5 => jn (fun v6 l6 h6 => jn (fun v7 l7 h7 => jn (fun v8 l8 h8 => jn (fun v9 l9 h9 => bO (pick v3 (.bool true) v9) fun v10 => jn (fun v11 l11 h11 => jn (fun v12 l12 h12 => bO (pick v10 (.bool true) v12) fun v13 => k (p27 t v13) l12 h12) fun j12 => brB (wv v10 false) (j12 (.tuple []) l11 h11) (bO (bin Pg .eql 5 true v11 (.int .u8 (.ofNat 95))) fun v13 => j12 v13 l11 h11)) fun j11 => brB (wv v10 false) (j11 (.tuple []) l9 h9) (j11 (g6 t) l9 h9)) fun j9 => brB (wv v3 false) (j9 (.tuple []) l8 h8) (bO (pick v6 v8 (.bool false)) fun v10 => j9 v10 l8 h8)) fun j8 => brB (wv v6 true) (j8 (.tuple []) l7 h7) (bO (bin Pg .leq 5 true v7 (.int .u8 (.ofNat 122))) fun v9 => j8 v9 l7 h7)) fun j7 => brB (wv v6 true) (j7 (.tuple []) l6 h6) (j7 (g6 t) l6 h6)) fun j6 => brB (wv v3 false) (j6 (.tuple []) l5 h5) (j6 v5 l5 h5)) fun j5 => brB (wv v3 false) (j5 (.tuple []) l4 h4) (bO (bin Pg .geq 5 true v4 (.int .u8 (.ofNat 97))) fun v6 => j5 v6 l4 h4)) fun j4 => brB (wv v3 false) (j4 (.tuple []) l2 h2) (j4 (g6 t) l2 h2)) fun j2 => brB (wv v0 true) (j2 (.tuple []) l1 h1) (bO (bin Pg .leq 5 true v1 (.int .u8 (.ofNat 90))) fun v3 => j2 v3 l1 h1)) fun j1 => brB (wv v0 true) (j1 (.tuple []) l h) (j1 (g6 t) l h))
 (.cond (.tmp 27) (.seq (.reg fun c t l h k => k (p5 (p4 t (I 2)) (I 1)) l h)
 .ret) (.seq (.reg fun c t l h k => bO (bin Pg .geq 5 true (g6 t) (.int .u8 (.ofNat 48))) fun v0 => jn (fun v1 l1 h1 => jn (fun v2 l2 h2 => bO (pick v0 v2 (.bool false)) fun v3 => k (p46 t v3) l2 h2) fun j2 => brB (wv v0 true) (j2 (.tuple []) l1 h1) (bO (bin Pg .leq 5 true v1 (.int .u8 (.ofNat 57))) fun v3 => j2 v3 l1 h1)) fun j1 => brB (wv v0 true) (j1 (.tuple []) l h) (j1 (g6 t) l h))
 (.cond (.tmp 46) (.seq (.reg fun c t l h k => k (p5 (p4 t (I 3)) (I 1)) l h)
 .ret) (.seq (.reg fun c t l h k => bO (bin Pg .lss 5 true (g6 t) (.int .u8 (.ofNat 128))) fun v0 => k (p53 t v0) l h)
 (.cond (.tmp 53) (.seq (.reg fun c t l h k => k (p5 (p4 t (I 4)) (I 1)) l h)
 .ret) .skip)))))))))
 (.seq (.reg fun c t l h k => bO (slc Pg 9 (g0 t) (some (g1 t)) none none) fun v0 => cl c 90 [v0] t l h fun v1 l1 h1 => bO (ext v1 0) fun v2 => bO (ext v1 1) fun v3 => k (p8 (p7 t v2) v3) l1 h1)
 (.seq (.seq (.reg fun c t l h k => bO (bin Pg .eql 21 true (g7 t) (.int .i32 (.ofNat 65533))) fun v0 => jn (fun v1 l1 h1 => jn (fun v2 l2 h2 => bO (pick v0 v2 (.bool false)) fun v3 => k (p68 t v3) l2 h2) fun j2 => brB (wv v0 true) (j2 (.tuple []) l1 h1) (bO (bin Pg .leq 3 true v1 (I 1)) fun v3 => j2 v3 l1 h1)) fun j1 => brB (wv v0 true) (j1 (.tuple []) l h) (j1 (g8 t) l h))
 (.cond (.tmp 68) (.seq (.reg fun c t l h k => k (p5 (p4 t (I 0)) (I 1)) l h)
 .ret) .skip))
 (.seq (.reg fun c t l h k => k (p5 (p4 t (I 2)) (g8 t)) l h)
 .ret))))))

def kp66 : List Nat := [0, 2, 3, 4, 9, 17]
def rc66 : RC := (.seq (.reg fun c t l h k => k (p2 t (.bool false)) l h)
 (.seq (.reg fun c t l h k => bO (bs Pg 36 27 [(0, (.str ⟨3, 7628140⟩)), (1, (.str ⟨3, 6514034⟩)), (2, (.str ⟨3, 6710642⟩)), (3, (.str ⟨2, 28265⟩)), (4, (.str ⟨2, 29545⟩)), (5, (.str ⟨2, 26217⟩)), (6, (.str ⟨4, 1852139636⟩)), (7, (.str ⟨4, 1702063205⟩)), (8, (.str ⟨3, 7959156⟩)), (9, (.str ⟨4, 1752459639⟩)), (10, (.str ⟨5, 435727982962⟩)), (11, (.str ⟨6, 128034677158753⟩)), (12, (.str ⟨3, 6581359⟩)), (13, (.str ⟨8, 8315178084276987250⟩)), (14, (.str ⟨7, 32481164592901733⟩)), (15, (.str ⟨9, 2128685862185089590628⟩)), (16, (.str ⟨3, 7630441⟩)), (17, (.str ⟨4, 1819242338⟩)), (18, (.str ⟨4, 1953066613⟩)), (19, (.str ⟨4, 1702195828⟩)), (20, (.str ⟨5, 435728179558⟩)), (21, (.str ⟨3, 7630702⟩)), (22, (.str ⟨4, 1701999952⟩)), (23, (.str ⟨5, 435744240723⟩)), (24, (.str ⟨3, 7239749⟩)), (25, (.str ⟨3, 7105601⟩)), (26, (.str ⟨3, 7760196⟩))]) fun v0 => k (p3 t v0) l h)
 (.seq (.seq (.reg fun c t l h k => k (p4 t (I 0)) l h)
 (.block 0 (.loop (.seq (.seq (.reg fun c t l h k => bO (len (Pg.underlying 36) (g3 t)) fun v0 => bO (bin Pg .lss 3 false (g4 t) v0) fun v1 => k (p9 t v1) l h)
 (.cond (.tmp 9) .skip (.exit 0)))
 (.seq (.block 1 (.seq (.reg fun c t l h k => bO (ia Pg 36 (g3 t) (g4 t)) fun v0 => bO (ld Pg 9 v0 l h) fun v1 => bO (bin Pg .eql 9 false v1 (g0 t)) fun v2 => k (p17 t v2) l h)
 (.cond (.tmp 17) (.seq (.reg fun c t l h k => k (p2 t (.bool true)) l h)
 .ret) .skip)))
 (.reg fun c t l h k => bO (bin Pg .add 3 true (g4 t) (I 1)) fun v0 => k (p4 t v0) l h))))))
 (.seq (.reg fun c t l h k => k (p2 t (.bool false)) l h)
 .ret))))

def kp67 : List Nat := [0, 2, 3, 4, 9, 33]
def rc67 : RC := (.seq (.reg fun c t l h k => k (p2 t (.str ⟨0, 0⟩)) l h)
 (.seq (.reg fun c t l h k => bO (bs Pg 36 25 [(0, (.str ⟨3, 4078909⟩)), (1, (.str ⟨2, 15674⟩)), (2, (.str ⟨2, 15676⟩)), (3, (.str ⟨2, 15678⟩)), (4, (.str ⟨2, 15932⟩)), (5, (.str ⟨2, 9766⟩)), (6, (.str ⟨2, 31868⟩)), (7, (.str ⟨2, 15917⟩)), (8, (.str ⟨2, 15163⟩)), (9, (.str ⟨1, 58⟩)), (10, (.str ⟨1, 59⟩)), (11, (.str ⟨1, 44⟩)), (12, (.str ⟨1, 46⟩)), (13, (.str ⟨1, 40⟩)), (14, (.str ⟨1, 41⟩)), (15, (.str ⟨1, 123⟩)), (16, (.str ⟨1, 125⟩)), (17, (.str ⟨1, 124⟩)), (18, (.str ⟨1, 61⟩)), (19, (.str ⟨1, 60⟩)), (20, (.str ⟨1, 62⟩)), (21, (.str ⟨1, 43⟩)), (22, (.str ⟨1, 45⟩)), (23, (.str ⟨1, 42⟩)), (24, (.str ⟨1, 33⟩))]) fun v0 => k (p3 t v0) l h)
 (.seq (.seq (.reg fun c t l h k => k (p4 t (I 0)) l h)
 (.block 0 (.loop (.seq (.seq (.reg fun c t l h k => bO (len (Pg.underlying 36) (g3 t)) fun v0 => bO (bin Pg .lss 3 false (g4 t) v0) fun v1 => k (p9 t v1) l h)
 (.cond (.tmp 9) .skip (.exit 0)))
 (.seq (.block 1 (.seq (.reg fun c t l h k => bO (len (Pg.underlying 9) (g0 t)) fun v0 => bO (ia Pg 36 (g3 t) (g4 t)) fun v1 => bO (ld Pg 9 v1 l h) fun v2 => bO (len (Pg.underlying 9) v2) fun v3 => bO (bin Pg .geq 3 false v0 v3) fun v4 => jn (fun v5 l5 h5 => jn (fun v6 l6 h6 => jn (fun v7 l7 h7 => jn (fun v8 l8 h8 => jn (fun v9 l9 h9 => jn (fun v10 l10 h10 => jn (fun v11 l11 h11 => jn (fun v12 l12 h12 => jn (fun v13 l13 h13 => jn (fun v14 l14 h14 => jn (fun v15 l15 h15 => jn (fun v16 l16 h16 => bO (pick v4 v16 (.bool false)) fun v17 => k (p33 t v17) l16 h16) fun j16 => brB (wv v4 true) (j16 (.tuple []) l15 h15) (bO (bin Pg .eql 9 false v11 v15) fun v17 => j16 v17 l15 h15)) fun j15 => brB (wv v4 true) (j15 (.tuple []) l14 h14) (bO (ld Pg 9 v14 l14 h14) fun v16 => j15 v16 l14 h14)) fun j14 => brB (wv v4 true) (j14 (.tuple []) l13 h13) (bO (ia Pg 36 v12 v13) fun v15 => j14 v15 l13 h13)) fun j13 => brB (wv v4 true) (j13 (.tuple []) l12 h12) (j13 (g4 t) l12 h12)) fun j12 => brB (wv v4 true) (j12 (.tuple []) l11 h11) (j12 (g3 t) l11 h11)) fun j11 => brB (wv v4 true) (j11 (.tuple []) l10 h10) (bO (slc Pg 9 v5 none (some v10) none) fun v12 => j11 v12 l10 h10)) fun j10 => brB (wv v4 true) (j10 (.tuple []) l9 h9) (bO (len (Pg.underlying 9) v9) fun v11 => j10 v11 l9 h9)) fun j9 => brB (wv v4 true) (j9 (.tuple []) l8 h8) (bO (ld Pg 9 v8 l8 h8) fun v10 => j9 v10 l8 h8)) fun j8 => brB (wv v4 true) (j8 (.tuple []) l7 h7) (bO (ia Pg 36 v6 v7) fun v9 => j8 v9 l7 h7)) fun j7 => brB (wv v4 true) (j7 (.tuple []) l6 h6) (j7 (g4 t) l6 h6)) fun j6 => brB (wv v4 true) (j6 (.tuple []) l5 h5) (j6 (g3 t) l5 h5)) fun j5 => brB (wv v4 true) (j5 (.tuple []) l h) (j5 (g0 t) l h))
 (.cond (.tmp 33) (.seq (.reg fun c t l h k => bO (ia Pg 36 (g3 t) (g4 t)) fun v0 => bO (ld Pg 9 v0 l h) fun v1 => k (p2 t v1) l h)
 .ret) .skip)))
 (.reg fun c t l h k => bO (bin Pg .add 3 true (g4 t) (I 1)) fun v0 => k (p4 t v0) l h))))))
 (.seq (.reg fun c t l h k => k (p2 t (.str ⟨0, 0⟩)) l h)
 .ret))))

def kp68 : List Nat := [0, 1, 4, 7]
def rc68 : RC := (.seq (.reg fun c t l h k => k (p4 t (.bool false)) l h)
 (.seq (.seq (.reg fun c t l h k => cl c 44 [(g0 t), (g1 t)] t l h fun v0 l0 h0 => k (p7 t v0) l0 h0)
 (.cond (.tmp 7) (.seq (.reg fun c t l h k => cl c 71 [(g0 t)] t l h fun v0 l0 h0 => k t l0 h0)
 (.seq (.reg fun c t l h k => k (p4 t (.bool true)) l h)
 .ret)) .skip))
 (.seq (.reg fun c t l h k => k (p4 t (.bool false)) l h)
 .ret)))

def kp69 : List Nat := [0, 2, 3, 8]
def rc69 : RC := (.seq (.reg fun c t l h k => al Pg 90 2 l fun v0 l0 => k (p2 t v0) l0 h)
 (.seq (.reg fun c t l h k => cl c 43 [(g0 t)] t l h fun v0 l0 h0 => al Pg 90 3 l0 fun v1 l1 => jn (fun v2 l2 h2 => k (p3 t v1) l2 h2) fun j2 => sto 90 v1 v0 l1 h0 j2 (gn Tryd.f69 69 1 3 c (p5 (p3 t v1) v0) t l1 h0 j2))
 (.seq (.seq (.reg fun c t l h k => bO (fa Pg 90 (g3 t) 0) fun v0 => bO (ld Pg 3 v0 l h) fun v1 => bO (bin Pg .neq 3 true v1 (I 1)) fun v2 => k (p8 t v2) l h)
 (.cond (.tmp 8) (.seq (.reg fun c t l h k => bO (fa Pg 90 (g3 t) 2) fun v0 => bO (ld Pg 3 v0 l h) fun v1 => cl c 45 [(g0 t), v1, (I 150)] t l h fun v2 l2 h2 => k t l2 h2)
 (.seq (.reg fun c t l h k => gn Tryd.f69 69 4 0 c t t l h (fun v0 l0 h0 => jn (fun v1 l1 h1 => k t l1 h1) fun j1 => sto 90 (g2 t) v0 l0 h0 j1 (gn Tryd.f69 69 4 1 c (p13 (p2 t (g2 t)) v0) t l0 h0 j1)))
 .ret)) .skip))
 (.seq (.reg fun c t l h k => cl c 71 [(g0 t)] t l h fun v0 l0 h0 => k t l0 h0)
 (.seq (.reg fun c t l h k => bO (ld Pg 90 (g3 t) l h) fun v0 => jn (fun v1 l1 h1 => k t l1 h1) fun j1 => sto 90 (g2 t) v0 l h j1 (gn Tryd.f69 69 6 1 c (p16 (p2 t (g2 t)) v0) t l h j1))
 .ret)))))

def kp70 : List Nat := [0, 1, 4, 5, 12]
def rc70 : RC := (.seq (.reg fun c t l h k => k (p4 t (I 0)) l h)
 (.seq (.reg fun c t l h k => cl c 43 [(g0 t)] t l h fun v0 l0 h0 => bO (fld Pg 90 v0 2) fun v1 => k (p5 t v1) l0 h0)
 (.seq (.seq (.reg fun c t l h k => cl c 68 [(g0 t), (g1 t)] t l h fun v0 l0 h0 => bO (G.un .not v0) fun v1 => k (p12 t v1) l0 h0)
 (.cond (.tmp 12) (.reg fun c t l h k => cl c 43 [(g0 t)] t l h fun v0 l0 h0 => bO (fld Pg 90 v0 2) fun v1 => cl c 45 [(g0 t), v1, (I 150)] t l0 h0 fun v2 l2 h2 => k t l2 h2) .skip))
 (.seq (.reg fun c t l h k => k (p4 t (g5 t)) l h)
 .ret))))

def kp71 : List Nat := [0, 19]
def rc71 : RC := (.seq (.reg fun c t l h k => bO (nilC (g0 t)) fun v0 => bO (fa Pg 88 v0 2) fun v1 => bO (ld Pg 3 v1 l h) fun v2 => bO (bin Pg .eql 3 true v2 (I 0)) fun v3 => jn (fun v4 l4 h4 => jn (fun v5 l5 h5 => jn (fun v6 l6 h6 => jn (fun v7 l7 h7 => jn (fun v8 l8 h8 => jn (fun v9 l9 h9 => jn (fun v10 l10 h10 => jn (fun v11 l11 h11 => jn (fun v12 l12 h12 => jn (fun v13 l13 h13 => jn (fun v14 l14 h14 => bO (pick v3 v14 (.bool false)) fun v15 => k (p19 t v15) l14 h14) fun j14 => brB (wv v3 true) (j14 (.tuple []) l13 h13) (bO (bin Pg .lss 3 false v7 v13) fun v15 => j14 v15 l13 h13)) fun j13 => brB (wv v3 true) (j13 (.tuple []) l12 h12) (bO (bin Pg .sub 3 true v12 (I 1)) fun v14 => j13 v14 l12 h12)) fun j12 => brB (wv v3 true) (j12 (.tuple []) l11 h11) (bO (len (Pg.underlying 83) v11) fun v13 => j12 v13 l11 h11)) fun j11 => brB (wv v3 true) (j11 (.tuple []) l10 h10) (bO (ld Pg 83 v10 l10 h10) fun v12 => j11 v12 l10 h10)) fun j10 => brB (wv v3 true) (j10 (.tuple []) l9 h9) (bO (fa Pg 88 v9 0) fun v11 => j10 v11 l9 h9)) fun j9 => brB (wv v3 true) (j9 (.tuple []) l8 h8) (bO (nilC v8) fun v10 => j9 v10 l8 h8)) fun j8 => brB (wv v3 true) (j8 (.tuple []) l7 h7) (j8 (g0 t) l7 h7)) fun j7 => brB (wv v3 true) (j7 (.tuple []) l6 h6) (bO (ld Pg 3 v6 l6 h6) fun v8 => j7 v8 l6 h6)) fun j6 => brB (wv v3 true) (j6 (.tuple []) l5 h5) (bO (fa Pg 88 v5 1) fun v7 => j6 v7 l5 h5)) fun j5 => brB (wv v3 true) (j5 (.tuple []) l4 h4) (bO (nilC v4) fun v6 => j5 v6 l4 h4)) fun j4 => brB (wv v3 true) (j4 (.tuple []) l h) (j4 (g0 t) l h))
 (.cond (.tmp 19) (.reg fun c t l h k => bO (nilC (g0 t)) fun v0 => bO (fa Pg 88 v0 1) fun v1 => bO (ld Pg 3 v1 l h) fun v2 => bO (bin Pg .add 3 true v2 (I 1)) fun v3 => bO (nilC (g0 t)) fun v4 => bO (fa Pg 88 v4 1) fun v5 => jn (fun v6 l6 h6 => k t l6 h6) fun j6 => sto 3 v5 v3 l h j6 (gn Tryd.f71 71 1 7 c (p24 (p26 t v5) v3) t l h j6)) .skip))

def kp72 : List Nat := [0, 2, 3, 4, 5, 9, 14, 19]
def rc72 : RC := (.seq (.reg fun c t l h k => al Pg 49 2 l fun v0 l0 => k (p2 t v0) l0 h)
 (.seq (.reg fun c t l h k => cl c 43 [(g0 t)] t l h fun v0 l0 h0 => bO (fld Pg 90 v0 2) fun v1 => k (p3 t v1) l0 h0)
 (.seq (.block 0 (.seq (.reg fun c t l h k => cl c 68 [(g0 t), (.str ⟨3, 7630441⟩)] t l h fun v0 l0 h0 => k (p9 t v0) l0 h0)
 (.cond (.tmp 9) (.seq (.reg fun c t l h k => gn Tryd.f72 72 3 1 c (p12 t (g3 t)) t l h (fun v0 l0 h0 => jn (fun v1 l1 h1 => k t l1 h1) fun j1 => sto 49 (g2 t) v0 l0 h0 j1 (gn Tryd.f72 72 3 2 c (p13 (p2 t (g2 t)) v0) t l0 h0 j1)))
 .ret) (.seq (.reg fun c t l h k => cl c 68 [(g0 t), (.str ⟨4, 1819242338⟩)] t l h fun v0 l0 h0 => k (p14 t v0) l0 h0)
 (.cond (.tmp 14) (.seq (.reg fun c t l h k => gn Tryd.f72 72 5 1 c (p17 t (g3 t)) t l h (fun v0 l0 h0 => jn (fun v1 l1 h1 => k t l1 h1) fun j1 => sto 49 (g2 t) v0 l0 h0 j1 (gn Tryd.f72 72 5 2 c (p18 (p2 t (g2 t)) v0) t l0 h0 j1)))
 .ret) (.seq (.reg fun c t l h k => cl c 68 [(g0 t), (.str ⟨4, 1953066613⟩)] t l h fun v0 l0 h0 => k (p19 t v0) l0 h0)
 (.cond (.tmp 19) (.seq (.reg fun c t l h k => gn Tryd.f72 72 7 1 c (p22 t (g3 t)) t l h (fun v0 l0 h0 => jn (fun v1 l1 h1 => k t l1 h1) fun j1 => sto 49 (g2 t) v0 l0 h0 j1 (gn Tryd.f72 72 7 2 c (p23 (p2 t (g2 t)) v0) t l0 h0 j1)))
 .ret) .skip)))))))
 (.seq (.reg fun c t l h k => cl c 70 [(g0 t), (.str ⟨1, 123⟩)] t l h fun v0 l0 h0 => k t l0 h0)
 (.seq (.reg fun c t l h k => cl c 69 [(g0 t)] t l h fun v0 l0 h0 => al Pg 90 4 l0 fun v1 l1 => jn (fun v2 l2 h2 => k (p4 t v1) l2 h2) fun j2 => sto 90 v1 v0 l1 h0 j2 (gn Tryd.f72 72 9 3 c (p27 (p4 t v1) v0) t l1 h0 j2))
 (.seq (.reg fun c t l h k => cl c 70 [(g0 t), (.str ⟨1, 58⟩)] t l h fun v0 l0 h0 => k t l0 h0)
 (.seq (.reg fun c t l h k => cl c 70 [(g0 t), (.str ⟨3, 7630441⟩)] t l h fun v0 l0 h0 => k t l0 h0)
 (.seq (.reg fun c t l h k => cl c 70 [(g0 t), (.str ⟨1, 124⟩)] t l h fun v0 l0 h0 => k t l0 h0)
 (.seq (.reg fun c t l h k => cl c 73 [(g0 t)] t l h fun v0 l0 h0 => al Pg 51 5 l0 fun v1 l1 => jn (fun v2 l2 h2 => k (p5 t v1) l2 h2) fun j2 => sto 51 v1 v0 l1 h0 j2 (gn Tryd.f72 72 13 3 c (p35 (p5 t v1) v0) t l1 h0 j2))
 (.seq (.reg fun c t l h k => cl c 70 [(g0 t), (.str ⟨1, 125⟩)] t l h fun v0 l0 h0 => k t l0 h0)
 (.seq (.reg fun c t l h k => bO (fa Pg 90 (g4 t) 1) fun v0 => bO (ld Pg 9 v0 l h) fun v1 => bO (ld Pg 51 (g5 t) l h) fun v2 => bO (bs Pg 47 1 [(0, v2)]) fun v3 => gn Tryd.f72 72 15 5 c (p42 (p41 (p39 t v1) v3) (g3 t)) t l h (fun v4 l4 h4 => jn (fun v5 l5 h5 => k t l5 h5) fun j5 => sto 49 (g2 t) v4 l4 h4 j5 (gn Tryd.f72 72 15 6 c (p43 (p2 t (g2 t)) v4) t l4 h4 j5)))
 .ret)))))))))))

def kp73 : List Nat := [0, 2, 3, 6]
def rc73 : RC := (.seq (.reg fun c t l h k => al Pg 51 2 l fun v0 l0 => k (p2 t v0) l0 h)
 (.seq (.seq (.reg fun c t l h k => cl c 91 [(g0 t)] t l h fun v0 l0 h0 => bO (G.un .not v0) fun v1 => k (p6 t v1) l0 h0)
 (.cond (.tmp 6) (.seq (.reg fun c t l h k => bO (nilC (g0 t)) fun v0 => bO (fa Pg 88 v0 4) fun v1 => bO (ld Pg 3 v1 l h) fun v2 => bO (bin Pg .sub 3 true v2 (I 1)) fun v3 => bO (nilC (g0 t)) fun v4 => bO (fa Pg 88 v4 4) fun v5 => jn (fun v6 l6 h6 => k t l6 h6) fun j6 => sto 3 v5 v3 l h j6 (gn Tryd.f73 73 2 7 c (p11 (p13 t v5) v3) t l h j6))
 (.seq (.reg fun c t l h k => gn Tryd.f73 73 3 0 c t t l h (fun v0 l0 h0 => jn (fun v1 l1 h1 => k t l1 h1) fun j1 => sto 51 (g2 t) v0 l0 h0 j1 (gn Tryd.f73 73 3 1 c (p14 (p2 t (g2 t)) v0) t l0 h0 j1)))
 .ret)) .skip))
 (.seq (.reg fun c t l h k => cl c 92 [(g0 t)] t l h fun v0 l0 h0 => al Pg 51 3 l0 fun v1 l1 => jn (fun v2 l2 h2 => k (p3 t v1) l2 h2) fun j2 => sto 51 v1 v0 l1 h0 j2 (gn Tryd.f73 73 4 3 c (p16 (p3 t v1) v0) t l1 h0 j2))
 (.seq (.reg fun c t l h k => bO (nilC (g0 t)) fun v0 => bO (fa Pg 88 v0 4) fun v1 => bO (ld Pg 3 v1 l h) fun v2 => bO (bin Pg .sub 3 true v2 (I 1)) fun v3 => bO (nilC (g0 t)) fun v4 => bO (fa Pg 88 v4 4) fun v5 => jn (fun v6 l6 h6 => k t l6 h6) fun j6 => sto 3 v5 v3 l h j6 (gn Tryd.f73 73 5 7 c (p21 (p23 t v5) v3) t l h j6))
 (.seq (.reg fun c t l h k => bO (ld Pg 51 (g3 t) l h) fun v0 => jn (fun v1 l1 h1 => k t l1 h1) fun j1 => sto 51 (g2 t) v0 l h j1 (gn Tryd.f73 73 6 1 c (p24 (p2 t (g2 t)) v0) t l h j1))
 .ret)))))

def kp91 : List Nat := [0, 2, 14]
def rc91 : RC := (.seq (.reg fun c t l h k => k (p2 t (.bool false)) l h)
 (.seq (.reg fun c t l h k => bO (nilC (g0 t)) fun v0 => bO (fa Pg 88 v0 4) fun v1 => bO (ld Pg 3 v1 l h) fun v2 => bO (bin Pg .add 3 true v2 (I 1)) fun v3 => bO (nilC (g0 t)) fun v4 => bO (fa Pg 88 v4 4) fun v5 => jn (fun v6 l6 h6 => k t l6 h6) fun j6 => sto 3 v5 v3 l h j6 (gn Tryd.f91 91 1 7 c (p7 (p9 t v5) v3) t l h j6))
 (.seq (.seq (.reg fun c t l h k => bO (nilC (g0 t)) fun v0 => bO (fa Pg 88 v0 4) fun v1 => bO (ld Pg 3 v1 l h) fun v2 => bO (bin Pg .gtr 3 true v2 (I 200)) fun v3 => k (p14 t v3) l h)
 (.cond (.tmp 14) (.seq (.reg fun c t l h k => cl c 43 [(g0 t)] t l h fun v0 l0 h0 => bO (fld Pg 90 v0 2) fun v1 => cl c 45 [(g0 t), v1, (I 151)] t l0 h0 fun v2 l2 h2 => k t l2 h2)
 (.seq (.reg fun c t l h k => k (p2 t (.bool false)) l h)
 .ret)) .skip))
 (.seq (.reg fun c t l h k => bO (nilC (g0 t)) fun v0 => bO (fa Pg 88 v0 2) fun v1 => bO (ld Pg 3 v1 l h) fun v2 => bO (bin Pg .eql 3 true v2 (I 0)) fun v3 => k (p2 t v3) l h)
 .ret))))

def kp92 : List Nat := [0, 2, 3, 4, 5, 6, 7, 8, 9, 10, 11, 12, 13, 14, 15, 19, 38, 58, 84]
def rc92 : RC := (.seq (.reg fun c t l h k => al Pg 51 2 l fun v0 l0 => k (p2 t v0) l0 h)
 (.seq (.reg fun c t l h k => cl c 43 [(g0 t)] t l h fun v0 l0 h0 => bO (fld Pg 90 v0 2) fun v1 => k (p3 t v1) l0 h0)
 (.seq (.block 0 (.seq (.reg fun c t l h k => cl c 68 [(g0 t), (.str ⟨2, 26217⟩)] t l h fun v0 l0 h0 => k (p19 t v0) l0 h0)
 (.cond (.tmp 19) (.seq (.reg fun c t l h k => cl c 73 [(g0 t)] t l h fun v0 l0 h0 => al Pg 51 4 l0 fun v1 l1 => jn (fun v2 l2 h2 => k (p4 t v1) l2 h2) fun j2 => sto 51 v1 v0 l1 h0 j2 (gn Tryd.f92 92 3 3 c (p23 (p4 t v1) v0) t l1 h0 j2))
 (.seq (.reg fun c t l h k => cl c 70 [(g0 t), (.str ⟨4, 1852139636⟩)] t l h fun v0 l0 h0 => k t l0 h0)
 (.seq (.reg fun c t l h k => cl c 73 [(g0 t)] t l h fun v0 l0 h0 => al Pg 51 5 l0 fun v1 l1 => jn (fun v2 l2 h2 => k (p5 t v1) l2 h2) fun j2 => sto 51 v1 v0 l1 h0 j2 (gn Tryd.f92 92 5 3 c (p27 (p5 t v1) v0) t l1 h0 j2))
 (.seq (.reg fun c t l h k => cl c 70 [(g0 t), (.str ⟨4, 1702063205⟩)] t l h fun v0 l0 h0 => k t l0 h0)
 (.seq (.reg fun c t l h k => cl c 73 [(g0 t)] t l h fun v0 l0 h0 => al Pg 51 6 l0 fun v1 l1 => jn (fun v2 l2 h2 => k (p6 t v1) l2 h2) fun j2 => sto 51 v1 v0 l1 h0 j2 (gn Tryd.f92 92 7 3 c (p31 (p6 t v1) v0) t l1 h0 j2))
 (.seq (.reg fun c t l h k => bO (ld Pg 51 (g4 t) l h) fun v0 => bO (ld Pg 51 (g5 t) l h) fun v1 => bO (ld Pg 51 (g6 t) l h) fun v2 => bO (bs Pg 47 3 [(0, v0), (1, v1), (2, v2)]) fun v3 => gn Tryd.f92 92 8 5 c (p36 (p35 t v3) (g3 t)) t l h (fun v4 l4 h4 => jn (fun v5 l5 h5 => k t l5 h5) fun j5 => sto 51 (g2 t) v4 l4 h4 j5 (gn Tryd.f92 92 8 6 c (p37 (p2 t (g2 t)) v4) t l4 h4 j5)))
 .ret)))))) (.seq (.reg fun c t l h k => cl c 68 [(g0 t), (.str ⟨3, 7628140⟩)] t l h fun v0 l0 h0 => k (p38 t v0) l0 h0)
 (.cond (.tmp 38) (.seq (.reg fun c t l h k => cl c 69 [(g0 t)] t l h fun v0 l0 h0 => al Pg 90 7 l0 fun v1 l1 => jn (fun v2 l2 h2 => k (p7 t v1) l2 h2) fun j2 => sto 90 v1 v0 l1 h0 j2 (gn Tryd.f92 92 10 3 c (p42 (p7 t v1) v0) t l1 h0 j2))
 (.seq (.reg fun c t l h k => cl c 70 [(g0 t), (.str ⟨1, 61⟩)] t l h fun v0 l0 h0 => k t l0 h0)
 (.seq (.reg fun c t l h k => cl c 73 [(g0 t)] t l h fun v0 l0 h0 => al Pg 51 8 l0 fun v1 l1 => jn (fun v2 l2 h2 => k (p8 t v1) l2 h2) fun j2 => sto 51 v1 v0 l1 h0 j2 (gn Tryd.f92 92 12 3 c (p46 (p8 t v1) v0) t l1 h0 j2))
 (.seq (.reg fun c t l h k => cl c 70 [(g0 t), (.str ⟨2, 28265⟩)] t l h fun v0 l0 h0 => k t l0 h0)
 (.seq (.reg fun c t l h k => cl c 73 [(g0 t)] t l h fun v0 l0 h0 => al Pg 51 9 l0 fun v1 l1 => jn (fun v2 l2 h2 => k (p9 t v1) l2 h2) fun j2 => sto 51 v1 v0 l1 h0 j2 (gn Tryd.f92 92 14 3 c (p50 (p9 t v1) v0) t l1 h0 j2))
 (.seq (.reg fun c t l h k => bO (fa Pg 90 (g7 t) 1) fun v0 => bO (ld Pg 9 v0 l h) fun v1 => bO (ld Pg 51 (g8 t) l h) fun v2 => bO (ld Pg 51 (g9 t) l h) fun v3 => bO (bs Pg 47 2 [(0, v2), (1, v3)]) fun v4 => gn Tryd.f92 92 15 6 c (p56 (p55 (p52 t v1) v4) (g3 t)) t l h (fun v5 l5 h5 => jn (fun v6 l6 h6 => k t l6 h6) fun j6 => sto 51 (g2 t) v5 l5 h5 j6 (gn Tryd.f92 92 15 7 c (p57 (p2 t (g2 t)) v5) t l5 h5 j6)))
 .ret)))))) (.seq (.reg fun c t l h k => cl c 68 [(g0 t), (.str ⟨3, 7959156⟩)] t l h fun v0 l0 h0 => k (p58 t v0) l0 h0)
 (.cond (.tmp 58) (.seq (.reg fun c t l h k => cl c 73 [(g0 t)] t l h fun v0 l0 h0 => al Pg 51 10 l0 fun v1 l1 => jn (fun v2 l2 h2 => k (p10 t v1) l2 h2) fun j2 => sto 51 v1 v0 l1 h0 j2 (gn Tryd.f92 92 17 3 c (p62 (p10 t v1) v0) t l1 h0 j2))
 (.seq (.reg fun c t l h k => cl c 70 [(g0 t), (.str ⟨4, 1752459639⟩)] t l h fun v0 l0 h0 => k t l0 h0)
 (.seq (.reg fun c t l h k => cl c 69 [(g0 t)] t l h fun v0 l0 h0 => al Pg 90 11 l0 fun v1 l1 => jn (fun v2 l2 h2 => k (p11 t v1) l2 h2) fun j2 => sto 90 v1 v0 l1 h0 j2 (gn Tryd.f92 92 19 3 c (p66 (p11 t v1) v0) t l1 h0 j2))
 (.seq (.reg fun c t l h k => cl c 70 [(g0 t), (.str ⟨2, 15917⟩)] t l h fun v0 l0 h0 => k t l0 h0)
 (.seq (.reg fun c t l h k => cl c 73 [(g0 t)] t l h fun v0 l0 h0 => al Pg 51 12 l0 fun v1 l1 => jn (fun v2 l2 h2 => k (p12 t v1) l2 h2) fun j2 => sto 51 v1 v0 l1 h0 j2 (gn Tryd.f92 92 21 3 c (p70 (p12 t v1) v0) t l1 h0 j2))
 (.seq (.reg fun c t l h k => bO (fa Pg 90 (g11 t) 1) fun v0 => bO (ld Pg 9 v0 l h) fun v1 => bO (ld Pg 51 (g10 t) l h) fun v2 => bO (ld Pg 51 (g12 t) l h) fun v3 => bO (bs Pg 47 2 [(0, v2), (1, v3)]) fun v4 => gn Tryd.f92 92 22 6 c (p76 (p75 (p72 t v1) v4) (g3 t)) t l h (fun v5 l5 h5 => jn (fun v6 l6 h6 => k t l6 h6) fun j6 => sto 51 (g2 t) v5 l5 h5 j6 (gn Tryd.f92 92 22 7 c (p77 (p2 t (g2 t)) v5) t l5 h5 j6)))
 .ret)))))) .skip)))))))
 (.seq (.reg fun c t l h k => cl c 102 [(g0 t)] t l h fun v0 l0 h0 => al Pg 51 13 l0 fun v1 l1 => jn (fun v2 l2 h2 => k (p13 t v1) l2 h2) fun j2 => sto 51 v1 v0 l1 h0 j2 (gn Tryd.f92 92 23 3 c (p79 (p13 t v1) v0) t l1 h0 j2))
 (.seq (.reg fun c t l h k => cl c 43 [(g0 t)] t l h fun v0 l0 h0 => bO (fld Pg 90 v0 2) fun v1 => k (p14 t v1) l0 h0)
 (.seq (.seq (.reg fun c t l h k => cl c 68 [(g0 t), (.str ⟨1, 59⟩)] t l h fun v0 l0 h0 => k (p84 t v0) l0 h0)
 (.cond (.tmp 84) (.seq (.reg fun c t l h k => cl c 73 [(g0 t)] t l h fun v0 l0 h0 => al Pg 51 15 l0 fun v1 l1 => jn (fun v2 l2 h2 => k (p15 t v1) l2 h2) fun j2 => sto 51 v1 v0 l1 h0 j2 (gn Tryd.f92 92 26 3 c (p86 (p15 t v1) v0) t l1 h0 j2))
 (.seq (.reg fun c t l h k => bO (ld Pg 51 (g13 t) l h) fun v0 => bO (ld Pg 51 (g15 t) l h) fun v1 => bO (bs Pg 47 2 [(0, v0), (1, v1)]) fun v2 => gn Tryd.f92 92 27 4 c (p90 (p89 t v2) (g14 t)) t l h (fun v3 l3 h3 => jn (fun v4 l4 h4 => k t l4 h4) fun j4 => sto 51 (g2 t) v3 l3 h3 j4 (gn Tryd.f92 92 27 5 c (p91 (p2 t (g2 t)) v3) t l3 h3 j4)))
 .ret)) .skip))
 (.seq (.reg fun c t l h k => bO (ld Pg 51 (g13 t) l h) fun v0 => jn (fun v1 l1 h1 => k t l1 h1) fun j1 => sto 51 (g2 t) v0 l h j1 (gn Tryd.f92 92 28 1 c (p92 (p2 t (g2 t)) v0) t l h j1))
 .ret)))))))

def kp100 : List Nat := [0, 1, 2, 5, 6, 7, 13]
def rc100 : RC := (.seq (.reg fun c t l h k => gn Tryd.f100 100 0 0 c (p2 t (g2 t)) t l h (fun v0 l0 h0 => k (p6 (p5 t v0) (I 0)) l0 h0))
 (.seq (.reg fun c t l h k => bO (fa Pg 51 (g5 t) 1) fun v0 => bO (ld Pg 9 v0 l h) fun v1 => cl c 57 [(g1 t), v1] t l h fun v2 l2 h2 => k (p7 t v2) l2 h2)
 (.seq (.seq (.reg fun c t l h k => bO (bin Pg .lss 3 true (g7 t) (I 0)) fun v0 => k (p13 t v0) l h)
 (.cond (.tmp 13) (.reg fun c t l h k => bO (fa Pg 51 (g5 t) 6) fun v0 => bO (ld Pg 3 v0 l h) fun v1 => cl c 32 [(g0 t), v1, (I 170)] t l h fun v2 l2 h2 => k t l2 h2) .skip))
 (.seq (.reg fun c t l h k => k (p6 t (g7 t)) l h)
 .ret))))

def kp102 : List Nat := [0, 2, 3, 4, 5, 6, 9, 45, 55]
def rc102 : RC := (.seq (.reg fun c t l h k => al Pg 51 2 l fun v0 l0 => k (p2 t v0) l0 h)
 (.seq (.reg fun c t l h k => cl c 43 [(g0 t)] t l h fun v0 l0 h0 => al Pg 90 3 l0 fun v1 l1 => jn (fun v2 l2 h2 => k (p3 t v1) l2 h2) fun j2 => sto 90 v1 v0 l1 h0 j2 (gn Tryd.f102 102 1 3 c (p8 (p3 t v1) v0) t l1 h0 j2))
 (.seq (.block 0 (.seq (.reg fun c t l h k => bO (nilC (g0 t)) fun v0 => bO (fa Pg 88 v0 2) fun v1 => bO (ld Pg 3 v1 l h) fun v2 => bO (bin Pg .eql 3 true v2 (I 0)) fun v3 => jn (fun v4 l4 h4 => jn (fun v5 l5 h5 => jn (fun v6 l6 h6 => bO (pick v3 v6 (.bool false)) fun v7 => jn (fun v8 l8 h8 => jn (fun v9 l9 h9 => jn (fun v10 l10 h10 => jn (fun v11 l11 h11 => bO (pick v7 v11 (.bool false)) fun v12 => jn (fun v13 l13 h13 => jn (fun v14 l14 h14 => jn (fun v15 l15 h15 => jn (fun v16 l16 h16 => bO (pick v12 v16 (.bool false)) fun v17 => k (p9 t v17) l16 h16) fun j16 => brB (wv v12 true) (j16 (.tuple []) l15 h15) (bO (bin Pg .eql 9 true v15 (.str ⟨2, 15674⟩)) fun v17 => j16 v17 l15 h15)) fun j15 => brB (wv v12 true) (j15 (.tuple []) l14 h14) (bO (fld Pg 90 v14 1) fun v16 => j15 v16 l14 h14)) fun j14 => brB (wv v12 true) (j14 (.tuple []) l13 h13) (cl c 108 [v13] t l13 h13 fun v15 l15 h15 => j14 v15 l15 h15)) fun j13 => brB (wv v12 true) (j13 (.tuple []) l11 h11) (j13 (g0 t) l11 h11)) fun j11 => brB (wv v7 true) (j11 (.tuple []) l10 h10) (bO (bin Pg .eql 3 true v10 (I 4)) fun v12 => j11 v12 l10 h10)) fun j10 => brB (wv v7 true) (j10 (.tuple []) l9 h9) (bO (fld Pg 90 v9 0) fun v11 => j10 v11 l9 h9)) fun j9 => brB (wv v7 true) (j9 (.tuple []) l8 h8) (cl c 108 [v8] t l8 h8 fun v10 l10 h10 => j9 v10 l10 h10)) fun j8 => brB (wv v7 true) (j8 (.tuple []) l6 h6) (j8 (g0 t) l6 h6)) fun j6 => brB (wv v3 true) (j6 (.tuple []) l5 h5) (bO (bin Pg .eql 3 true v5 (I 1)) fun v7 => j6 v7 l5 h5)) fun j5 => brB (wv v3 true) (j5 (.tuple []) l4 h4) (bO (ld Pg 3 v4 l4 h4) fun v6 => j5 v6 l4 h4)) fun j4 => brB (wv v3 true) (j4 (.tuple []) l h) (bO (fa Pg 90 (g3 t) 0) fun v5 => j4 v5 l h))
 (.cond (.tmp 9) (.seq (.reg fun c t l h k => cl c 71 [(g0 t)] t l h fun v0 l0 h0 => k t l0 h0)
 (.seq (.reg fun c t l h k => cl c 71 [(g0 t)] t l h fun v0 l0 h0 => k t l0 h0)
 (.seq (.reg fun c t l h k => cl c 109 [(g0 t)] t l h fun v0 l0 h0 => al Pg 51 4 l0 fun v1 l1 => jn (fun v2 l2 h2 => k (p4 t v1) l2 h2) fun j2 => sto 51 v1 v0 l1 h0 j2 (gn Tryd.f102 102 5 3 c (p37 (p4 t v1) v0) t l1 h0 j2))
 (.seq (.reg fun c t l h k => bO (fa Pg 90 (g3 t) 1) fun v0 => bO (ld Pg 9 v0 l h) fun v1 => bO (ld Pg 51 (g4 t) l h) fun v2 => bO (bs Pg 47 1 [(0, v2)]) fun v3 => bO (fa Pg 90 (g3 t) 2) fun v4 => bO (ld Pg 3 v4 l h) fun v5 => gn Tryd.f102 102 6 6 c (p43 (p41 (p39 t v1) v3) v5) t l h (fun v6 l6 h6 => jn (fun v7 l7 h7 => k t l7 h7) fun j7 => sto 51 (g2 t) v6 l6 h6 j7 (gn Tryd.f102 102 6 7 c (p44 (p2 t (g2 t)) v6) t l6 h6 j7)))
 .ret)))) (.seq (.reg fun c t l h k => cl c 68 [(g0 t), (.str ⟨5, 435727982962⟩)] t l h fun v0 l0 h0 => k (p45 t v0) l0 h0)
 (.cond (.tmp 45) (.seq (.reg fun c t l h k => cl c 109 [(g0 t)] t l h fun v0 l0 h0 => al Pg 51 5 l0 fun v1 l1 => jn (fun v2 l2 h2 => k (p5 t v1) l2 h2) fun j2 => sto 51 v1 v0 l1 h0 j2 (gn Tryd.f102 102 8 3 c (p49 (p5 t v1) v0) t l1 h0 j2))
 (.seq (.reg fun c t l h k => bO (ld Pg 51 (g5 t) l h) fun v0 => bO (bs Pg 47 1 [(0, v0)]) fun v1 => bO (fa Pg 90 (g3 t) 2) fun v2 => bO (ld Pg 3 v2 l h) fun v3 => gn Tryd.f102 102 9 4 c (p53 (p51 t v1) v3) t l h (fun v4 l4 h4 => jn (fun v5 l5 h5 => k t l5 h5) fun j5 => sto 51 (g2 t) v4 l4 h4 j5 (gn Tryd.f102 102 9 5 c (p54 (p2 t (g2 t)) v4) t l4 h4 j5)))
 .ret)) (.seq (.reg fun c t l h k => cl c 68 [(g0 t), (.str ⟨6, 128034677158753⟩)] t l h fun v0 l0 h0 => k (p55 t v0) l0 h0)
 (.cond (.tmp 55) (.seq (.reg fun c t l h k => cl c 109 [(g0 t)] t l h fun v0 l0 h0 => al Pg 51 6 l0 fun v1 l1 => jn (fun v2 l2 h2 => k (p6 t v1) l2 h2) fun j2 => sto 51 v1 v0 l1 h0 j2 (gn Tryd.f102 102 11 3 c (p59 (p6 t v1) v0) t l1 h0 j2))
 (.seq (.reg fun c t l h k => bO (ld Pg 51 (g6 t) l h) fun v0 => bO (bs Pg 47 1 [(0, v0)]) fun v1 => bO (fa Pg 90 (g3 t) 2) fun v2 => bO (ld Pg 3 v2 l h) fun v3 => gn Tryd.f102 102 12 4 c (p63 (p61 t v1) v3) t l h (fun v4 l4 h4 => jn (fun v5 l5 h5 => k t l5 h5) fun j5 => sto 51 (g2 t) v4 l4 h4 j5 (gn Tryd.f102 102 12 5 c (p64 (p2 t (g2 t)) v4) t l4 h4 j5)))
 .ret)) .skip)))))))
 (.seq (.reg fun c t l h k => cl c 109 [(g0 t)] t l h fun v0 l0 h0 => jn (fun v1 l1 h1 => k t l1 h1) fun j1 => sto 51 (g2 t) v0 l0 h0 j1 (gn Tryd.f102 102 13 2 c (p66 (p2 t (g2 t)) v0) t l0 h0 j1))
 .ret))))

def kp108 : List Nat := [0, 2, 13]
def rc108 : RC := (.seq (.reg fun c t l h k => al Pg 90 2 l fun v0 l0 => k (p2 t v0) l0 h)
 (.seq (.seq (.reg fun c t l h k => bO (nilC (g0 t)) fun v0 => bO (fa Pg 88 v0 1) fun v1 => bO (ld Pg 3 v1 l h) fun v2 => bO (bin Pg .add 3 true v2 (I 1)) fun v3 => bO (nilC (g0 t)) fun v4 => bO (fa Pg 88 v4 0) fun v5 => bO (ld Pg 83 v5 l h) fun v6 => bO (len (Pg.underlying 83) v6) fun v7 => bO (bin Pg .lss 3 false v3 v7) fun v8 => k (p13 t v8) l h)
 (.cond (.tmp 13) (.seq (.reg fun c t l h k => bO (nilC (g0 t)) fun v0 => bO (fa Pg 88 v0 0) fun v1 => bO (ld Pg 83 v1 l h) fun v2 => bO (nilC (g0 t)) fun v3 => bO (fa Pg 88 v3 1) fun v4 => bO (ld Pg 3 v4 l h) fun v5 => bO (bin Pg .add 3 true v5 (I 1)) fun v6 => bO (ia Pg 83 v2 v6) fun v7 => bO (ld Pg 90 v7 l h) fun v8 => jE ((24, v8) :: (23, v7) :: (22, v6) :: (21, v5) :: (20, v4) :: (19, v3) :: (18, (g0 t)) :: (17, v2) :: (16, v1) :: (15, v0) :: (14, (g0 t)) :: []) fun e9 => jF ((ldF v7) :: ft0 :: ft0 :: (ldF v4) :: ft0 :: ft0 :: ft0 :: (ldF v1) :: ft0 :: ft0 :: ft0 :: []) fun q9 => gD Tryd.f108 108 2 11 c (p24 (p2 t (g2 t)) v8) l h (fun v9 f9 l9 h9 => finD (rgA Tryd.f108 2).toList [] [] (f9 :: q9) (k t l9 h9)) (sD Tryd.f108 108 2 c 11 none e9 q9 t l h))
 .ret) .skip))
 (.seq (.reg fun c t l h k => gn Tryd.f108 108 3 0 c t t l h (fun v0 l0 h0 => jn (fun v1 l1 h1 => k t l1 h1) fun j1 => sto 90 (g2 t) v0 l0 h0 j1 (gn Tryd.f108 108 3 1 c (p25 (p2 t (g2 t)) v0) t l0 h0 j1)))
 .ret)))

def kp109 : List Nat := [0, 2, 3, 4, 5, 12, 14]
def rc109 : RC := (.seq (.reg fun c t l h k => al Pg 51 2 l fun v0 l0 => k (p2 t v0) l0 h)
 (.seq (.reg fun c t l h k => cl c 110 [(g0 t), (I 0)] t l h fun v0 l0 h0 => al Pg 51 3 l0 fun v1 l1 => jn (fun v2 l2 h2 => k (p3 t v1) l2 h2) fun j2 => sto 51 v1 v0 l1 h0 j2 (gn Tryd.f109 109 1 3 c (p7 (p3 t v1) v0) t l1 h0 j2))
 (.seq (.reg fun c t l h k => cl c 43 [(g0 t)] t l h fun v0 l0 h0 => bO (fld Pg 90 v0 2) fun v1 => k (p4 t v1) l0 h0)
 (.seq (.seq (.reg fun c t l h k => cl c 68 [(g0 t), (.str ⟨3, 4078909⟩)] t l h fun v0 l0 h0 => k (p12 t v0) l0 h0)
 (.cond (.tmp 12) (.seq (.reg fun c t l h k => al Pg 51 5 l fun v0 l0 => k (p5 t v0) l0 h)
 (.seq (.seq (.reg fun c t l h k => cl c 91 [(g0 t)] t l h fun v0 l0 h0 => k (p14 t v0) l0 h0)
 (.cond (.tmp 14) (.reg fun c t l h k => cl c 109 [(g0 t)] t l h fun v0 l0 h0 => jn (fun v1 l1 h1 => k t l1 h1) fun j1 => sto 51 (g5 t) v0 l0 h0 j1 (gn Tryd.f109 109 6 2 c (p16 (p5 t (g5 t)) v0) t l0 h0 j1)) .skip))
 (.seq (.reg fun c t l h k => bO (nilC (g0 t)) fun v0 => bO (fa Pg 88 v0 4) fun v1 => bO (ld Pg 3 v1 l h) fun v2 => bO (bin Pg .sub 3 true v2 (I 1)) fun v3 => bO (nilC (g0 t)) fun v4 => bO (fa Pg 88 v4 4) fun v5 => jn (fun v6 l6 h6 => k t l6 h6) fun j6 => sto 3 v5 v3 l h j6 (gn Tryd.f109 109 7 7 c (p21 (p23 t v5) v3) t l h j6))
 (.seq (.reg fun c t l h k => bO (ld Pg 51 (g3 t) l h) fun v0 => bO (ld Pg 51 (g5 t) l h) fun v1 => bO (bs Pg 47 2 [(0, v0), (1, v1)]) fun v2 => gn Tryd.f109 109 8 4 c (p27 (p26 t v2) (g4 t)) t l h (fun v3 l3 h3 => jn (fun v4 l4 h4 => k t l4 h4) fun j4 => sto 51 (g2 t) v3 l3 h3 j4 (gn Tryd.f109 109 8 5 c (p28 (p2 t (g2 t)) v3) t l3 h3 j4)))
 .ret)))) .skip))
 (.seq (.reg fun c t l h k => bO (ld Pg 51 (g3 t) l h) fun v0 => jn (fun v1 l1 h1 => k t l1 h1) fun j1 => sto 51 (g2 t) v0 l h j1 (gn Tryd.f109 109 9 1 c (p29 (p2 t (g2 t)) v0) t l h j1))
 .ret)))))

def kp110 : List Nat := [0, 1, 4, 5, 6, 7, 8, 9, 10, 11, 13, 42, 53, 61, 67, 79]
def rc110 : RC := (.seq (.reg fun c t l h k => al Pg 51 4 l fun v0 l0 => k (p4 t v0) l0 h)
 (.seq (.seq (.reg fun c t l h k => bO (bin Pg .eql 3 true (g1 t) (I 5)) fun v0 => k (p13 t v0) l h)
 (.cond (.tmp 13) (.seq (.reg fun c t l h k => cl c 111 [(g0 t)] t l h fun v0 l0 h0 => jn (fun v1 l1 h1 => k t l1 h1) fun j1 => sto 51 (g4 t) v0 l0 h0 j1 (gn Tryd.f110 110 2 2 c (p15 (p4 t (g4 t)) v0) t l0 h0 j1))
 .ret) .skip))
 (.seq (.reg fun c t l h k => bO (bs Pg 36 1 [(0, (.str ⟨2, 31868⟩))]) fun v0 => bO (bs Pg 36 1 [(0, (.str ⟨2, 9766⟩))]) fun v1 => bO (bs Pg 36 6 [(0, (.str ⟨1, 61⟩)), (1, (.str ⟨2, 15932⟩)), (2, (.str ⟨1, 60⟩)), (3, (.str ⟨2, 15676⟩)), (4, (.str ⟨1, 62⟩)), (5, (.str ⟨2, 15678⟩))]) fun v2 => bO (bs Pg 36 2 [(0, (.str ⟨1, 43⟩)), (1, (.str ⟨1, 45⟩))]) fun v3 => bO (bs Pg 36 1 [(0, (.str ⟨1, 42⟩))]) fun v4 => bO (bs Pg 176 5 [(0, v0), (1, v1), (2, v2), (3, v3), (4, v4)]) fun v5 => bO (ia Pg 176 v5 (g1 t)) fun v6 => bO (ld Pg 36 v6 l h) fun v7 => k (p5 t v7) l h)
 (.seq (.reg fun c t l h k => bO (bs Pg 39 1 [(0, (I 19))]) fun v0 => bO (bs Pg 39 1 [(0, (I 18))]) fun v1 => bO (bs Pg 39 6 [(0, (I 12)), (1, (I 13)), (2, (I 14)), (3, (I 15)), (4, (I 16)), (5, (I 17))]) fun v2 => bO (bs Pg 39 2 [(0, (I 10)), (1, (I 11))]) fun v3 => bO (bs Pg 39 1 [(0, (I 9))]) fun v4 => bO (bs Pg 177 5 [(0, v0), (1, v1), (2, v2), (3, v3), (4, v4)]) fun v5 => bO (ia Pg 177 v5 (g1 t)) fun v6 => bO (ld Pg 39 v6 l h) fun v7 => k (p6 t v7) l h)
 (.seq (.reg fun c t l h k => bO (bin Pg .add 3 true (g1 t) (I 1)) fun v0 => cl c 110 [(g0 t), v0] t l h fun v1 l1 h1 => al Pg 51 7 l1 fun v2 l2 => jn (fun v3 l3 h3 => k (p7 t v2) l3 h3) fun j3 => sto 51 v2 v1 l2 h1 j3 (gn Tryd.f110 110 5 5 c (p37 (p7 t v2) v1) t l2 h1 j3))
 (.seq (.block 0 (.loop (.seq (.seq (.reg fun c t l h k => bO (nilC (g0 t)) fun v0 => bO (fa Pg 88 v0 2) fun v1 => bO (ld Pg 3 v1 l h) fun v2 => bO (bin Pg .eql 3 true v2 (I 0)) fun v3 => k (p42 t v3) l h)
 (.cond (.tmp 42) .skip (.exit 0)))
 (.block 1 (.seq (.reg fun c t l h k => cl c 43 [(g0 t)] t l h fun v0 l0 h0 => bO (fld Pg 90 v0 2) fun v1 => k (p9 (p8 t v1) (I 0)) l0 h0)
 (.seq (.seq (.reg fun c t l h k => k (p10 t (I 0)) l h)
 (.block 2 (.loop (.seq (.seq (.reg fun c t l h k => bO (len (Pg.underlying 36) (g5 t)) fun v0 => bO (bin Pg .lss 3 false (g10 t) v0) fun v1 => jn (fun v2 l2 h2 => jn (fun v3 l3 h3 => bO (pick v1 v3 (.bool false)) fun v4 => k (p53 t v4) l3 h3) fun j3 => brB (wv v1 true) (j3 (.tuple []) l2 h2) (bO (bin Pg .eql 3 true v2 (I 0)) fun v4 => j3 v4 l2 h2)) fun j2 => brB (wv v1 true) (j2 (.tuple []) l h) (j2 (g9 t) l h))
 (.cond (.tmp 53) .skip (.exit 2)))
 (.seq (.block 3 (.seq (.reg fun c t l h k => bO (ia Pg 36 (g5 t) (g10 t)) fun v0 => bO (ld Pg 9 v0 l h) fun v1 => cl c 68 [(g0 t), v1] t l h fun v2 l2 h2 => k (p61 t v2) l2 h2)
 (.cond (.tmp 61) (.reg fun c t l h k => bO (ia Pg 39 (g6 t) (g10 t)) fun v0 => bO (ld Pg 3 v0 l h) fun v1 => k (p9 t v1) l h) .skip)))
 (.reg fun c t l h k => bO (bin Pg .add 3 true (g10 t) (I 1)) fun v0 => k (p10 t v0) l h))))))
 (.seq (.seq (.reg fun c t l h k => bO (bin Pg .eql 3 true (g9 t) (I 0)) fun v0 => k (p67 t v0) l h)
 (.cond (.tmp 67) (.exit 0) .skip))
 (.seq (.reg fun c t l h k => bO (bin Pg .add 3 true (g1 t) (I 1)) fun v0 => cl c 110 [(g0 t), v0] t l h fun v1 l1 h1 => al Pg 51 11 l1 fun v2 l2 => jn (fun v3 l3 h3 => k (p11 t v2) l3 h3) fun j3 => sto 51 v2 v1 l2 h1 j3 (gn Tryd.f110 110 14 5 c (p71 (p11 t v2) v1) t l2 h1 j3))
 (.seq (.reg fun c t l h k => bO (ld Pg 51 (g7 t) l h) fun v0 => bO (ld Pg 51 (g11 t) l h) fun v1 => bO (bs Pg 47 2 [(0, v0), (1, v1)]) fun v2 => gn Tryd.f110 110 15 5 c (p76 (p75 (p72 t (g9 t)) v2) (g8 t)) t l h (fun v3 l3 h3 => jn (fun v4 l4 h4 => k t l4 h4) fun j4 => sto 51 (g7 t) v3 l3 h3 j4 (gn Tryd.f110 110 15 6 c (p77 (p7 t (g7 t)) v3) t l3 h3 j4)))
 (.seq (.reg fun c t l h k => bO (bin Pg .eql 3 true (g1 t) (I 2)) fun v0 => k (p79 t v0) l h)
 (.cond (.tmp 79) (.exit 0) .skip)))))))))))
 (.seq (.reg fun c t l h k => bO (ld Pg 51 (g7 t) l h) fun v0 => jn (fun v1 l1 h1 => k t l1 h1) fun j1 => sto 51 (g4 t) v0 l h j1 (gn Tryd.f110 110 17 1 c (p80 (p4 t (g4 t)) v0) t l h j1))
 .ret)))))))

def kp111 : List Nat := [0, 2, 3, 4, 5, 6, 7, 10, 13, 16, 26, 37, 41]
def rc111 : RC := (.seq (.reg fun c t l h k => al Pg 51 2 l fun v0 l0 => k (p2 t v0) l0 h)
 (.seq (.reg fun c t l h k => cl c 43 [(g0 t)] t l h fun v0 l0 h0 => al Pg 90 3 l0 fun v1 l1 => jn (fun v2 l2 h2 => k (p3 t v1) l2 h2) fun j2 => sto 90 v1 v0 l1 h0 j2 (gn Tryd.f111 111 1 3 c (p9 (p3 t v1) v0) t l1 h0 j2))
 (.seq (.reg fun c t l h k => k (p4 t (I 0)) l h)
 (.seq (.block 0 (.seq (.reg fun c t l h k => cl c 68 [(g0 t), (.str ⟨1, 45⟩)] t l h fun v0 l0 h0 => k (p10 t v0) l0 h0)
 (.cond (.tmp 10) (.reg fun c t l h k => k (p4 t (I 7)) l h) (.seq (.reg fun c t l h k => cl c 68 [(g0 t), (.str ⟨3, 7630702⟩)] t l h fun v0 l0 h0 => k (p13 t v0) l0 h0)
 (.cond (.tmp 13) (.reg fun c t l h k => k (p4 t (I 8)) l h) (.seq (.reg fun c t l h k => cl c 68 [(g0 t), (.str ⟨1, 33⟩)] t l h fun v0 l0 h0 => k (p16 t v0) l0 h0)
 (.cond (.tmp 16) (.seq (.reg fun c t l h k => cl c 69 [(g0 t)] t l h fun v0 l0 h0 => al Pg 90 5 l0 fun v1 l1 => jn (fun v2 l2 h2 => k (p5 t v1) l2 h2) fun j2 => sto 90 v1 v0 l1 h0 j2 (gn Tryd.f111 111 8 3 c (p20 (p5 t v1) v0) t l1 h0 j2))
 (.seq (.reg fun c t l h k => bO (fa Pg 90 (g5 t) 1) fun v0 => bO (ld Pg 9 v0 l h) fun v1 => bO (fa Pg 90 (g3 t) 2) fun v2 => bO (ld Pg 3 v2 l h) fun v3 => gn Tryd.f111 111 9 4 c (p24 (p22 t v1) v3) t l h (fun v4 l4 h4 => jn (fun v5 l5 h5 => k t l5 h5) fun j5 => sto 51 (g2 t) v4 l4 h4 j5 (gn Tryd.f111 111 9 5 c (p25 (p2 t (g2 t)) v4) t l4 h4 j5)))
 .ret)) (.seq (.reg fun c t l h k => cl c 68 [(g0 t), (.str ⟨3, 6581359⟩)] t l h fun v0 l0 h0 => k (p26 t v0) l0 h0)
 (.cond (.tmp 26) (.seq (.reg fun c t l h k => cl c 69 [(g0 t)] t l h fun v0 l0 h0 => al Pg 90 6 l0 fun v1 l1 => jn (fun v2 l2 h2 => k (p6 t v1) l2 h2) fun j2 => sto 90 v1 v0 l1 h0 j2 (gn Tryd.f111 111 11 3 c (p30 (p6 t v1) v0) t l1 h0 j2))
 (.seq (.reg fun c t l h k => bO (fa Pg 90 (g6 t) 1) fun v0 => bO (ld Pg 9 v0 l h) fun v1 => bO (fa Pg 90 (g3 t) 2) fun v2 => bO (ld Pg 3 v2 l h) fun v3 => gn Tryd.f111 111 12 4 c (p34 (p32 t v1) v3) t l h (fun v4 l4 h4 => jn (fun v5 l5 h5 => k t l5 h5) fun j5 => sto 51 (g2 t) v4 l4 h4 j5 (gn Tryd.f111 111 12 5 c (p35 (p2 t (g2 t)) v4) t l4 h4 j5)))
 .ret)) .skip)))))))))
 (.seq (.seq (.reg fun c t l h k => bO (bin Pg .eql 3 true (g4 t) (I 0)) fun v0 => k (p37 t v0) l h)
 (.cond (.tmp 37) (.seq (.reg fun c t l h k => cl c 112 [(g0 t)] t l h fun v0 l0 h0 => jn (fun v1 l1 h1 => k t l1 h1) fun j1 => sto 51 (g2 t) v0 l0 h0 j1 (gn Tryd.f111 111 14 2 c (p39 (p2 t (g2 t)) v0) t l0 h0 j1))
 .ret) .skip))
 (.seq (.reg fun c t l h k => al Pg 51 7 l fun v0 l0 => k (p7 t v0) l0 h)
 (.seq (.seq (.reg fun c t l h k => cl c 91 [(g0 t)] t l h fun v0 l0 h0 => k (p41 t v0) l0 h0)
 (.cond (.tmp 41) (.reg fun c t l h k => cl c 111 [(g0 t)] t l h fun v0 l0 h0 => jn (fun v1 l1 h1 => k t l1 h1) fun j1 => sto 51 (g7 t) v0 l0 h0 j1 (gn Tryd.f111 111 17 2 c (p43 (p7 t (g7 t)) v0) t l0 h0 j1)) .skip))
 (.seq (.reg fun c t l h k => bO (nilC (g0 t)) fun v0 => bO (fa Pg 88 v0 4) fun v1 => bO (ld Pg 3 v1 l h) fun v2 => bO (bin Pg .sub 3 true v2 (I 1)) fun v3 => bO (nilC (g0 t)) fun v4 => bO (fa Pg 88 v4 4) fun v5 => jn (fun v6 l6 h6 => k t l6 h6) fun j6 => sto 3 v5 v3 l h j6 (gn Tryd.f111 111 18 7 c (p48 (p50 t v5) v3) t l h j6))
 (.seq (.reg fun c t l h k => bO (ld Pg 51 (g7 t) l h) fun v0 => bO (bs Pg 47 1 [(0, v0)]) fun v1 => bO (fa Pg 90 (g3 t) 2) fun v2 => bO (ld Pg 3 v2 l h) fun v3 => gn Tryd.f111 111 19 5 c (p55 (p53 (p51 t (g4 t)) v1) v3) t l h (fun v4 l4 h4 => jn (fun v5 l5 h5 => k t l5 h5) fun j5 => sto 51 (g2 t) v4 l4 h4 j5 (gn Tryd.f111 111 19 6 c (p56 (p2 t (g2 t)) v4) t l4 h4 j5)))
 .ret)))))))))

def kp112 : List Nat := [0, 2, 3, 4, 5, 6, 7, 10, 17, 28, 34, 40, 44, 57, 69, 80, 84]
def rc112 : RC := (.seq (.reg fun c t l h k => al Pg 51 2 l fun v0 l0 => k (p2 t v0) l0 h)
 (.seq (.reg fun c t l h k => cl c 43 [(g0 t)] t l h fun v0 l0 h0 => al Pg 90 3 l0 fun v1 l1 => jn (fun v2 l2 h2 => k (p3 t v1) l2 h2) fun j2 => sto 90 v1 v0 l1 h0 j2 (gn Tryd.f112 112 1 3 c (p9 (p3 t v1) v0) t l1 h0 j2))
 (.seq (.block 0 (.seq (.reg fun c t l h k => bO (nilC (g0 t)) fun v0 => bO (fa Pg 88 v0 2) fun v1 => bO (ld Pg 3 v1 l h) fun v2 => bO (bin Pg .neq 3 true v2 (I 0)) fun v3 => k (p10 t v3) l h)
 (.cond (.tmp 10) (.seq (.reg fun c t l h k => gn Tryd.f112 112 3 0 c t t l h (fun v0 l0 h0 => jn (fun v1 l1 h1 => k t l1 h1) fun j1 => sto 51 (g2 t) v0 l0 h0 j1 (gn Tryd.f112 112 3 1 c (p16 (p2 t (g2 t)) v0) t l0 h0 j1)))
 .ret) (.seq (.reg fun c t l h k => bO (fa Pg 90 (g3 t) 0) fun v0 => bO (ld Pg 3 v0 l h) fun v1 => bO (bin Pg .eql 3 true v1 (I 3)) fun v2 => k (p17 t v2) l h)
 (.cond (.tmp 17) (.seq (.reg fun c t l h k => cl c 71 [(g0 t)] t l h fun v0 l0 h0 => k t l0 h0)
 (.seq (.reg fun c t l h k => bO (fa Pg 90 (g3 t) 1) fun v0 => bO (ld Pg 9 v0 l h) fun v1 => bO (fa Pg 90 (g3 t) 2) fun v2 => bO (ld Pg 3 v2 l h) fun v3 => gn Tryd.f112 112 6 4 c (p26 (p24 t v1) v3) t l h (fun v4 l4 h4 => jn (fun v5 l5 h5 => k t l5 h5) fun j5 => sto 51 (g2 t) v4 l4 h4 j5 (gn Tryd.f112 112 6 5 c (p27 (p2 t (g2 t)) v4) t l4 h4 j5)))
 .ret)) (.seq (.reg fun c t l h k => cl c 68 [(g0 t), (.str ⟨4, 1702195828⟩)] t l h fun v0 l0 h0 => k (p28 t v0) l0 h0)
 (.cond (.tmp 28) (.seq (.reg fun c t l h k => bO (fa Pg 90 (g3 t) 2) fun v0 => bO (ld Pg 3 v0 l h) fun v1 => gn Tryd.f112 112 8 2 c (p32 t v1) t l h (fun v2 l2 h2 => jn (fun v3 l3 h3 => k t l3 h3) fun j3 => sto 51 (g2 t) v2 l2 h2 j3 (gn Tryd.f112 112 8 3 c (p33 (p2 t (g2 t)) v2) t l2 h2 j3)))
 .ret) (.seq (.reg fun c t l h k => cl c 68 [(g0 t), (.str ⟨5, 435728179558⟩)] t l h fun v0 l0 h0 => k (p34 t v0) l0 h0)
 (.cond (.tmp 34) (.seq (.reg fun c t l h k => bO (fa Pg 90 (g3 t) 2) fun v0 => bO (ld Pg 3 v0 l h) fun v1 => gn Tryd.f112 112 10 2 c (p38 t v1) t l h (fun v2 l2 h2 => jn (fun v3 l3 h3 => k t l3 h3) fun j3 => sto 51 (g2 t) v2 l2 h2 j3 (gn Tryd.f112 112 10 3 c (p39 (p2 t (g2 t)) v2) t l2 h2 j3)))
 .ret) (.seq (.reg fun c t l h k => cl c 68 [(g0 t), (.str ⟨1, 40⟩)] t l h fun v0 l0 h0 => k (p40 t v0) l0 h0)
 (.cond (.tmp 40) (.seq (.seq (.reg fun c t l h k => cl c 68 [(g0 t), (.str ⟨1, 41⟩)] t l h fun v0 l0 h0 => k (p44 t v0) l0 h0)
 (.cond (.tmp 44) (.seq (.reg fun c t l h k => bO (fa Pg 90 (g3 t) 2) fun v0 => bO (ld Pg 3 v0 l h) fun v1 => gn Tryd.f112 112 13 2 c (p46 t v1) t l h (fun v2 l2 h2 => jn (fun v3 l3 h3 => k t l3 h3) fun j3 => sto 51 (g2 t) v2 l2 h2 j3 (gn Tryd.f112 112 13 3 c (p47 (p2 t (g2 t)) v2) t l2 h2 j3)))
 .ret) .skip))
 (.seq (.reg fun c t l h k => cl c 73 [(g0 t)] t l h fun v0 l0 h0 => al Pg 51 4 l0 fun v1 l1 => jn (fun v2 l2 h2 => k (p4 t v1) l2 h2) fun j2 => sto 51 v1 v0 l1 h0 j2 (gn Tryd.f112 112 14 3 c (p49 (p4 t v1) v0) t l1 h0 j2))
 (.seq (.reg fun c t l h k => cl c 70 [(g0 t), (.str ⟨1, 41⟩)] t l h fun v0 l0 h0 => k t l0 h0)
 (.seq (.reg fun c t l h k => bO (ld Pg 51 (g4 t) l h) fun v0 => jn (fun v1 l1 h1 => k t l1 h1) fun j1 => sto 51 (g2 t) v0 l h j1 (gn Tryd.f112 112 16 1 c (p52 (p2 t (g2 t)) v0) t l h j1))
 .ret)))) .skip)))))))))))
 (.seq (.reg fun c t l h k => cl c 69 [(g0 t)] t l h fun v0 l0 h0 => al Pg 90 5 l0 fun v1 l1 => jn (fun v2 l2 h2 => k (p5 t v1) l2 h2) fun j2 => sto 90 v1 v0 l1 h0 j2 (gn Tryd.f112 112 17 3 c (p54 (p5 t v1) v0) t l1 h0 j2))
 (.seq (.seq (.reg fun c t l h k => cl c 68 [(g0 t), (.str ⟨1, 40⟩)] t l h fun v0 l0 h0 => bO (G.un .not v0) fun v1 => k (p57 t v1) l0 h0)
 (.cond (.tmp 57) (.seq (.reg fun c t l h k => bO (fa Pg 90 (g5 t) 1) fun v0 => bO (ld Pg 9 v0 l h) fun v1 => bO (fa Pg 90 (g5 t) 2) fun v2 => bO (ld Pg 3 v2 l h) fun v3 => gn Tryd.f112 112 19 4 c (p61 (p59 t v1) v3) t l h (fun v4 l4 h4 => jn (fun v5 l5 h5 => k t l5 h5) fun j5 => sto 51 (g2 t) v4 l4 h4 j5 (gn Tryd.f112 112 19 5 c (p62 (p2 t (g2 t)) v4) t l4 h4 j5)))
 .ret) .skip))
 (.seq (.reg fun c t l h k => bO (fa Pg 90 (g5 t) 1) fun v0 => bO (ld Pg 9 v0 l h) fun v1 => bO (fa Pg 90 (g5 t) 2) fun v2 => bO (ld Pg 3 v2 l h) fun v3 => gn Tryd.f112 112 20 4 c (p66 (p64 t v1) v3) t l h (fun v4 l4 h4 => al Pg 51 6 l4 fun v5 l5 => jn (fun v6 l6 h6 => k (p6 t v5) l6 h6) fun j6 => sto 51 v5 v4 l5 h4 j6 (gn Tryd.f112 112 20 6 c (p67 (p6 t v5) v4) t l5 h4 j6)))
 (.seq (.seq (.reg fun c t l h k => cl c 68 [(g0 t), (.str ⟨1, 41⟩)] t l h fun v0 l0 h0 => k (p69 t v0) l0 h0)
 (.cond (.tmp 69) (.seq (.reg fun c t l h k => bO (ld Pg 51 (g6 t) l h) fun v0 => jn (fun v1 l1 h1 => k t l1 h1) fun j1 => sto 51 (g2 t) v0 l h j1 (gn Tryd.f112 112 22 1 c (p70 (p2 t (g2 t)) v0) t l h j1))
 .ret) .skip))
 (.seq (.reg fun c t l h k => cl c 73 [(g0 t)] t l h fun v0 l0 h0 => al Pg 51 7 l0 fun v1 l1 => jn (fun v2 l2 h2 => k (p7 t v1) l2 h2) fun j2 => sto 51 v1 v0 l1 h0 j2 (gn Tryd.f112 112 23 3 c (p72 (p7 t v1) v0) t l1 h0 j2))
 (.seq (.reg fun c t l h k => bO (fa Pg 51 (g6 t) 4) fun v0 => bO (ld Pg 47 v0 l h) fun v1 => bO (ld Pg 51 (g7 t) l h) fun v2 => bO (bs Pg 47 1 [(0, v2)]) fun v3 => gn Tryd.f112 112 24 4 c (p76 (p74 t v1) v3) t l h (fun v4 l4 h4 => bO (fa Pg 51 (g6 t) 4) fun v5 => jn (fun v6 l6 h6 => k t l6 h6) fun j6 => sto 47 v5 v4 l4 h4 j6 (gn Tryd.f112 112 24 6 c (p77 (p78 t v5) v4) t l4 h4 j6)))
 (.seq (.block 1 (.loop (.seq (.seq (.reg fun c t l h k => cl c 44 [(g0 t), (.str ⟨1, 44⟩)] t l h fun v0 l0 h0 => k (p80 t v0) l0 h0)
 (.cond (.tmp 80) .skip (.exit 1)))
 (.block 2 (.seq (.seq (.reg fun c t l h k => bO (fa Pg 51 (g6 t) 4) fun v0 => bO (ld Pg 47 v0 l h) fun v1 => bO (len (Pg.underlying 47) v1) fun v2 => bO (bin Pg .eql 3 true v2 (I 8)) fun v3 => k (p84 t v3) l h)
 (.cond (.tmp 84) (.seq (.reg fun c t l h k => cl c 43 [(g0 t)] t l h fun v0 l0 h0 => bO (fld Pg 90 v0 2) fun v1 => cl c 45 [(g0 t), v1, (I 152)] t l0 h0 fun v2 l2 h2 => k t l2 h2)
 (.seq (.reg fun c t l h k => bO (ld Pg 51 (g6 t) l h) fun v0 => jn (fun v1 l1 h1 => k t l1 h1) fun j1 => sto 51 (g2 t) v0 l h j1 (gn Tryd.f112 112 28 1 c (p90 (p2 t (g2 t)) v0) t l h j1))
 .ret)) .skip))
 (.seq (.reg fun c t l h k => cl c 71 [(g0 t)] t l h fun v0 l0 h0 => k t l0 h0)
 (.seq (.reg fun c t l h k => cl c 73 [(g0 t)] t l h fun v0 l0 h0 => jn (fun v1 l1 h1 => k t l1 h1) fun j1 => sto 51 (g7 t) v0 l0 h0 j1 (gn Tryd.f112 112 30 2 c (p94 (p7 t (g7 t)) v0) t l0 h0 j1))
 (.reg fun c t l h k => bO (fa Pg 51 (g6 t) 4) fun v0 => bO (ld Pg 47 v0 l h) fun v1 => bO (ld Pg 51 (g7 t) l h) fun v2 => bO (bs Pg 47 1 [(0, v2)]) fun v3 => gn Tryd.f112 112 31 4 c (p98 (p96 t v1) v3) t l h (fun v4 l4 h4 => bO (fa Pg 51 (g6 t) 4) fun v5 => jn (fun v6 l6 h6 => k t l6 h6) fun j6 => sto 47 v5 v4 l4 h4 j6 (gn Tryd.f112 112 31 6 c (p99 (p100 t v5) v4) t l4 h4 j6))))))))))
 (.seq (.reg fun c t l h k => cl c 70 [(g0 t), (.str ⟨1, 41⟩)] t l h fun v0 l0 h0 => k t l0 h0)
 (.seq (.reg fun c t l h k => bO (ld Pg 51 (g6 t) l h) fun v0 => jn (fun v1 l1 h1 => k t l1 h1) fun j1 => sto 51 (g2 t) v0 l h j1 (gn Tryd.f112 112 33 1 c (p103 (p2 t (g2 t)) v0) t l h j1))
 .ret))))))))))))
def tblL : List (Nat × Fc) := [(4, ⟨rc4, Tryd.f4.results.toList⟩), (5, ⟨rc5, Tryd.f5.results.toList⟩), (11, ⟨rc11, Tryd.f11.results.toList⟩), (13, ⟨rc13, Tryd.f13.results.toList⟩), (14, ⟨rc14, Tryd.f14.results.toList⟩), (17, ⟨rc17, Tryd.f17.results.toList⟩), (18, ⟨rc18, Tryd.f18.results.toList⟩), (20, ⟨rc20, Tryd.f20.results.toList⟩), (21, ⟨rc21, Tryd.f21.results.toList⟩), (23, ⟨rc23, Tryd.f23.results.toList⟩), (24, ⟨rc24, Tryd.f24.results.toList⟩), (25, ⟨rc25, Tryd.f25.results.toList⟩), (31, ⟨rc31, Tryd.f31.results.toList⟩), (32, ⟨rc32, Tryd.f32.results.toList⟩), (33, ⟨rc33, Tryd.f33.results.toList⟩), (42, ⟨rc42, Tryd.f42.results.toList⟩), (43, ⟨rc43, Tryd.f43.results.toList⟩), (44, ⟨rc44, Tryd.f44.results.toList⟩), (45, ⟨rc45, Tryd.f45.results.toList⟩), (46, ⟨rc46, Tryd.f46.results.toList⟩), (57, ⟨rc57, Tryd.f57.results.toList⟩), (58, ⟨rc58, Tryd.f58.results.toList⟩), (59, ⟨rc59, Tryd.f59.results.toList⟩), (60, ⟨rc60, Tryd.f60.results.toList⟩), (65, ⟨rc65, Tryd.f65.results.toList⟩), (66, ⟨rc66, Tryd.f66.results.toList⟩), (67, ⟨rc67, Tryd.f67.results.toList⟩), (68, ⟨rc68, Tryd.f68.results.toList⟩), (69, ⟨rc69, Tryd.f69.results.toList⟩), (70, ⟨rc70, Tryd.f70.results.toList⟩), (71, ⟨rc71, Tryd.f71.results.toList⟩), (72, ⟨rc72, Tryd.f72.results.toList⟩), (73, ⟨rc73, Tryd.f73.results.toList⟩), (91, ⟨rc91, Tryd.f91.results.toList⟩), (92, ⟨rc92, Tryd.f92.results.toList⟩), (100, ⟨rc100, Tryd.f100.results.toList⟩), (102, ⟨rc102, Tryd.f102.results.toList⟩), (108, ⟨rc108, Tryd.f108.results.toList⟩), (109, ⟨rc109, Tryd.f109.results.toList⟩), (110, ⟨rc110, Tryd.f110.results.toList⟩), (111, ⟨rc111, Tryd.f111.results.toList⟩), (112, ⟨rc112, Tryd.f112.results.toList⟩)]
def tbl (f : Nat) : Option Fc := lkL tblL f
end
end Go.AM.S
end

section
namespace Go.AM.S
open Go Go.AM Go.Proofs
set_option maxRecDepth 100000
theorem ok4 : FOk Pg Cg 4 ⟨rc4, Tryd.f4.results.toList⟩ := fok (kp := kp4) rfl Tryd.func4 (by kernel_rfl) (by kernel_rfl) (by kernel_rfl)
theorem ok14 : FOk Pg Cg 14 ⟨rc14, Tryd.f14.results.toList⟩ := fok (kp := kp14) rfl Tryd.func14 (by kernel_rfl) (by kernel_rfl) (by kernel_rfl)
theorem ok21 : FOk Pg Cg 21 ⟨rc21, Tryd.f21.results.toList⟩ := fok (kp := kp21) rfl Tryd.func21 (by kernel_rfl) (by kernel_rfl) (by kernel_rfl)
theorem ok31 : FOk Pg Cg 31 ⟨rc31, Tryd.f31.results.toList⟩ := fok (kp := kp31) rfl Tryd.func31 (by kernel_rfl) (by kernel_rfl) (by kernel_rfl)
theorem ok43 : FOk Pg Cg 43 ⟨rc43, Tryd.f43.results.toList⟩ := fok (kp := kp43) rfl Tryd.func43 (by kernel_rfl) (by kernel_rfl) (by kernel_rfl)
theorem ok57 : FOk Pg Cg 57 ⟨rc57, Tryd.f57.results.toList⟩ := fok (kp := kp57) rfl Tryd.func57 (by kernel_rfl) (by kernel_rfl) (by kernel_rfl)
theorem ok65 : FOk Pg Cg 65 ⟨rc65, Tryd.f65.results.toList⟩ := fok (kp := kp65) rfl Tryd.func65 (by kernel_rfl) (by kernel_rfl) (by kernel_rfl)
theorem ok69 : FOk Pg Cg 69 ⟨rc69, Tryd.f69.results.toList⟩ := fok (kp := kp69) rfl Tryd.func69 (by kernel_rfl) (by kernel_rfl) (by kernel_rfl)
theorem ok73 : FOk Pg Cg 73 ⟨rc73, Tryd.f73.results.toList⟩ := fok (kp := kp73) rfl Tryd.func73 (by kernel_rfl) (by kernel_rfl) (by kernel_rfl)
theorem ok102 : FOk Pg Cg 102 ⟨rc102, Tryd.f102.results.toList⟩ := fok (kp := kp102) rfl Tryd.func102 (by kernel_rfl) (by kernel_rfl) (by kernel_rfl)
theorem ok111 : FOk Pg Cg 111 ⟨rc111, Tryd.f111.results.toList⟩ := fok (kp := kp111) rfl Tryd.func111 (by kernel_rfl) (by kernel_rfl) (by kernel_rfl)
end Go.AM.S
end

section
namespace Go.AM.S
open Go Go.AM Go.Proofs
set_option maxRecDepth 100000
theorem ok5 : FOk Pg Cg 5 ⟨rc5, Tryd.f5.results.toList⟩ := fok (kp := kp5) rfl Tryd.func5 (by kernel_rfl) (by kernel_rfl) (by kernel_rfl)
theorem ok17 : FOk Pg Cg 17 ⟨rc17, Tryd.f17.results.toList⟩ := fok (kp := kp17) rfl Tryd.func17 (by kernel_rfl) (by kernel_rfl) (by kernel_rfl)
theorem ok23 : FOk Pg Cg 23 ⟨rc23, Tryd.f23.results.toList⟩ := fok (kp := kp23) rfl Tryd.func23 (by kernel_rfl) (by kernel_rfl) (by kernel_rfl)
theorem ok32 : FOk Pg Cg 32 ⟨rc32, Tryd.f32.results.toList⟩ := fok (kp := kp32) rfl Tryd.func32 (by kernel_rfl) (by kernel_rfl) (by kernel_rfl)
theorem ok44 : FOk Pg Cg 44 ⟨rc44, Tryd.f44.results.toList⟩ := fok (kp := kp44) rfl Tryd.func44 (by kernel_rfl) (by kernel_rfl) (by kernel_rfl)
theorem ok58 : FOk Pg Cg 58 ⟨rc58, Tryd.f58.results.toList⟩ := fok (kp := kp58) rfl Tryd.func58 (by kernel_rfl) (by kernel_rfl) (by kernel_rfl)
theorem ok66 : FOk Pg Cg 66 ⟨rc66, Tryd.f66.results.toList⟩ := fok (kp := kp66) rfl Tryd.func66 (by kernel_rfl) (by kernel_rfl) (by kernel_rfl)
theorem ok70 : FOk Pg Cg 70 ⟨rc70, Tryd.f70.results.toList⟩ := fok (kp := kp70) rfl Tryd.func70 (by kernel_rfl) (by kernel_rfl) (by kernel_rfl)
theorem ok91 : FOk Pg Cg 91 ⟨rc91, Tryd.f91.results.toList⟩ := fok (kp := kp91) rfl Tryd.func91 (by kernel_rfl) (by kernel_rfl) (by kernel_rfl)
theorem ok108 : FOk Pg Cg 108 ⟨rc108, Tryd.f108.results.toList⟩ := fok (kp := kp108) rfl Tryd.func108 (by kernel_rfl) (by kernel_rfl) (by kernel_rfl)
theorem ok112 : FOk Pg Cg 112 ⟨rc112, Tryd.f112.results.toList⟩ := fok (kp := kp112) rfl Tryd.func112 (by kernel_rfl) (by kernel_rfl) (by kernel_rfl)
end Go.AM.S
end

section
namespace Go.AM.S
open Go Go.AM Go.Proofs
set_option maxRecDepth 100000
theorem ok11 : FOk Pg Cg 11 ⟨rc11, Tryd.f11.results.toList⟩ := fok (kp := kp11) rfl Tryd.func11 (by kernel_rfl) (by kernel_rfl) (by kernel_rfl)
theorem ok18 : FOk Pg Cg 18 ⟨rc18, Tryd.f18.results.toList⟩ := fok (kp := kp18) rfl Tryd.func18 (by kernel_rfl) (by kernel_rfl) (by kernel_rfl)
theorem ok24 : FOk Pg Cg 24 ⟨rc24, Tryd.f24.results.toList⟩ := fok (kp := kp24) rfl Tryd.func24 (by kernel_rfl) (by kernel_rfl) (by kernel_rfl)
theorem ok33 : FOk Pg Cg 33 ⟨rc33, Tryd.f33.results.toList⟩ := fok (kp := kp33) rfl Tryd.func33 (by kernel_rfl) (by kernel_rfl) (by kernel_rfl)
theorem ok45 : FOk Pg Cg 45 ⟨rc45, Tryd.f45.results.toList⟩ := fok (kp := kp45) rfl Tryd.func45 (by kernel_rfl) (by kernel_rfl) (by kernel_rfl)
theorem ok59 : FOk Pg Cg 59 ⟨rc59, Tryd.f59.results.toList⟩ := fok (kp := kp59) rfl Tryd.func59 (by kernel_rfl) (by kernel_rfl) (by kernel_rfl)
theorem ok67 : FOk Pg Cg 67 ⟨rc67, Tryd.f67.results.toList⟩ := fok (kp := kp67) rfl Tryd.func67 (by kernel_rfl) (by kernel_rfl) (by kernel_rfl)
theorem ok71 : FOk Pg Cg 71 ⟨rc71, Tryd.f71.results.toList⟩ := fok (kp := kp71) rfl Tryd.func71 (by kernel_rfl) (by kernel_rfl) (by kernel_rfl)
theorem ok92 : FOk Pg Cg 92 ⟨rc92, Tryd.f92.results.toList⟩ := fok (kp := kp92) rfl Tryd.func92 (by kernel_rfl) (by kernel_rfl) (by kernel_rfl)
theorem ok109 : FOk Pg Cg 109 ⟨rc109, Tryd.f109.results.toList⟩ := fok (kp := kp109) rfl Tryd.func109 (by kernel_rfl) (by kernel_rfl) (by kernel_rfl)
end Go.AM.S
end

section
namespace Go.AM.S
open Go Go.AM Go.Proofs
set_option maxRecDepth 100000
theorem ok13 : FOk Pg Cg 13 ⟨rc13, Tryd.f13.results.toList⟩ := fok (kp := kp13) rfl Tryd.func13 (by kernel_rfl) (by kernel_rfl) (by kernel_rfl)
theorem ok20 : FOk Pg Cg 20 ⟨rc20, Tryd.f20.results.toList⟩ := fok (kp := kp20) rfl Tryd.func20 (by kernel_rfl) (by kernel_rfl) (by kernel_rfl)
theorem ok25 : FOk Pg Cg 25 ⟨rc25, Tryd.f25.results.toList⟩ := fok (kp := kp25) rfl Tryd.func25 (by kernel_rfl) (by kernel_rfl) (by kernel_rfl)
theorem ok42 : FOk Pg Cg 42 ⟨rc42, Tryd.f42.results.toList⟩ := fok (kp := kp42) rfl Tryd.func42 (by kernel_rfl) (by kernel_rfl) (by kernel_rfl)
theorem ok46 : FOk Pg Cg 46 ⟨rc46, Tryd.f46.results.toList⟩ := fok (kp := kp46) rfl Tryd.func46 (by kernel_rfl) (by kernel_rfl) (by kernel_rfl)
theorem ok60 : FOk Pg Cg 60 ⟨rc60, Tryd.f60.results.toList⟩ := fok (kp := kp60) rfl Tryd.func60 (by kernel_rfl) (by kernel_rfl) (by kernel_rfl)
theorem ok68 : FOk Pg Cg 68 ⟨rc68, Tryd.f68.results.toList⟩ := fok (kp := kp68) rfl Tryd.func68 (by kernel_rfl) (by kernel_rfl) (by kernel_rfl)
theorem ok72 : FOk Pg Cg 72 ⟨rc72, Tryd.f72.results.toList⟩ := fok (kp := kp72) rfl Tryd.func72 (by kernel_rfl) (by kernel_rfl) (by kernel_rfl)
theorem ok100 : FOk Pg Cg 100 ⟨rc100, Tryd.f100.results.toList⟩ := fok (kp := kp100) rfl Tryd.func100 (by kernel_rfl) (by kernel_rfl) (by kernel_rfl)
theorem ok110 : FOk Pg Cg 110 ⟨rc110, Tryd.f110.results.toList⟩ := fok (kp := kp110) rfl Tryd.func110 (by kernel_rfl) (by kernel_rfl) (by kernel_rfl)
end Go.AM.S
end

section
namespace Go.AM.S
open Go Go.AM Go.Proofs
set_option maxRecDepth 100000
theorem tbl_ok : ∀ p ∈ tblL, FOk Pg Cg p.1 p.2 := by
  unfold tblL
  simp only [List.forall_mem_cons, List.not_mem_nil, false_imp_iff, implies_true, and_true]
  exact ⟨ok4, ok5, ok11, ok13, ok14, ok17, ok18, ok20, ok21, ok23, ok24, ok25, ok31, ok32, ok33, ok42, ok43, ok44, ok45, ok46, ok57, ok58, ok59, ok60, ok65, ok66, ok67, ok68, ok69, ok70, ok71, ok72, ok73, ok91, ok92, ok100, ok102, ok108, ok109, ok110, ok111, ok112⟩
theorem use_ok : tblL.map (·.1) = cUse := rfl
theorem seat_eq (kn : Kn) (n : Nat) : S.fn Pg kn tbl n = fnV Pg Cg kn n := by
  refine fn_eq (fun f fc h => ⟨?_, ?_⟩) (fun f h => ?_) n
  · have := lkL_mem h
    show cUse.contains f = true
    rw [← use_ok, List.contains_iff_mem]
    exact List.mem_map.2 ⟨(f, fc), this, rfl⟩
  · exact tbl_ok _ (lkL_mem h)
  · have := lkL_none h
    show cUse.contains f = false
    rw [← use_ok]
    cases hb : (tblL.map (·.1)).contains f with
    | false => rfl
    | true => exact absurd (List.contains_iff_mem.1 hb) this
end Go.AM.S
end

section
namespace Go.AM.S
open Go Go.AM Go.Proofs
set_option maxRecDepth 100000
theorem prog_ok : progOk Pg Cg = true := by kernel_rfl
end Go.AM.S
end
