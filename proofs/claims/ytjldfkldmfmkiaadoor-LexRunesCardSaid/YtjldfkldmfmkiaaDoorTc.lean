/- Part Tc of the proof: what it says stands at its theorems. -/
import Derived.Test.YtjldfkldmfmkiaaDoorProg
import Derived.Test.YtjldfkldmfmkiaaDoorAm2
import Derived.KernelRfl
set_option linter.unusedVariables false
set_option linter.unusedSimpArgs false
set_option linter.unusedSectionVars false
section
namespace Go.AM.S
open _root_.Go.AM.G (R)
open Go Go.AM Go.Proofs
set_option maxRecDepth 100000
noncomputable abbrev Pg : Program := Tryd.prog
def lkD {α : Type} (d : α) (l : List (Nat × α)) (i : Nat) : α := (lkL l i).getD d
def cArr : List Nat := []
def cUse : List Nat := [5, 7, 8, 9, 10, 12, 13, 14, 15, 16, 17, 19, 20, 21, 22, 23, 24, 25, 26, 32, 33, 34]
def cGlob : List (Nat × List Nat) := [(8, [15]), (12, [4]), (15, [8])]
def cPairs : List (Nat × List (Nat × List (Nat × Nat))) := [(24, [(1, [(3, 21), (7, 21), (11, 21), (19, 21)])]), (25, [(1, [(3, 21), (7, 21), (11, 21), (19, 21)])])]
def cPairsH : List (Nat × List (Nat × List (Nat × Nat))) := [(24, [(1, [(3, 13), (7, 13), (11, 13), (13, 19), (3, 21), (7, 21), (11, 21), (13, 21), (19, 21)]), (5, [(0, 3)])]), (25, [(1, [(3, 13), (7, 13), (11, 13), (13, 19), (3, 21), (7, 21), (11, 21), (13, 21), (19, 21)]), (3, [(0, 3)]), (5, [(0, 3)])])]
def Cg : Cfg := { isArr := fun t => cArr.contains t, use := fun f => cUse.contains f, glob := fun f t => (lkD [] cGlob f).contains t, pairs := fun f i => lkD [] (lkD [] cPairs f) i, pairsH := fun f i => lkD [] (lkD [] cPairsH f) i }
noncomputable section
def I (n : Nat) : V := .int .i64 (.ofNat n)
def gl (f : Tm → V) (tm : Tm) : V := Tr.rec (motive := fun _ => V) .dead (fun _ l _ _ _ => f l) tm
def gr (f : Tm → V) (tm : Tm) : V := Tr.rec (motive := fun _ => V) .dead (fun _ _ r _ _ => f r) tm
def pl (f : Tm → V → Tm) (tm : Tm) (w : V) : Tm := Tr.rec (motive := fun _ => Tm) (.nd none (f .lf w) .lf) (fun v l r _ _ => .nd v (f l w) r) tm
def pr (f : Tm → V → Tm) (tm : Tm) (w : V) : Tm := Tr.rec (motive := fun _ => Tm) (.nd none .lf (f .lf w)) (fun v l r _ _ => .nd v l (f r w)) tm
def gn (F : Func) (f id i : Nat) (call : CallF) := gen Pg Cg call (Cg.glob f) (opA F id i)
def gD (F : Func) (f id i : Nat) (call : CallF) := genD Pg Cg call (Cg.glob f) (opA F id i)
def sD (F : Func) (f id : Nat) (call : CallF) := stopD Pg Cg call (Cg.glob f) (rgA F id) (Cg.pairs f id) (Cg.pairsH f id)
def sto (t : Nat) (a x : V) (loc : Lo) (hp : Hp) (j : V → Lo → Hp → R) (slow : R) : R := G.onPtr a (fun r off => G.onRef r (fun s g => stL Pg t s g off x loc (fun loc => j (.tuple []) loc hp)) (fun _ => slow)) (fun _ => none) none
def jE (c : List (Nat × V)) (f : List (Nat × V) → R) : R := f c
def jF (c : List Foot) (f : List Foot → R) : R := f c
def g0 (tm : Tm) : V := Tr.rec (motive := fun _ => V) .dead (fun v _ _ _ _ => Option.rec (motive := fun _ => V) .dead (fun a => a) v) tm
def g1 : Tm → V := gl g0
def g2 : Tm → V := gr g0
def g3 : Tm → V := gl g1
def g4 : Tm → V := gr g1
def g5 : Tm → V := gl g2
def g6 : Tm → V := gr g2
def g7 : Tm → V := gl g3
def g8 : Tm → V := gr g3
def g9 : Tm → V := gl g4
def g10 : Tm → V := gr g4
def g11 : Tm → V := gl g5
def g12 : Tm → V := gr g5
def g13 : Tm → V := gl g6
def g14 : Tm → V := gr g6
def g15 : Tm → V := gl g7
def g16 : Tm → V := gr g7
def g17 : Tm → V := gl g8
def g18 : Tm → V := gr g8
def g19 : Tm → V := gl g9
def g20 : Tm → V := gr g9
def g23 : Tm → V := gl g11
def g48 : Tm → V := gr g23
def g97 : Tm → V := gl g48
def p0 (tm : Tm) (w : V) : Tm := Tr.rec (motive := fun _ => Tm) (.nd (some w) .lf .lf) (fun _ l r _ _ => .nd (some w) l r) tm
def p1 : Tm → V → Tm := pl p0
def p2 : Tm → V → Tm := pr p0
def p3 : Tm → V → Tm := pl p1
def p4 : Tm → V → Tm := pr p1
def p5 : Tm → V → Tm := pl p2
def p6 : Tm → V → Tm := pr p2
def p7 : Tm → V → Tm := pl p3
def p8 : Tm → V → Tm := pr p3
def p9 : Tm → V → Tm := pl p4
def p10 : Tm → V → Tm := pr p4
def p11 : Tm → V → Tm := pl p5
def p12 : Tm → V → Tm := pr p5
def p13 : Tm → V → Tm := pl p6
def p14 : Tm → V → Tm := pr p6
def p15 : Tm → V → Tm := pl p7
def p16 : Tm → V → Tm := pr p7
def p17 : Tm → V → Tm := pl p8
def p18 : Tm → V → Tm := pr p8
def p19 : Tm → V → Tm := pl p9
def p20 : Tm → V → Tm := pr p9
def p21 : Tm → V → Tm := pl p10
def p22 : Tm → V → Tm := pr p10
def p23 : Tm → V → Tm := pl p11
def p24 : Tm → V → Tm := pr p11
def p25 : Tm → V → Tm := pl p12
def p26 : Tm → V → Tm := pr p12
def p27 : Tm → V → Tm := pl p13
def p28 : Tm → V → Tm := pr p13
def p29 : Tm → V → Tm := pl p14
def p30 : Tm → V → Tm := pr p14
def p31 : Tm → V → Tm := pl p15
def p32 : Tm → V → Tm := pr p15
def p33 : Tm → V → Tm := pl p16
def p34 : Tm → V → Tm := pr p16
def p36 : Tm → V → Tm := pr p17
def p37 : Tm → V → Tm := pl p18
def p38 : Tm → V → Tm := pr p18
def p39 : Tm → V → Tm := pl p19
def p40 : Tm → V → Tm := pr p19
def p41 : Tm → V → Tm := pl p20
def p42 : Tm → V → Tm := pr p20
def p44 : Tm → V → Tm := pr p21
def p45 : Tm → V → Tm := pl p22
def p46 : Tm → V → Tm := pr p22
def p48 : Tm → V → Tm := pr p23
def p49 : Tm → V → Tm := pl p24
def p50 : Tm → V → Tm := pr p24
def p51 : Tm → V → Tm := pl p25
def p52 : Tm → V → Tm := pr p25
def p53 : Tm → V → Tm := pl p26
def p54 : Tm → V → Tm := pr p26
def p55 : Tm → V → Tm := pl p27
def p56 : Tm → V → Tm := pr p27
def p57 : Tm → V → Tm := pl p28
def p58 : Tm → V → Tm := pr p28
def p65 : Tm → V → Tm := pl p32
def p68 : Tm → V → Tm := pr p33
def p74 : Tm → V → Tm := pr p36
def p75 : Tm → V → Tm := pl p37
def p76 : Tm → V → Tm := pr p37
def p77 : Tm → V → Tm := pl p38
def p79 : Tm → V → Tm := pl p39
def p80 : Tm → V → Tm := pr p39
def p81 : Tm → V → Tm := pl p40
def p82 : Tm → V → Tm := pr p40
def p83 : Tm → V → Tm := pl p41
def p84 : Tm → V → Tm := pr p41
def p91 : Tm → V → Tm := pl p45
def p92 : Tm → V → Tm := pr p45
def p97 : Tm → V → Tm := pl p48
def p98 : Tm → V → Tm := pr p48
def p100 : Tm → V → Tm := pr p49
def p101 : Tm → V → Tm := pl p50
def p102 : Tm → V → Tm := pr p50
def p103 : Tm → V → Tm := pl p51
def p104 : Tm → V → Tm := pr p51
def p105 : Tm → V → Tm := pl p52
def p106 : Tm → V → Tm := pr p52
def p109 : Tm → V → Tm := pl p54
def p110 : Tm → V → Tm := pr p54
def p111 : Tm → V → Tm := pl p55
def p113 : Tm → V → Tm := pl p56
def p115 : Tm → V → Tm := pl p57
def p118 : Tm → V → Tm := pr p58
def p131 : Tm → V → Tm := pl p65
def p138 : Tm → V → Tm := pr p68
def p150 : Tm → V → Tm := pr p74
def p151 : Tm → V → Tm := pl p75
def p152 : Tm → V → Tm := pr p75
def p153 : Tm → V → Tm := pl p76
def p155 : Tm → V → Tm := pl p77
def p159 : Tm → V → Tm := pl p79
def p161 : Tm → V → Tm := pl p80
def p162 : Tm → V → Tm := pr p80
def p163 : Tm → V → Tm := pl p81
def p165 : Tm → V → Tm := pl p82
def p167 : Tm → V → Tm := pl p83
def p184 : Tm → V → Tm := pr p91
def p198 : Tm → V → Tm := pr p98
def p202 : Tm → V → Tm := pr p100
def p204 : Tm → V → Tm := pr p101
def p205 : Tm → V → Tm := pl p102
def p206 : Tm → V → Tm := pr p102
def p208 : Tm → V → Tm := pr p103
def p210 : Tm → V → Tm := pr p104
def p212 : Tm → V → Tm := pr p105
def p214 : Tm → V → Tm := pr p106
def kp5 : List Nat := [0, 1, 2, 3, 8, 9, 10, 11, 12, 13, 14, 15, 16, 18, 21, 23]
def rc5 : RC := (.seq (.reg fun c t l h k => k (p8 t (.bool false)) l h)
 (.seq (.seq (.reg fun c t l h k => cl c 7 [] t l h fun v0 l0 h0 => bO (G.un .not v0) fun v1 => k (p18 t v1) l0 h0)
 (.cond (.tmp 18) (.seq (.reg fun c t l h k => k (p8 t (.bool false)) l h)
 .ret) .skip))
 (.seq (.seq (.reg fun c t l h k => bO (len (Pg.underlying 9) (g0 t)) fun v0 => bO (bin Pg .gtr 3 true v0 (I 200)) fun v1 => k (p21 t v1) l h)
 (.cond (.tmp 21) (.seq (.reg fun c t l h k => k (p8 t (.bool true)) l h)
 .ret) .skip))
 (.seq (.reg fun c t l h k => k (p9 t (g0 t)) l h)
 (.seq (.seq (.reg fun c t l h k => k (p23 t (g3 t)) l h)
 (.cond (.tmp 23) (.reg fun c t l h k => bO (bin Pg .add 9 true (.str ⟨2, 10792⟩) (g9 t)) fun v0 => k (p9 t v0) l h) .skip))
 (.seq (.reg fun c t l h k => bO (bs Pg 22 1 [(0, (g1 t))]) fun v0 => gn Tryd.f5 5 8 3 c (p28 t v0) t l h (fun v1 l1 h1 => bO (bin Pg .add 9 false (g9 t) v1) fun v2 => gn Tryd.f5 5 8 6 c (p31 t (g2 t)) t l1 h1 (fun v3 l3 h3 => bO (bin Pg .add 9 false v2 v3) fun v4 => bO (bin Pg .add 9 true v4 (.str ⟨1, 120⟩)) fun v5 => k (p9 t v5) l3 h3)))
 (.seq (.reg fun c t l h k => cl c 8 [(g9 t)] t l h fun v0 l0 h0 => bO (ext v0 0) fun v1 => bO (ext v0 1) fun v2 => k (p11 (p10 t v1) v2) l0 h0)
 (.seq (.reg fun c t l h k => cl c 12 [(g11 t)] t l h fun v0 l0 h0 => bO (ext v0 0) fun v1 => bO (ext v0 1) fun v2 => k (p13 (p12 t v1) v2) l0 h0)
 (.seq (.reg fun c t l h k => cl c 13 [(g9 t)] t l h fun v0 l0 h0 => bO (ext v0 0) fun v1 => bO (ext v0 1) fun v2 => bO (ext v0 2) fun v3 => k (p16 (p15 (p14 t v1) v2) v3) l0 h0)
 (.seq (.reg fun c t l h k => bO (bin Pg .eql 3 false (g12 t) (g15 t)) fun v0 => jn (fun v1 l1 h1 => jn (fun v2 l2 h2 => jn (fun v3 l3 h3 => bO (pick v0 v3 (.bool false)) fun v4 => jn (fun v5 l5 h5 => jn (fun v6 l6 h6 => jn (fun v7 l7 h7 => bO (pick v4 v7 (.bool false)) fun v8 => k (p8 t v8) l7 h7) fun j7 => brB (wv v4 true) (j7 (.tuple []) l6 h6) (cl c 14 [v5, v6] t l6 h6 fun v8 l8 h8 => j7 v8 l8 h8)) fun j6 => brB (wv v4 true) (j6 (.tuple []) l5 h5) (j6 (g14 t) l5 h5)) fun j5 => brB (wv v4 true) (j5 (.tuple []) l3 h3) (j5 (g10 t) l3 h3)) fun j3 => brB (wv v0 true) (j3 (.tuple []) l2 h2) (bO (bin Pg .eql 3 false v1 v2) fun v4 => j3 v4 l2 h2)) fun j2 => brB (wv v0 true) (j2 (.tuple []) l1 h1) (j2 (g16 t) l1 h1)) fun j1 => brB (wv v0 true) (j1 (.tuple []) l h) (j1 (g13 t) l h))
 .ret))))))))))
def kp7 : List Nat := [0, 1, 2, 4, 5, 6]
def rc7 : RC := (.seq (.reg fun c t l h k => k (p0 t (.bool false)) l h)
 (.seq (.reg fun c t l h k => cl c 8 [(.str ⟨11, 59389276438220256487022712⟩)] t l h fun v0 l0 h0 => bO (ext v0 0) fun v1 => bO (ext v0 1) fun v2 => k (p2 (p1 t v1) v2) l0 h0)
 (.seq (.reg fun c t l h k => cl c 8 [(.str ⟨6, 133179053187192⟩)] t l h fun v0 l0 h0 => bO (ext v0 0) fun v1 => bO (ext v0 1) fun v2 => k (p4 t v2) l0 h0)
 (.seq (.reg fun c t l h k => cl c 12 [(g4 t)] t l h fun v0 l0 h0 => bO (ext v0 0) fun v1 => bO (ext v0 1) fun v2 => k (p6 (p5 t v1) v2) l0 h0)
 (.seq (.reg fun c t l h k => bO (bin Pg .eql 26 true (g2 t) .nili) fun v0 => jn (fun v1 l1 h1 => jn (fun v2 l2 h2 => jn (fun v3 l3 h3 => bO (pick v0 v3 (.bool false)) fun v4 => jn (fun v5 l5 h5 => jn (fun v6 l6 h6 => jn (fun v7 l7 h7 => jn (fun v8 l8 h8 => jn (fun v9 l9 h9 => bO (pick v4 v9 (.bool false)) fun v10 => jn (fun v11 l11 h11 => jn (fun v12 l12 h12 => jn (fun v13 l13 h13 => jn (fun v14 l14 h14 => jn (fun v15 l15 h15 => bO (pick v10 v15 (.bool false)) fun v16 => jn (fun v17 l17 h17 => jn (fun v18 l18 h18 => jn (fun v19 l19 h19 => jn (fun v20 l20 h20 => jn (fun v21 l21 h21 => bO (pick v16 v21 (.bool false)) fun v22 => jn (fun v23 l23 h23 => jn (fun v24 l24 h24 => jn (fun v25 l25 h25 => jn (fun v26 l26 h26 => jn (fun v27 l27 h27 => bO (pick v22 v27 (.bool false)) fun v28 => jn (fun v29 l29 h29 => jn (fun v30 l30 h30 => bO (pick v28 v30 (.bool false)) fun v31 => jn (fun v32 l32 h32 => jn (fun v33 l33 h33 => bO (pick v31 v33 (.bool false)) fun v34 => jn (fun v35 l35 h35 => bO (pick v34 v35 (.bool false)) fun v36 => jn (fun v37 l37 h37 => jn (fun v38 l38 h38 => bO (pick v36 v38 (.bool false)) fun v39 => k (p0 t v39) l38 h38) fun j38 => brB (wv v36 true) (j38 (.tuple []) l37 h37) (bO (G.un .not v37) fun v39 => j38 v39 l37 h37)) fun j37 => brB (wv v36 true) (j37 (.tuple []) l35 h35) (cl c 9 [(.str ⟨1, 120⟩)] t l35 h35 fun v38 l38 h38 => j37 v38 l38 h38)) fun j35 => brB (wv v34 true) (j35 (.tuple []) l33 h33) (cl c 9 [(.str ⟨3, 7628140⟩)] t l33 h33 fun v36 l36 h36 => j35 v36 l36 h36)) fun j33 => brB (wv v31 true) (j33 (.tuple []) l32 h32) (bO (bin Pg .eql 3 true v32 (I 140)) fun v34 => j33 v34 l32 h32)) fun j32 => brB (wv v31 true) (j32 (.tuple []) l30 h30) (j32 (g6 t) l30 h30)) fun j30 => brB (wv v28 true) (j30 (.tuple []) l29 h29) (bO (bin Pg .eql 3 true v29 (I 2)) fun v31 => j30 v31 l29 h29)) fun j29 => brB (wv v28 true) (j29 (.tuple []) l27 h27) (j29 (g5 t) l27 h27)) fun j27 => brB (wv v22 true) (j27 (.tuple []) l26 h26) (bO (bin Pg .eql 3 true v26 (I 11)) fun v28 => j27 v28 l26 h26)) fun j26 => brB (wv v22 true) (j26 (.tuple []) l25 h25) (bO (ld Pg 3 v25 l25 h25) fun v27 => j26 v27 l25 h25)) fun j25 => brB (wv v22 true) (j25 (.tuple []) l24 h24) (bO (fa Pg 30 v24 2) fun v26 => j25 v26 l24 h24)) fun j24 => brB (wv v22 true) (j24 (.tuple []) l23 h23) (bO (ia Pg 24 v23 (I 6)) fun v25 => j24 v25 l23 h23)) fun j23 => brB (wv v22 true) (j23 (.tuple []) l21 h21) (j23 (g1 t) l21 h21)) fun j21 => brB (wv v16 true) (j21 (.tuple []) l20 h20) (bO (bin Pg .eql 3 true v20 (I 3)) fun v22 => j21 v22 l20 h20)) fun j20 => brB (wv v16 true) (j20 (.tuple []) l19 h19) (bO (ld Pg 3 v19 l19 h19) fun v21 => j20 v21 l19 h19)) fun j19 => brB (wv v16 true) (j19 (.tuple []) l18 h18) (bO (fa Pg 30 v18 0) fun v20 => j19 v20 l18 h18)) fun j18 => brB (wv v16 true) (j18 (.tuple []) l17 h17) (bO (ia Pg 24 v17 (I 5)) fun v19 => j18 v19 l17 h17)) fun j17 => brB (wv v16 true) (j17 (.tuple []) l15 h15) (j17 (g1 t) l15 h15)) fun j15 => brB (wv v10 true) (j15 (.tuple []) l14 h14) (bO (bin Pg .eql 9 true v14 (.str ⟨1, 33⟩)) fun v16 => j15 v16 l14 h14)) fun j14 => brB (wv v10 true) (j14 (.tuple []) l13 h13) (bO (ld Pg 9 v13 l13 h13) fun v15 => j14 v15 l13 h13)) fun j13 => brB (wv v10 true) (j13 (.tuple []) l12 h12) (bO (fa Pg 30 v12 1) fun v14 => j13 v14 l12 h12)) fun j12 => brB (wv v10 true) (j12 (.tuple []) l11 h11) (bO (ia Pg 24 v11 (I 2)) fun v13 => j12 v13 l11 h11)) fun j11 => brB (wv v10 true) (j11 (.tuple []) l9 h9) (j11 (g1 t) l9 h9)) fun j9 => brB (wv v4 true) (j9 (.tuple []) l8 h8) (bO (bin Pg .eql 9 true v8 (.str ⟨2, 15674⟩)) fun v10 => j9 v10 l8 h8)) fun j8 => brB (wv v4 true) (j8 (.tuple []) l7 h7) (bO (ld Pg 9 v7 l7 h7) fun v9 => j8 v9 l7 h7)) fun j7 => brB (wv v4 true) (j7 (.tuple []) l6 h6) (bO (fa Pg 30 v6 1) fun v8 => j7 v8 l6 h6)) fun j6 => brB (wv v4 true) (j6 (.tuple []) l5 h5) (bO (ia Pg 24 v5 (I 1)) fun v7 => j6 v7 l5 h5)) fun j5 => brB (wv v4 true) (j5 (.tuple []) l3 h3) (j5 (g1 t) l3 h3)) fun j3 => brB (wv v0 true) (j3 (.tuple []) l2 h2) (bO (bin Pg .eql 3 true v2 (I 7)) fun v4 => j3 v4 l2 h2)) fun j2 => brB (wv v0 true) (j2 (.tuple []) l1 h1) (bO (len (Pg.underlying 24) v1) fun v3 => j2 v3 l1 h1)) fun j1 => brB (wv v0 true) (j1 (.tuple []) l h) (j1 (g1 t) l h))
 .ret)))))
def kp8 : List Nat := [0, 2, 3, 4, 5, 6, 7, 8, 11, 19, 27, 40]
def rc8 : RC := (.seq (.reg fun c t l h k => k (p3 (p2 t .nils) .nili) l h)
 (.seq (.seq (.reg fun c t l h k => bO (len (Pg.underlying 9) (g0 t)) fun v0 => bO (bin Pg .gtr 3 true v0 (I 65536)) fun v1 => k (p11 t v1) l h)
 (.cond (.tmp 11) (.seq (.reg fun c t l h k => cl c 15 [(I 65536), (I 141)] t l h fun v0 l0 h0 => k (p3 (p2 t .nils) v0) l0 h0)
 .ret) .skip))
 (.seq (.reg fun c t l h k => gn Tryd.f8 8 3 1 c (p13 t (g0 t)) t l h (fun v0 l0 h0 => gn Tryd.f8 8 3 2 c (p14 t v0) t l0 h0 (fun v1 l1 h1 => k (p4 t v1) l1 h1)))
 (.seq (.reg fun c t l h k => k (p5 t .nils) l h)
 (.block 0 (.loop (.block 1 (.seq (.seq (.reg fun c t l h k => cl c 16 [(g4 t)] t l h fun v0 l0 h0 => k (p6 t v0) l0 h0)
 (.seq (.reg fun c t l h k => bO (bin Pg .neq 26 true (g6 t) .nili) fun v0 => k (p19 t v0) l h)
 (.cond (.tmp 19) (.seq (.reg fun c t l h k => k (p3 (p2 t .nils) (g6 t)) l h)
 .ret) .skip)))
 (.seq (.seq (.reg fun c t l h k => bO (nilC (g4 t)) fun v0 => bO (fa Pg 47 v0 1) fun v1 => bO (ld Pg 3 v1 l h) fun v2 => bO (len (Pg.underlying 9) (g0 t)) fun v3 => bO (bin Pg .eql 3 false v2 v3) fun v4 => k (p27 t v4) l h)
 (.cond (.tmp 27) (.seq (.reg fun c t l h k => bO (len (Pg.underlying 9) (g0 t)) fun v0 => gn Tryd.f8 8 9 3 c (p30 t v0) t l h (fun v1 l1 h1 => bO (bs Pg 24 1 [(0, v1)]) fun v2 => gn Tryd.f8 8 9 5 c (p32 (p28 t (g5 t)) v2) t l1 h1 (fun v3 l3 h3 => k (p3 (p2 t v3) .nili) l3 h3)))
 .ret) .skip))
 (.seq (.reg fun c t l h k => cl c 17 [(g4 t)] t l h fun v0 l0 h0 => bO (ext v0 0) fun v1 => bO (ext v0 1) fun v2 => al Pg 30 7 l0 fun v3 l3 => jn (fun v4 l4 h4 => k (p8 (p7 t v3) v2) l4 h4) fun j4 => sto 30 v3 v1 l3 h0 j4 (gn Tryd.f8 8 10 6 c (p37 (p7 t v3) v1) t l3 h0 j4))
 (.seq (.seq (.reg fun c t l h k => bO (bin Pg .neq 26 true (g8 t) .nili) fun v0 => k (p40 t v0) l h)
 (.cond (.tmp 40) (.seq (.reg fun c t l h k => k (p3 (p2 t .nils) (g8 t)) l h)
 .ret) .skip))
 (.seq (.reg fun c t l h k => bO (ld Pg 30 (g7 t) l h) fun v0 => bO (bs Pg 24 1 [(0, v0)]) fun v1 => gn Tryd.f8 8 13 3 c (p44 (p42 t (g5 t)) v1) t l h (fun v2 l2 h2 => k (p5 t v2) l2 h2))
 (.reg fun c t l h k => bO (nilC (g4 t)) fun v0 => bO (fa Pg 47 v0 1) fun v1 => bO (ld Pg 3 v1 l h) fun v2 => bO (fa Pg 30 (g7 t) 1) fun v3 => bO (ld Pg 9 v3 l h) fun v4 => bO (len (Pg.underlying 9) v4) fun v5 => bO (bin Pg .add 3 false v2 v5) fun v6 => bO (nilC (g4 t)) fun v7 => bO (fa Pg 47 v7 1) fun v8 => jE ((55, v8) :: (54, v7) :: (53, v6) :: (52, v5) :: (51, v4) :: (50, v3) :: (49, v2) :: (48, v1) :: (47, v0) :: (46, (g4 t)) :: []) fun e9 => jF (ft0 :: ft0 :: ft0 :: ft0 :: (ldF v3) :: ft0 :: (ldF v1) :: ft0 :: ft0 :: ft0 :: []) fun q9 => gD Tryd.f8 8 14 10 c (p53 (p55 t v8) v6) l h (fun v9 f9 l9 h9 => finD (rgA Tryd.f8 14).toList [] [] (f9 :: q9) (k t l9 h9)) (sD Tryd.f8 8 14 c 10 none e9 q9 t l h))))))))))))))
def kp9 : List Nat := [0, 2, 3, 4]
def rc9 : RC := (.seq (.reg fun c t l h k => k (p2 t (.bool false)) l h)
 (.seq (.seq (.reg fun c t l h k => k (p3 t (g0 t)) l h)
 (.block 0 (.seq (.seq (.reg fun c t l h k => bO (bin Pg .eql 9 true (g3 t) (.str ⟨3, 7628140⟩)) fun v0 => k (p4 t v0) l h)
 (.cond (.tmp 4) .skip (.seq (.reg fun c t l h k => bO (bin Pg .eql 9 true (g3 t) (.str ⟨3, 6514034⟩)) fun v0 => k (p4 t v0) l h)
 (.cond (.tmp 4) .skip (.seq (.reg fun c t l h k => bO (bin Pg .eql 9 true (g3 t) (.str ⟨3, 6710642⟩)) fun v0 => k (p4 t v0) l h)
 (.cond (.tmp 4) .skip (.seq (.reg fun c t l h k => bO (bin Pg .eql 9 true (g3 t) (.str ⟨2, 29545⟩)) fun v0 => k (p4 t v0) l h)
 (.cond (.tmp 4) .skip (.seq (.reg fun c t l h k => bO (bin Pg .eql 9 true (g3 t) (.str ⟨2, 28265⟩)) fun v0 => k (p4 t v0) l h)
 (.cond (.tmp 4) .skip (.seq (.reg fun c t l h k => bO (bin Pg .eql 9 true (g3 t) (.str ⟨2, 26217⟩)) fun v0 => k (p4 t v0) l h)
 (.cond (.tmp 4) .skip (.seq (.reg fun c t l h k => bO (bin Pg .eql 9 true (g3 t) (.str ⟨4, 1852139636⟩)) fun v0 => k (p4 t v0) l h)
 (.cond (.tmp 4) .skip (.seq (.reg fun c t l h k => bO (bin Pg .eql 9 true (g3 t) (.str ⟨4, 1702063205⟩)) fun v0 => k (p4 t v0) l h)
 (.cond (.tmp 4) .skip (.seq (.reg fun c t l h k => bO (bin Pg .eql 9 true (g3 t) (.str ⟨3, 7959156⟩)) fun v0 => k (p4 t v0) l h)
 (.cond (.tmp 4) .skip (.seq (.reg fun c t l h k => bO (bin Pg .eql 9 true (g3 t) (.str ⟨4, 1752459639⟩)) fun v0 => k (p4 t v0) l h)
 (.cond (.tmp 4) .skip (.seq (.reg fun c t l h k => bO (bin Pg .eql 9 true (g3 t) (.str ⟨5, 435727982962⟩)) fun v0 => k (p4 t v0) l h)
 (.cond (.tmp 4) .skip (.seq (.reg fun c t l h k => bO (bin Pg .eql 9 true (g3 t) (.str ⟨6, 128034677158753⟩)) fun v0 => k (p4 t v0) l h)
 (.cond (.tmp 4) .skip (.seq (.reg fun c t l h k => bO (bin Pg .eql 9 true (g3 t) (.str ⟨3, 6581359⟩)) fun v0 => k (p4 t v0) l h)
 (.cond (.tmp 4) .skip (.seq (.reg fun c t l h k => bO (bin Pg .eql 9 true (g3 t) (.str ⟨8, 8315178084276987250⟩)) fun v0 => k (p4 t v0) l h)
 (.cond (.tmp 4) .skip (.seq (.reg fun c t l h k => bO (bin Pg .eql 9 true (g3 t) (.str ⟨7, 32481164592901733⟩)) fun v0 => k (p4 t v0) l h)
 (.cond (.tmp 4) .skip (.seq (.reg fun c t l h k => bO (bin Pg .eql 9 true (g3 t) (.str ⟨9, 2128685862185089590628⟩)) fun v0 => k (p4 t v0) l h)
 (.cond (.tmp 4) .skip (.seq (.reg fun c t l h k => bO (bin Pg .eql 9 true (g3 t) (.str ⟨3, 7630441⟩)) fun v0 => k (p4 t v0) l h)
 (.cond (.tmp 4) .skip (.seq (.reg fun c t l h k => bO (bin Pg .eql 9 true (g3 t) (.str ⟨4, 1819242338⟩)) fun v0 => k (p4 t v0) l h)
 (.cond (.tmp 4) .skip (.seq (.reg fun c t l h k => bO (bin Pg .eql 9 true (g3 t) (.str ⟨4, 1953066613⟩)) fun v0 => k (p4 t v0) l h)
 (.cond (.tmp 4) .skip (.seq (.reg fun c t l h k => bO (bin Pg .eql 9 true (g3 t) (.str ⟨4, 1702195828⟩)) fun v0 => k (p4 t v0) l h)
 (.cond (.tmp 4) .skip (.seq (.reg fun c t l h k => bO (bin Pg .eql 9 true (g3 t) (.str ⟨5, 435728179558⟩)) fun v0 => k (p4 t v0) l h)
 (.cond (.tmp 4) .skip (.seq (.reg fun c t l h k => bO (bin Pg .eql 9 true (g3 t) (.str ⟨3, 7630702⟩)) fun v0 => k (p4 t v0) l h)
 (.cond (.tmp 4) .skip (.seq (.reg fun c t l h k => bO (bin Pg .eql 9 true (g3 t) (.str ⟨4, 1701999952⟩)) fun v0 => k (p4 t v0) l h)
 (.cond (.tmp 4) .skip (.seq (.reg fun c t l h k => bO (bin Pg .eql 9 true (g3 t) (.str ⟨5, 435744240723⟩)) fun v0 => k (p4 t v0) l h)
 (.cond (.tmp 4) .skip (.seq (.reg fun c t l h k => bO (bin Pg .eql 9 true (g3 t) (.str ⟨3, 7239749⟩)) fun v0 => k (p4 t v0) l h)
 (.cond (.tmp 4) .skip (.seq (.reg fun c t l h k => bO (bin Pg .eql 9 true (g3 t) (.str ⟨3, 7105601⟩)) fun v0 => k (p4 t v0) l h)
 (.cond (.tmp 4) .skip (.reg fun c t l h k => bO (bin Pg .eql 9 true (g3 t) (.str ⟨3, 7760196⟩)) fun v0 => k (p4 t v0) l h)))))))))))))))))))))))))))))))))))))))))))))))))))))
 (.cond (.tmp 4) (.seq (.reg fun c t l h k => k (p2 t (.bool true)) l h)
 .ret) .skip))))
 (.seq (.reg fun c t l h k => k (p2 t (.bool false)) l h)
 .ret)))
def kp10 : List Nat := [0, 2, 3, 4, 9, 17]
def rc10 : RC := (.seq (.reg fun c t l h k => k (p2 t (.bool false)) l h)
 (.seq (.reg fun c t l h k => bO (bs Pg 31 27 [(0, (.str ⟨3, 7628140⟩)), (1, (.str ⟨3, 6514034⟩)), (2, (.str ⟨3, 6710642⟩)), (3, (.str ⟨2, 28265⟩)), (4, (.str ⟨2, 29545⟩)), (5, (.str ⟨2, 26217⟩)), (6, (.str ⟨4, 1852139636⟩)), (7, (.str ⟨4, 1702063205⟩)), (8, (.str ⟨3, 7959156⟩)), (9, (.str ⟨4, 1752459639⟩)), (10, (.str ⟨5, 435727982962⟩)), (11, (.str ⟨6, 128034677158753⟩)), (12, (.str ⟨3, 6581359⟩)), (13, (.str ⟨8, 8315178084276987250⟩)), (14, (.str ⟨7, 32481164592901733⟩)), (15, (.str ⟨9, 2128685862185089590628⟩)), (16, (.str ⟨3, 7630441⟩)), (17, (.str ⟨4, 1819242338⟩)), (18, (.str ⟨4, 1953066613⟩)), (19, (.str ⟨4, 1702195828⟩)), (20, (.str ⟨5, 435728179558⟩)), (21, (.str ⟨3, 7630702⟩)), (22, (.str ⟨4, 1701999952⟩)), (23, (.str ⟨5, 435744240723⟩)), (24, (.str ⟨3, 7239749⟩)), (25, (.str ⟨3, 7105601⟩)), (26, (.str ⟨3, 7760196⟩))]) fun v0 => k (p3 t v0) l h)
 (.seq (.seq (.reg fun c t l h k => k (p4 t (I 0)) l h)
 (.block 0 (.loop (.seq (.seq (.reg fun c t l h k => bO (len (Pg.underlying 31) (g3 t)) fun v0 => bO (bin Pg .lss 3 false (g4 t) v0) fun v1 => k (p9 t v1) l h)
 (.cond (.tmp 9) .skip (.exit 0)))
 (.seq (.block 1 (.seq (.reg fun c t l h k => bO (ia Pg 31 (g3 t) (g4 t)) fun v0 => bO (ld Pg 9 v0 l h) fun v1 => bO (bin Pg .eql 9 false v1 (g0 t)) fun v2 => k (p17 t v2) l h)
 (.cond (.tmp 17) (.seq (.reg fun c t l h k => k (p2 t (.bool true)) l h)
 .ret) .skip)))
 (.reg fun c t l h k => bO (bin Pg .add 3 true (g4 t) (I 1)) fun v0 => k (p4 t v0) l h))))))
 (.seq (.reg fun c t l h k => k (p2 t (.bool false)) l h)
 .ret))))
def kp12 : List Nat := [0, 2, 3, 4, 6, 13]
def rc12 : RC := (.seq (.reg fun c t l h k => k (p3 (p2 t (I 0)) (I 0)) l h)
 (.seq (.seq (.reg fun c t l h k => bO (bin Pg .eql 26 true (g0 t) .nili) fun v0 => k (p6 t v0) l h)
 (.cond (.tmp 6) (.seq (.reg fun c t l h k => k (p3 (p2 t (I 0)) (I 0)) l h)
 .ret) .skip))
 (.seq (.reg fun c t l h k => gn Tryd.f12 12 3 0 c t t l h (fun v0 l0 h0 => k (p4 t v0) l0 h0))
 (.seq (.seq (.reg fun c t l h k => gn Tryd.f12 12 4 1 c (p4 t (g4 t)) t l h (fun v0 l0 h0 => cl c 18 [(g0 t), v0] t l0 h0 fun v1 l1 h1 => jn (fun v2 l2 h2 => jn (fun v3 l3 h3 => bO (pick v1 v3 (.bool false)) fun v4 => k (p13 t v4) l3 h3) fun j3 => brB (wv v1 true) (j3 (.tuple []) l2 h2) (bO (bin Pg .neq 51 true v2 .nilp) fun v4 => j3 v4 l2 h2)) fun j2 => brB (wv v1 true) (j2 (.tuple []) l1 h1) (bO (ld Pg 51 (g4 t) l1 h1) fun v3 => j2 v3 l1 h1)))
 (.cond (.tmp 13) (.seq (.reg fun c t l h k => bO (ld Pg 51 (g4 t) l h) fun v0 => bO (nilC v0) fun v1 => bO (fa Pg 55 v1 0) fun v2 => bO (ld Pg 3 v2 l h) fun v3 => bO (ld Pg 51 (g4 t) l h) fun v4 => bO (nilC v4) fun v5 => bO (fa Pg 55 v5 1) fun v6 => bO (ld Pg 44 v6 l h) fun v7 => k (p3 (p2 t v3) v7) l h)
 .ret) .skip))
 (.seq (.reg fun c t l h k => k (p3 (p2 t (.int .i64 (.negSucc 1))) (.int .i64 (.negSucc 1))) l h)
 .ret)))))
def kp13 : List Nat := [0, 2, 3, 4, 5, 6, 7, 8, 9, 10, 11, 12, 13, 16, 20, 28, 48, 76, 84, 92, 97, 103, 115, 118, 131, 138, 150, 159, 167, 184, 198, 202]
def rc13 : RC := (.seq (.reg fun c t l h k => k (p4 (p3 (p2 t .nils) (I 0)) (I 0)) l h)
 (.seq (.seq (.reg fun c t l h k => bO (len (Pg.underlying 9) (g0 t)) fun v0 => bO (bin Pg .gtr 3 true v0 (I 65536)) fun v1 => k (p16 t v1) l h)
 (.cond (.tmp 16) (.seq (.reg fun c t l h k => k (p4 (p3 (p2 t .nils) (I 65536)) (I 141)) l h)
 .ret) .skip))
 (.seq (.reg fun c t l h k => k (p5 t .nils) l h)
 (.seq (.reg fun c t l h k => k (p6 t (I 0)) l h)
 (.seq (.block 0 (.loop (.seq (.seq (.reg fun c t l h k => bO (len (Pg.underlying 9) (g0 t)) fun v0 => bO (bin Pg .lss 3 false (g6 t) v0) fun v1 => k (p20 t v1) l h)
 (.cond (.tmp 20) .skip (.exit 0)))
 (.block 1 (.seq (.reg fun c t l h k => cl c 19 [(g0 t), (g6 t)] t l h fun v0 l0 h0 => bO (ext v0 0) fun v1 => bO (ext v0 1) fun v2 => k (p8 (p7 t v1) v2) l0 h0)
 (.seq (.seq (.reg fun c t l h k => bO (bin Pg .eql 3 true (g7 t) (I 1)) fun v0 => k (p28 t v0) l h)
 (.cond (.tmp 28) (.seq (.reg fun c t l h k => bO (bin Pg .add 3 true (g6 t) (I 1)) fun v0 => k (p6 t v0) l h)
 (.exit 1)) .skip))
 (.seq (.seq (.reg fun c t l h k => bO (bin Pg .add 3 true (g6 t) (I 1)) fun v0 => bO (len (Pg.underlying 9) (g0 t)) fun v1 => bO (bin Pg .lss 3 false v0 v1) fun v2 => jn (fun v3 l3 h3 => jn (fun v4 l4 h4 => jn (fun v5 l5 h5 => jn (fun v6 l6 h6 => bO (pick v2 v6 (.bool false)) fun v7 => jn (fun v8 l8 h8 => jn (fun v9 l9 h9 => jn (fun v10 l10 h10 => jn (fun v11 l11 h11 => jn (fun v12 l12 h12 => bO (pick v7 v12 (.bool false)) fun v13 => k (p48 t v13) l12 h12) fun j12 => brB (wv v7 true) (j12 (.tuple []) l11 h11) (bO (bin Pg .eql 5 true v11 (.int .u8 (.ofNat 42))) fun v13 => j12 v13 l11 h11)) fun j11 => brB (wv v7 true) (j11 (.tuple []) l10 h10) (bO (idx Pg 9 v8 v10) fun v12 => j11 v12 l10 h10)) fun j10 => brB (wv v7 true) (j10 (.tuple []) l9 h9) (bO (bin Pg .add 3 true v9 (I 1)) fun v11 => j10 v11 l9 h9)) fun j9 => brB (wv v7 true) (j9 (.tuple []) l8 h8) (j9 (g6 t) l8 h8)) fun j8 => brB (wv v7 true) (j8 (.tuple []) l6 h6) (j8 (g0 t) l6 h6)) fun j6 => brB (wv v2 true) (j6 (.tuple []) l5 h5) (bO (bin Pg .eql 5 true v5 (.int .u8 (.ofNat 40))) fun v7 => j6 v7 l5 h5)) fun j5 => brB (wv v2 true) (j5 (.tuple []) l4 h4) (bO (idx Pg 9 v3 v4) fun v6 => j5 v6 l4 h4)) fun j4 => brB (wv v2 true) (j4 (.tuple []) l3 h3) (j4 (g6 t) l3 h3)) fun j3 => brB (wv v2 true) (j3 (.tuple []) l h) (j3 (g0 t) l h))
 (.cond (.tmp 48) (.seq (.reg fun c t l h k => k (p9 t (g6 t)) l h)
 (.seq (.reg fun c t l h k => bO (bin Pg .add 3 true (g6 t) (I 2)) fun v0 => k (p6 t v0) l h)
 (.seq (.block 2 (.loop (.seq (.seq (.reg fun c t l h k => bO (len (Pg.underlying 9) (g0 t)) fun v0 => bO (bin Pg .lss 3 false (g6 t) v0) fun v1 => jn (fun v2 l2 h2 => jn (fun v3 l3 h3 => jn (fun v4 l4 h4 => jn (fun v5 l5 h5 => jn (fun v6 l6 h6 => jn (fun v7 l7 h7 => jn (fun v8 l8 h8 => jn (fun v9 l9 h9 => jn (fun v10 l10 h10 => jn (fun v11 l11 h11 => jn (fun v12 l12 h12 => jn (fun v13 l13 h13 => jn (fun v14 l14 h14 => jn (fun v15 l15 h15 => jn (fun v16 l16 h16 => jn (fun v17 l17 h17 => jn (fun v18 l18 h18 => jn (fun v19 l19 h19 => jn (fun v20 l20 h20 => bO (pick v1 v20 (.bool false)) fun v21 => k (p76 t v21) l20 h20) fun j20 => brB (wv v1 true) (j20 (.tuple []) l19 h19) (bO (G.un .not v19) fun v21 => j20 v21 l19 h19)) fun j19 => brB (wv v1 true) (j19 (.tuple []) l18 h18) (bO (pick v13 v18 (.bool false)) fun v20 => j19 v20 l18 h18)) fun j18 => brB (wv v13 true) (j18 (.tuple []) l17 h17) (bO (bin Pg .eql 5 true v17 (.int .u8 (.ofNat 41))) fun v19 => j18 v19 l17 h17)) fun j17 => brB (wv v13 true) (j17 (.tuple []) l16 h16) (bO (idx Pg 9 v14 v16) fun v18 => j17 v18 l16 h16)) fun j16 => brB (wv v13 true) (j16 (.tuple []) l15 h15) (bO (bin Pg .add 3 true v15 (I 1)) fun v17 => j16 v17 l15 h15)) fun j15 => brB (wv v13 true) (j15 (.tuple []) l14 h14) (j15 (g6 t) l14 h14)) fun j14 => brB (wv v13 true) (j14 (.tuple []) l13 h13) (j14 (g0 t) l13 h13)) fun j13 => brB (wv v1 true) (j13 (.tuple []) l12 h12) (j13 v12 l12 h12)) fun j12 => brB (wv v1 true) (j12 (.tuple []) l11 h11) (bO (pick v7 v11 (.bool false)) fun v13 => j12 v13 l11 h11)) fun j11 => brB (wv v7 true) (j11 (.tuple []) l10 h10) (bO (bin Pg .eql 5 true v10 (.int .u8 (.ofNat 42))) fun v12 => j11 v12 l10 h10)) fun j10 => brB (wv v7 true) (j10 (.tuple []) l9 h9) (bO (idx Pg 9 v8 v9) fun v11 => j10 v11 l9 h9)) fun j9 => brB (wv v7 true) (j9 (.tuple []) l8 h8) (j9 (g6 t) l8 h8)) fun j8 => brB (wv v7 true) (j8 (.tuple []) l7 h7) (j8 (g0 t) l7 h7)) fun j7 => brB (wv v1 true) (j7 (.tuple []) l6 h6) (j7 v6 l6 h6)) fun j6 => brB (wv v1 true) (j6 (.tuple []) l5 h5) (bO (bin Pg .lss 3 false v3 v5) fun v7 => j6 v7 l5 h5)) fun j5 => brB (wv v1 true) (j5 (.tuple []) l4 h4) (bO (len (Pg.underlying 9) v4) fun v6 => j5 v6 l4 h4)) fun j4 => brB (wv v1 true) (j4 (.tuple []) l3 h3) (j4 (g0 t) l3 h3)) fun j3 => brB (wv v1 true) (j3 (.tuple []) l2 h2) (bO (bin Pg .add 3 true v2 (I 1)) fun v4 => j3 v4 l2 h2)) fun j2 => brB (wv v1 true) (j2 (.tuple []) l h) (j2 (g6 t) l h))
 (.cond (.tmp 76) .skip (.exit 2)))
 (.block 3 (.seq (.reg fun c t l h k => cl c 19 [(g0 t), (g6 t)] t l h fun v0 l0 h0 => bO (ext v0 0) fun v1 => bO (ext v0 1) fun v2 => k (p8 (p7 t v1) v2) l0 h0)
 (.seq (.seq (.reg fun c t l h k => bO (bin Pg .eql 3 true (g7 t) (I 0)) fun v0 => k (p84 t v0) l h)
 (.cond (.tmp 84) (.seq (.reg fun c t l h k => k (p4 (p3 (p2 t .nils) (g6 t)) (I 140)) l h)
 .ret) .skip))
 (.reg fun c t l h k => bO (bin Pg .add 3 false (g6 t) (g8 t)) fun v0 => k (p6 t v0) l h)))))))
 (.seq (.seq (.reg fun c t l h k => bO (len (Pg.underlying 9) (g0 t)) fun v0 => bO (bin Pg .geq 3 false (g6 t) v0) fun v1 => k (p92 t v1) l h)
 (.cond (.tmp 92) (.seq (.reg fun c t l h k => k (p4 (p3 (p2 t .nils) (g9 t)) (I 140)) l h)
 .ret) .skip))
 (.seq (.reg fun c t l h k => bO (bin Pg .add 3 true (g6 t) (I 2)) fun v0 => k (p6 t v0) l h)
 (.exit 1)))))) .skip))
 (.seq (.reg fun c t l h k => k (p10 t (g6 t)) l h)
 (.seq (.reg fun c t l h k => k (p97 t (g7 t)) l h)
 (.block 4 (.seq (.reg fun c t l h k => bO (bin Pg .eql 3 true (g97 t) (I 0)) fun v0 => k (p115 t v0) l h)
 (.cond (.tmp 115) (.seq (.reg fun c t l h k => k (p4 (p3 (p2 t .nils) (g6 t)) (I 140)) l h)
 .ret) (.seq (.reg fun c t l h k => bO (bin Pg .eql 3 true (g97 t) (I 2)) fun v0 => k (p118 t v0) l h)
 (.cond (.tmp 118) (.seq (.block 5 (.loop (.seq (.seq (.reg fun c t l h k => bO (len (Pg.underlying 9) (g0 t)) fun v0 => bO (bin Pg .lss 3 false (g6 t) v0) fun v1 => jn (fun v2 l2 h2 => jn (fun v3 l3 h3 => jn (fun v4 l4 h4 => jn (fun v5 l5 h5 => jn (fun v6 l6 h6 => jn (fun v7 l7 h7 => bO (pick v1 v7 (.bool false)) fun v8 => k (p131 t v8) l7 h7) fun j7 => brB (wv v1 true) (j7 (.tuple []) l6 h6) (bO (pick v4 (.bool true) v6) fun v8 => j7 v8 l6 h6)) fun j6 => brB (wv v4 false) (j6 (.tuple []) l5 h5) (bO (bin Pg .eql 3 true v5 (I 3)) fun v7 => j6 v7 l5 h5)) fun j5 => brB (wv v4 false) (j5 (.tuple []) l4 h4) (j5 (g7 t) l4 h4)) fun j4 => brB (wv v1 true) (j4 (.tuple []) l3 h3) (j4 v3 l3 h3)) fun j3 => brB (wv v1 true) (j3 (.tuple []) l2 h2) (bO (bin Pg .eql 3 true v2 (I 2)) fun v4 => j3 v4 l2 h2)) fun j2 => brB (wv v1 true) (j2 (.tuple []) l h) (j2 (g7 t) l h))
 (.cond (.tmp 131) .skip (.exit 5)))
 (.block 6 (.seq (.reg fun c t l h k => bO (bin Pg .add 3 false (g6 t) (g8 t)) fun v0 => k (p6 t v0) l h)
 (.seq (.reg fun c t l h k => bO (len (Pg.underlying 9) (g0 t)) fun v0 => bO (bin Pg .lss 3 false (g6 t) v0) fun v1 => k (p138 t v1) l h)
 (.cond (.tmp 138) (.reg fun c t l h k => cl c 19 [(g0 t), (g6 t)] t l h fun v0 l0 h0 => bO (ext v0 0) fun v1 => bO (ext v0 1) fun v2 => k (p8 (p7 t v1) v2) l0 h0) .skip)))))))
 (.seq (.reg fun c t l h k => bO (slc Pg 9 (g0 t) (some (g10 t)) (some (g6 t)) none) fun v0 => k (p11 t v0) l h)
 (.seq (.reg fun c t l h k => cl c 10 [(g11 t)] t l h fun v0 l0 h0 => k (p150 t v0) l0 h0)
 (.cond (.tmp 150) (.reg fun c t l h k => gn Tryd.f13 13 36 3 c (p153 (p152 t (g11 t)) (g10 t)) t l h (fun v0 l0 h0 => bO (bs Pg 24 1 [(0, v0)]) fun v1 => gn Tryd.f13 13 36 5 c (p155 (p151 t (g5 t)) v1) t l0 h0 (fun v2 l2 h2 => k (p5 t v2) l2 h2))) (.seq (.seq (.reg fun c t l h k => bO (len (Pg.underlying 9) (g11 t)) fun v0 => bO (bin Pg .gtr 3 true v0 (I 40)) fun v1 => k (p159 t v1) l h)
 (.cond (.tmp 159) (.seq (.reg fun c t l h k => k (p4 (p3 (p2 t .nils) (g10 t)) (I 141)) l h)
 .ret) .skip))
 (.reg fun c t l h k => gn Tryd.f13 13 39 3 c (p163 (p162 t (g11 t)) (g10 t)) t l h (fun v0 l0 h0 => bO (bs Pg 24 1 [(0, v0)]) fun v1 => gn Tryd.f13 13 39 5 c (p165 (p161 t (g5 t)) v1) t l0 h0 (fun v2 l2 h2 => k (p5 t v2) l2 h2)))))))) (.seq (.reg fun c t l h k => bO (bin Pg .eql 3 true (g97 t) (I 3)) fun v0 => k (p167 t v0) l h)
 (.cond (.tmp 167) (.seq (.block 7 (.loop (.seq (.seq (.reg fun c t l h k => bO (len (Pg.underlying 9) (g0 t)) fun v0 => bO (bin Pg .lss 3 false (g6 t) v0) fun v1 => jn (fun v2 l2 h2 => jn (fun v3 l3 h3 => jn (fun v4 l4 h4 => jn (fun v5 l5 h5 => bO (pick v1 v5 (.bool false)) fun v6 => jn (fun v7 l7 h7 => jn (fun v8 l8 h8 => jn (fun v9 l9 h9 => jn (fun v10 l10 h10 => bO (pick v6 v10 (.bool false)) fun v11 => k (p184 t v11) l10 h10) fun j10 => brB (wv v6 true) (j10 (.tuple []) l9 h9) (bO (bin Pg .leq 5 true v9 (.int .u8 (.ofNat 57))) fun v11 => j10 v11 l9 h9)) fun j9 => brB (wv v6 true) (j9 (.tuple []) l8 h8) (bO (idx Pg 9 v7 v8) fun v10 => j9 v10 l8 h8)) fun j8 => brB (wv v6 true) (j8 (.tuple []) l7 h7) (j8 (g6 t) l7 h7)) fun j7 => brB (wv v6 true) (j7 (.tuple []) l5 h5) (j7 (g0 t) l5 h5)) fun j5 => brB (wv v1 true) (j5 (.tuple []) l4 h4) (bO (bin Pg .geq 5 true v4 (.int .u8 (.ofNat 48))) fun v6 => j5 v6 l4 h4)) fun j4 => brB (wv v1 true) (j4 (.tuple []) l3 h3) (bO (idx Pg 9 v2 v3) fun v5 => j4 v5 l3 h3)) fun j3 => brB (wv v1 true) (j3 (.tuple []) l2 h2) (j3 (g6 t) l2 h2)) fun j2 => brB (wv v1 true) (j2 (.tuple []) l h) (j2 (g0 t) l h))
 (.cond (.tmp 184) .skip (.exit 7)))
 (.block 8 (.reg fun c t l h k => bO (bin Pg .add 3 true (g6 t) (I 1)) fun v0 => k (p6 t v0) l h)))))
 (.seq (.reg fun c t l h k => bO (slc Pg 9 (g0 t) (some (g10 t)) (some (g6 t)) none) fun v0 => k (p12 t v0) l h)
 (.seq (.seq (.reg fun c t l h k => bO (len (Pg.underlying 9) (g12 t)) fun v0 => bO (bin Pg .gtr 3 true v0 (I 1)) fun v1 => jn (fun v2 l2 h2 => jn (fun v3 l3 h3 => jn (fun v4 l4 h4 => bO (pick v1 v4 (.bool false)) fun v5 => k (p198 t v5) l4 h4) fun j4 => brB (wv v1 true) (j4 (.tuple []) l3 h3) (bO (bin Pg .eql 5 true v3 (.int .u8 (.ofNat 48))) fun v5 => j4 v5 l3 h3)) fun j3 => brB (wv v1 true) (j3 (.tuple []) l2 h2) (bO (idx Pg 9 v2 (I 0)) fun v4 => j3 v4 l2 h2)) fun j2 => brB (wv v1 true) (j2 (.tuple []) l h) (j2 (g12 t) l h))
 (.cond (.tmp 198) (.seq (.reg fun c t l h k => k (p4 (p3 (p2 t .nils) (g10 t)) (I 140)) l h)
 .ret) .skip))
 (.seq (.seq (.reg fun c t l h k => bO (len (Pg.underlying 9) (g12 t)) fun v0 => bO (bin Pg .gtr 3 true v0 (I 400)) fun v1 => k (p202 t v1) l h)
 (.cond (.tmp 202) (.seq (.reg fun c t l h k => k (p4 (p3 (p2 t .nils) (g10 t)) (I 141)) l h)
 .ret) .skip))
 (.reg fun c t l h k => gn Tryd.f13 13 48 3 c (p206 (p205 t (g12 t)) (g10 t)) t l h (fun v0 l0 h0 => bO (bs Pg 24 1 [(0, v0)]) fun v1 => gn Tryd.f13 13 48 5 c (p208 (p204 t (g5 t)) v1) t l0 h0 (fun v2 l2 h2 => k (p5 t v2) l2 h2))))))) (.seq (.reg fun c t l h k => bO (slc Pg 9 (g0 t) (some (g6 t)) none none) fun v0 => cl c 20 [v0] t l h fun v1 l1 h1 => k (p13 t v1) l1 h1)
 (.seq (.seq (.reg fun c t l h k => bO (bin Pg .eql 9 true (g13 t) (.str ⟨0, 0⟩)) fun v0 => k (p103 t v0) l h)
 (.cond (.tmp 103) (.seq (.reg fun c t l h k => k (p4 (p3 (p2 t .nils) (g6 t)) (I 140)) l h)
 .ret) .skip))
 (.seq (.reg fun c t l h k => bO (len (Pg.underlying 9) (g13 t)) fun v0 => bO (bin Pg .add 3 false (g6 t) v0) fun v1 => k (p6 t v1) l h)
 (.reg fun c t l h k => gn Tryd.f13 13 26 3 c (p111 (p110 t (g13 t)) (g10 t)) t l h (fun v0 l0 h0 => bO (bs Pg 24 1 [(0, v0)]) fun v1 => gn Tryd.f13 13 26 5 c (p113 (p109 t (g5 t)) v1) t l0 h0 (fun v2 l2 h2 => k (p5 t v2) l2 h2))))))))))))))))))))))
 (.seq (.reg fun c t l h k => bO (len (Pg.underlying 9) (g0 t)) fun v0 => gn Tryd.f13 13 49 3 c (p212 t v0) t l h (fun v1 l1 h1 => bO (bs Pg 24 1 [(0, v1)]) fun v2 => gn Tryd.f13 13 49 5 c (p214 (p210 t (g5 t)) v2) t l1 h1 (fun v3 l3 h3 => k (p4 (p3 (p2 t v3) (I 0)) (I 0)) l3 h3)))
 .ret))))))
def kp14 : List Nat := [0, 1, 4, 5, 10, 14, 25]
def rc14 : RC := (.seq (.reg fun c t l h k => k (p4 t (.bool false)) l h)
 (.seq (.seq (.reg fun c t l h k => bO (len (Pg.underlying 24) (g0 t)) fun v0 => bO (len (Pg.underlying 24) (g1 t)) fun v1 => bO (bin Pg .neq 3 false v0 v1) fun v2 => k (p10 t v2) l h)
 (.cond (.tmp 10) (.seq (.reg fun c t l h k => k (p4 t (.bool false)) l h)
 .ret) .skip))
 (.seq (.seq (.reg fun c t l h k => k (p5 t (I 0)) l h)
 (.block 0 (.loop (.seq (.seq (.reg fun c t l h k => bO (len (Pg.underlying 24) (g0 t)) fun v0 => bO (bin Pg .lss 3 false (g5 t) v0) fun v1 => k (p14 t v1) l h)
 (.cond (.tmp 14) .skip (.exit 0)))
 (.seq (.block 1 (.seq (.reg fun c t l h k => bO (ia Pg 24 (g0 t) (g5 t)) fun v0 => bO (ld Pg 30 v0 l h) fun v1 => bO (ia Pg 24 (g1 t) (g5 t)) fun v2 => bO (ld Pg 30 v2 l h) fun v3 => bO (bin Pg .neq 30 false v1 v3) fun v4 => k (p25 t v4) l h)
 (.cond (.tmp 25) (.seq (.reg fun c t l h k => k (p4 t (.bool false)) l h)
 .ret) .skip)))
 (.reg fun c t l h k => bO (bin Pg .add 3 true (g5 t) (I 1)) fun v0 => k (p5 t v0) l h))))))
 (.seq (.reg fun c t l h k => k (p4 t (.bool true)) l h)
 .ret))))
def kp15 : List Nat := [0, 1, 4]
def rc15 : RC := (.seq (.reg fun c t l h k => k (p4 t .nili) l h)
 (.seq (.reg fun c t l h k => gn Tryd.f15 15 1 2 c (p6 (p5 t (g0 t)) (g1 t)) t l h (fun v0 l0 h0 => gn Tryd.f15 15 1 3 c (p7 t v0) t l0 h0 (fun v1 l1 h1 => gn Tryd.f15 15 1 4 c (p8 t v1) t l1 h1 (fun v2 l2 h2 => k (p4 t v2) l2 h2))))
 .ret))
def kp16 : List Nat := [0, 2, 3, 13, 14, 28, 30]
def rc16 : RC := (.seq (.reg fun c t l h k => k (p2 t .nili) l h)
 (.seq (.block 0 (.loop (.seq (.seq (.reg fun c t l h k => bO (nilC (g0 t)) fun v0 => bO (fa Pg 47 v0 1) fun v1 => bO (ld Pg 3 v1 l h) fun v2 => bO (nilC (g0 t)) fun v3 => bO (fa Pg 47 v3 0) fun v4 => bO (ld Pg 9 v4 l h) fun v5 => bO (len (Pg.underlying 9) v5) fun v6 => bO (bin Pg .lss 3 false v2 v6) fun v7 => k (p13 t v7) l h)
 (.cond (.tmp 13) .skip (.exit 0)))
 (.block 1 (.block 2 (.seq (.reg fun c t l h k => bO (nilC (g0 t)) fun v0 => bO (fa Pg 47 v0 0) fun v1 => bO (ld Pg 9 v1 l h) fun v2 => bO (nilC (g0 t)) fun v3 => bO (fa Pg 47 v3 1) fun v4 => bO (ld Pg 3 v4 l h) fun v5 => bO (slc Pg 9 v2 (some v5) none none) fun v6 => jE ((23, v6) :: (22, v5) :: (21, v4) :: (20, v3) :: (19, (g0 t)) :: (18, v2) :: (17, v1) :: (16, v0) :: (15, (g0 t)) :: []) fun e7 => jF (ft0 :: (ldF v4) :: ft0 :: ft0 :: ft0 :: (ldF v1) :: ft0 :: ft0 :: ft0 :: []) fun q7 => clD c 21 [v6, (.str ⟨2, 10792⟩)] l h (fun v7 f7 l7 h7 => finD (rgA Tryd.f16 3).toList [] [] (ft0 :: f7 :: q7) (k (p14 t v7) l7 h7)) (sD Tryd.f16 16 3 c 9 (some 24) e7 q7 t l h))
 (.cond (.tmp 14) (.seq (.reg fun c t l h k => cl c 22 [(g0 t)] t l h fun v0 l0 h0 => k (p3 t v0) l0 h0)
 (.seq (.reg fun c t l h k => bO (bin Pg .neq 26 true (g3 t) .nili) fun v0 => k (p28 t v0) l h)
 (.cond (.tmp 28) (.seq (.reg fun c t l h k => k (p2 t (g3 t)) l h)
 .ret) .skip))) (.seq (.reg fun c t l h k => cl c 23 [(g0 t)] t l h fun v0 l0 h0 => bO (bin Pg .eql 3 true v0 (I 1)) fun v1 => k (p30 t v1) l0 h0)
 (.cond (.tmp 30) (.reg fun c t l h k => bO (nilC (g0 t)) fun v0 => bO (fa Pg 47 v0 1) fun v1 => bO (ld Pg 3 v1 l h) fun v2 => bO (bin Pg .add 3 true v2 (I 1)) fun v3 => bO (nilC (g0 t)) fun v4 => bO (fa Pg 47 v4 1) fun v5 => jn (fun v6 l6 h6 => k t l6 h6) fun j6 => sto 3 v5 v3 l h j6 (gn Tryd.f16 16 8 7 c (p38 (p40 t v5) v3) t l h j6)) (.seq (.reg fun c t l h k => k (p2 t .nili) l h)
 .ret))))))))))
 (.seq (.reg fun c t l h k => k (p2 t .nili) l h)
 .ret)))
def kp17 : List Nat := [0, 2, 3, 5, 6, 12]
def rc17 : RC := (.seq (.reg fun c t l h k => al Pg 30 2 l fun v0 l0 => k (p3 (p2 t v0) .nili) l0 h)
 (.seq (.seq (.reg fun c t l h k => cl c 23 [(g0 t)] t l h fun v0 l0 h0 => k (p5 t v0) l0 h0)
 (.block 0 (.seq (.reg fun c t l h k => bO (bin Pg .eql 3 true (g5 t) (I 2)) fun v0 => k (p6 t v0) l h)
 (.cond (.tmp 6) (.seq (.reg fun c t l h k => cl c 24 [(g0 t)] t l h fun v0 l0 h0 => bO (ext v0 0) fun v1 => bO (ext v0 1) fun v2 => jn (fun v3 l3 h3 => k (p3 t v2) l3 h3) fun j3 => sto 30 (g2 t) v1 l0 h0 j3 (gn Tryd.f17 17 3 4 c (p10 (p2 t (g2 t)) v1) t l0 h0 j3))
 .ret) (.seq (.reg fun c t l h k => bO (bin Pg .eql 3 true (g5 t) (I 3)) fun v0 => k (p12 t v0) l h)
 (.cond (.tmp 12) (.seq (.reg fun c t l h k => cl c 25 [(g0 t)] t l h fun v0 l0 h0 => bO (ext v0 0) fun v1 => bO (ext v0 1) fun v2 => jn (fun v3 l3 h3 => k (p3 t v2) l3 h3) fun j3 => sto 30 (g2 t) v1 l0 h0 j3 (gn Tryd.f17 17 5 4 c (p16 (p2 t (g2 t)) v1) t l0 h0 j3))
 .ret) .skip))))))
 (.seq (.reg fun c t l h k => cl c 26 [(g0 t)] t l h fun v0 l0 h0 => bO (ext v0 0) fun v1 => bO (ext v0 1) fun v2 => jn (fun v3 l3 h3 => k (p3 t v2) l3 h3) fun j3 => sto 30 (g2 t) v1 l0 h0 j3 (gn Tryd.f17 17 6 4 c (p20 (p2 t (g2 t)) v1) t l0 h0 j3))
 .ret)))
def kp19 : List Nat := [0, 1, 4, 5, 6, 7, 8, 12, 27, 46, 53, 68]
def rc19 : RC := (.seq (.reg fun c t l h k => k (p5 (p4 t (I 0)) (I 0)) l h)
 (.seq (.reg fun c t l h k => bO (idx Pg 9 (g0 t) (g1 t)) fun v0 => k (p6 t v0) l h)
 (.seq (.block 0 (.seq (.reg fun c t l h k => bO (bin Pg .eql 5 true (g6 t) (.int .u8 (.ofNat 32))) fun v0 => jn (fun v1 l1 h1 => jn (fun v2 l2 h2 => bO (pick v0 (.bool true) v2) fun v3 => jn (fun v4 l4 h4 => jn (fun v5 l5 h5 => bO (pick v3 (.bool true) v5) fun v6 => jn (fun v7 l7 h7 => jn (fun v8 l8 h8 => bO (pick v6 (.bool true) v8) fun v9 => k (p12 t v9) l8 h8) fun j8 => brB (wv v6 false) (j8 (.tuple []) l7 h7) (bO (bin Pg .eql 5 true v7 (.int .u8 (.ofNat 13))) fun v9 => j8 v9 l7 h7)) fun j7 => brB (wv v6 false) (j7 (.tuple []) l5 h5) (j7 (g6 t) l5 h5)) fun j5 => brB (wv v3 false) (j5 (.tuple []) l4 h4) (bO (bin Pg .eql 5 true v4 (.int .u8 (.ofNat 10))) fun v6 => j5 v6 l4 h4)) fun j4 => brB (wv v3 false) (j4 (.tuple []) l2 h2) (j4 (g6 t) l2 h2)) fun j2 => brB (wv v0 false) (j2 (.tuple []) l1 h1) (bO (bin Pg .eql 5 true v1 (.int .u8 (.ofNat 9))) fun v3 => j2 v3 l1 h1)) fun j1 => brB (wv v0 false) (j1 (.tuple []) l h) (j1 (g6 t) l h))
 (.cond (.tmp 12) (.seq (.reg fun c t l h k => k (p5 (p4 t (I 1)) (I 1)) l h)
 .ret) (.seq (.reg fun c t l h k => bO (bin Pg .geq 5 true (g6 t) (.int .u8 (.ofNat 65))) fun v0 => jn (fun v1 l1 h1 => jn (fun v2 l2 h2 => bO (pick v0 v2 (.bool false)) fun v3 => jn (fun v4 l4 h4 => jn (fun v5 l5 h5 => jn (fun v6 l6 h6 => jn (fun v7 l7 h7 => jn (fun v8 l8 h8 => jn (fun v9 l9 h9 => bO (pick v3 (.bool true) v9) fun v10 => jn (fun v11 l11 h11 => jn (fun v12 l12 h12 => bO (pick v10 (.bool true) v12) fun v13 => k (p27 t v13) l12 h12) fun j12 => brB (wv v10 false) (j12 (.tuple []) l11 h11) (bO (bin Pg .eql 5 true v11 (.int .u8 (.ofNat 95))) fun v13 => j12 v13 l11 h11)) fun j11 => brB (wv v10 false) (j11 (.tuple []) l9 h9) (j11 (g6 t) l9 h9)) fun j9 => brB (wv v3 false) (j9 (.tuple []) l8 h8) (bO (pick v6 v8 (.bool false)) fun v10 => j9 v10 l8 h8)) fun j8 => brB (wv v6 true) (j8 (.tuple []) l7 h7) (bO (bin Pg .leq 5 true v7 (.int .u8 (.ofNat 122))) fun v9 => j8 v9 l7 h7)) fun j7 => brB (wv v6 true) (j7 (.tuple []) l6 h6) (j7 (g6 t) l6 h6)) fun j6 => brB (wv v3 false) (j6 (.tuple []) l5 h5) (j6 v5 l5 h5)) fun j5 => brB (wv v3 false) (j5 (.tuple []) l4 h4) (bO (bin Pg .geq 5 true v4 (.int .u8 (.ofNat 97))) fun v6 => j5 v6 l4 h4)) fun j4 => brB (wv v3 false) (j4 (.tuple []) l2 h2) (j4 (g6 t) l2 h2)) fun j2 => brB (wv v0 true) (j2 (.tuple []) l1 h1) (bO (bin Pg .leq 5 true v1 (.int .u8 (.ofNat 90))) fun v3 => j2 v3 l1 h1)) fun j1 => brB (wv v0 true) (j1 (.tuple []) l h) (j1 (g6 t) l h))
 (.cond (.tmp 27) (.seq (.reg fun c t l h k => k (p5 (p4 t (I 2)) (I 1)) l h)
 .ret) (.seq (.reg fun c t l h k => bO (bin Pg .geq 5 true (g6 t) (.int .u8 (.ofNat 48))) fun v0 => jn (fun v1 l1 h1 => jn (fun v2 l2 h2 => bO (pick v0 v2 (.bool false)) fun v3 => k (p46 t v3) l2 h2) fun j2 => brB (wv v0 true) (j2 (.tuple []) l1 h1) (bO (bin Pg .leq 5 true v1 (.int .u8 (.ofNat 57))) fun v3 => j2 v3 l1 h1)) fun j1 => brB (wv v0 true) (j1 (.tuple []) l h) (j1 (g6 t) l h))
 (.cond (.tmp 46) (.seq (.reg fun c t l h k => k (p5 (p4 t (I 3)) (I 1)) l h)
 .ret) (.seq (.reg fun c t l h k => bO (bin Pg .lss 5 true (g6 t) (.int .u8 (.ofNat 128))) fun v0 => k (p53 t v0) l h)
 (.cond (.tmp 53) (.seq (.reg fun c t l h k => k (p5 (p4 t (I 4)) (I 1)) l h)
 .ret) .skip)))))))))
 (.seq (.reg fun c t l h k => bO (slc Pg 9 (g0 t) (some (g1 t)) none none) fun v0 => cl c 31 [v0] t l h fun v1 l1 h1 => bO (ext v1 0) fun v2 => bO (ext v1 1) fun v3 => k (p8 (p7 t v2) v3) l1 h1)
 (.seq (.seq (.reg fun c t l h k => bO (bin Pg .eql 21 true (g7 t) (.int .i32 (.ofNat 65533))) fun v0 => jn (fun v1 l1 h1 => jn (fun v2 l2 h2 => bO (pick v0 v2 (.bool false)) fun v3 => k (p68 t v3) l2 h2) fun j2 => brB (wv v0 true) (j2 (.tuple []) l1 h1) (bO (bin Pg .leq 3 true v1 (I 1)) fun v3 => j2 v3 l1 h1)) fun j1 => brB (wv v0 true) (j1 (.tuple []) l h) (j1 (g8 t) l h))
 (.cond (.tmp 68) (.seq (.reg fun c t l h k => k (p5 (p4 t (I 0)) (I 1)) l h)
 .ret) .skip))
 (.seq (.reg fun c t l h k => k (p5 (p4 t (I 2)) (g8 t)) l h)
 .ret))))))
def kp20 : List Nat := [0, 2, 3, 4, 9, 33]
def rc20 : RC := (.seq (.reg fun c t l h k => k (p2 t (.str ⟨0, 0⟩)) l h)
 (.seq (.reg fun c t l h k => bO (bs Pg 31 25 [(0, (.str ⟨3, 4078909⟩)), (1, (.str ⟨2, 15674⟩)), (2, (.str ⟨2, 15676⟩)), (3, (.str ⟨2, 15678⟩)), (4, (.str ⟨2, 15932⟩)), (5, (.str ⟨2, 9766⟩)), (6, (.str ⟨2, 31868⟩)), (7, (.str ⟨2, 15917⟩)), (8, (.str ⟨2, 15163⟩)), (9, (.str ⟨1, 58⟩)), (10, (.str ⟨1, 59⟩)), (11, (.str ⟨1, 44⟩)), (12, (.str ⟨1, 46⟩)), (13, (.str ⟨1, 40⟩)), (14, (.str ⟨1, 41⟩)), (15, (.str ⟨1, 123⟩)), (16, (.str ⟨1, 125⟩)), (17, (.str ⟨1, 124⟩)), (18, (.str ⟨1, 61⟩)), (19, (.str ⟨1, 60⟩)), (20, (.str ⟨1, 62⟩)), (21, (.str ⟨1, 43⟩)), (22, (.str ⟨1, 45⟩)), (23, (.str ⟨1, 42⟩)), (24, (.str ⟨1, 33⟩))]) fun v0 => k (p3 t v0) l h)
 (.seq (.seq (.reg fun c t l h k => k (p4 t (I 0)) l h)
 (.block 0 (.loop (.seq (.seq (.reg fun c t l h k => bO (len (Pg.underlying 31) (g3 t)) fun v0 => bO (bin Pg .lss 3 false (g4 t) v0) fun v1 => k (p9 t v1) l h)
 (.cond (.tmp 9) .skip (.exit 0)))
 (.seq (.block 1 (.seq (.reg fun c t l h k => bO (len (Pg.underlying 9) (g0 t)) fun v0 => bO (ia Pg 31 (g3 t) (g4 t)) fun v1 => bO (ld Pg 9 v1 l h) fun v2 => bO (len (Pg.underlying 9) v2) fun v3 => bO (bin Pg .geq 3 false v0 v3) fun v4 => jn (fun v5 l5 h5 => jn (fun v6 l6 h6 => jn (fun v7 l7 h7 => jn (fun v8 l8 h8 => jn (fun v9 l9 h9 => jn (fun v10 l10 h10 => jn (fun v11 l11 h11 => jn (fun v12 l12 h12 => jn (fun v13 l13 h13 => jn (fun v14 l14 h14 => jn (fun v15 l15 h15 => jn (fun v16 l16 h16 => bO (pick v4 v16 (.bool false)) fun v17 => k (p33 t v17) l16 h16) fun j16 => brB (wv v4 true) (j16 (.tuple []) l15 h15) (bO (bin Pg .eql 9 false v11 v15) fun v17 => j16 v17 l15 h15)) fun j15 => brB (wv v4 true) (j15 (.tuple []) l14 h14) (bO (ld Pg 9 v14 l14 h14) fun v16 => j15 v16 l14 h14)) fun j14 => brB (wv v4 true) (j14 (.tuple []) l13 h13) (bO (ia Pg 31 v12 v13) fun v15 => j14 v15 l13 h13)) fun j13 => brB (wv v4 true) (j13 (.tuple []) l12 h12) (j13 (g4 t) l12 h12)) fun j12 => brB (wv v4 true) (j12 (.tuple []) l11 h11) (j12 (g3 t) l11 h11)) fun j11 => brB (wv v4 true) (j11 (.tuple []) l10 h10) (bO (slc Pg 9 v5 none (some v10) none) fun v12 => j11 v12 l10 h10)) fun j10 => brB (wv v4 true) (j10 (.tuple []) l9 h9) (bO (len (Pg.underlying 9) v9) fun v11 => j10 v11 l9 h9)) fun j9 => brB (wv v4 true) (j9 (.tuple []) l8 h8) (bO (ld Pg 9 v8 l8 h8) fun v10 => j9 v10 l8 h8)) fun j8 => brB (wv v4 true) (j8 (.tuple []) l7 h7) (bO (ia Pg 31 v6 v7) fun v9 => j8 v9 l7 h7)) fun j7 => brB (wv v4 true) (j7 (.tuple []) l6 h6) (j7 (g4 t) l6 h6)) fun j6 => brB (wv v4 true) (j6 (.tuple []) l5 h5) (j6 (g3 t) l5 h5)) fun j5 => brB (wv v4 true) (j5 (.tuple []) l h) (j5 (g0 t) l h))
 (.cond (.tmp 33) (.seq (.reg fun c t l h k => bO (ia Pg 31 (g3 t) (g4 t)) fun v0 => bO (ld Pg 9 v0 l h) fun v1 => k (p2 t v1) l h)
 .ret) .skip)))
 (.reg fun c t l h k => bO (bin Pg .add 3 true (g4 t) (I 1)) fun v0 => k (p4 t v0) l h))))))
 (.seq (.reg fun c t l h k => k (p2 t (.str ⟨0, 0⟩)) l h)
 .ret))))
def kp21 : List Nat := [0, 1, 4]
def rc21 : RC := (.seq (.reg fun c t l h k => k (p4 t (.bool false)) l h)
 (.seq (.reg fun c t l h k => cl c 32 [(g0 t), (g1 t)] t l h fun v0 l0 h0 => k (p4 t v0) l0 h0)
 .ret))
def kp22 : List Nat := [0, 2, 3, 4, 5, 6, 7, 19, 20, 21, 42, 49]
def rc22 : RC := (.seq (.reg fun c t l h k => k (p2 t .nili) l h)
 (.seq (.reg fun c t l h k => bO (nilC (g0 t)) fun v0 => bO (fa Pg 47 v0 1) fun v1 => bO (ld Pg 3 v1 l h) fun v2 => k (p3 t v2) l h)
 (.seq (.reg fun c t l h k => k (p4 t (.bool false)) l h)
 (.seq (.seq (.reg fun c t l h k => bO (nilC (g0 t)) fun v0 => bO (fa Pg 47 v0 0) fun v1 => bO (ld Pg 9 v1 l h) fun v2 => bO (bin Pg .add 3 true (g3 t) (I 2)) fun v3 => bO (slc Pg 9 v2 (some v3) none none) fun v4 => gn Tryd.f22 22 3 7 c (p18 t v4) t l h (fun v5 l5 h5 => k (p19 t v5) l5 h5))
 (.block 0 (.loop (.seq (.reg fun c t l h k => gn Tryd.f22 22 4 0 c (p19 t (g19 t)) t l h (fun v0 l0 h0 => bO (ext v0 0) fun v1 => k (p21 (p20 t v0) v1) l0 h0))
 (.seq (.cond (.tmp 21) .skip (.exit 0))
 (.block 1 (.seq (.reg fun c t l h k => bO (ext (g20 t) 1) fun v0 => bO (ext (g20 t) 2) fun v1 => k (p6 (p5 t v0) v1) l h)
 (.seq (.seq (.reg fun c t l h k => bO (bin Pg .add 3 true (g3 t) (I 2)) fun v0 => bO (bin Pg .add 3 false v0 (g5 t)) fun v1 => k (p7 t v1) l h)
 (.seq (.reg fun c t l h k => bO (bin Pg .eql 21 true (g6 t) (.int .i32 (.ofNat 65533))) fun v0 => jn (fun v1 l1 h1 => jn (fun v2 l2 h2 => jn (fun v3 l3 h3 => jn (fun v4 l4 h4 => jn (fun v5 l5 h5 => jn (fun v6 l6 h6 => jn (fun v7 l7 h7 => jn (fun v8 l8 h8 => jn (fun v9 l9 h9 => jn (fun v10 l10 h10 => jn (fun v11 l11 h11 => bO (pick v0 v11 (.bool false)) fun v12 => k (p42 t v12) l11 h11) fun j11 => brB (wv v0 true) (j11 (.tuple []) l10 h10) (bO (bin Pg .eql 3 true v10 (I 5)) fun v12 => j11 v12 l10 h10)) fun j10 => brB (wv v0 true) (j10 (.tuple []) l9 h9) (cl c 33 [v8, v9] t l9 h9 fun v11 l11 h11 => j10 v11 l11 h11)) fun j9 => brB (wv v0 true) (j9 (.tuple []) l8 h8) (bO (ext v7 1) fun v10 => j9 v10 l8 h8)) fun j8 => brB (wv v0 true) (j8 (.tuple []) l7 h7) (bO (ext v7 0) fun v9 => j8 v9 l7 h7)) fun j7 => brB (wv v0 true) (j7 (.tuple []) l6 h6) (cl c 31 [v6] t l6 h6 fun v8 l8 h8 => j7 v8 l8 h8)) fun j6 => brB (wv v0 true) (j6 (.tuple []) l5 h5) (bO (slc Pg 9 v4 (some v5) none none) fun v7 => j6 v7 l5 h5)) fun j5 => brB (wv v0 true) (j5 (.tuple []) l4 h4) (j5 (g7 t) l4 h4)) fun j4 => brB (wv v0 true) (j4 (.tuple []) l3 h3) (bO (ld Pg 9 v3 l3 h3) fun v5 => j4 v5 l3 h3)) fun j3 => brB (wv v0 true) (j3 (.tuple []) l2 h2) (bO (fa Pg 47 v2 0) fun v4 => j3 v4 l2 h2)) fun j2 => brB (wv v0 true) (j2 (.tuple []) l1 h1) (bO (nilC v1) fun v3 => j2 v3 l1 h1)) fun j1 => brB (wv v0 true) (j1 (.tuple []) l h) (j1 (g0 t) l h))
 (.cond (.tmp 42) (.seq (.reg fun c t l h k => cl c 15 [(g7 t), (I 140)] t l h fun v0 l0 h0 => k (p2 t v0) l0 h0)
 .ret) .skip)))
 (.seq (.seq (.reg fun c t l h k => jn (fun v0 l0 h0 => jn (fun v1 l1 h1 => bO (pick (g4 t) v1 (.bool false)) fun v2 => k (p49 t v2) l1 h1) fun j1 => brB (wv (g4 t) true) (j1 (.tuple []) l0 h0) (bO (bin Pg .eql 21 true v0 (.int .i32 (.ofNat 41))) fun v2 => j1 v2 l0 h0)) fun j0 => brB (wv (g4 t) true) (j0 (.tuple []) l h) (j0 (g6 t) l h))
 (.cond (.tmp 49) (.seq (.reg fun c t l h k => bO (bin Pg .add 3 true (g3 t) (I 2)) fun v0 => bO (bin Pg .add 3 false v0 (g5 t)) fun v1 => bO (bin Pg .add 3 true v1 (I 1)) fun v2 => bO (nilC (g0 t)) fun v3 => bO (fa Pg 47 v3 1) fun v4 => jn (fun v5 l5 h5 => k t l5 h5) fun j5 => sto 3 v4 v2 l h j5 (gn Tryd.f22 22 10 8 c (p55 (p57 t v4) v2) t l h j5))
 (.seq (.reg fun c t l h k => k (p2 t .nili) l h)
 .ret)) .skip))
 (.reg fun c t l h k => bO (bin Pg .eql 21 true (g6 t) (.int .i32 (.ofNat 42))) fun v0 => k (p4 t v0) l h))))))))))
 (.seq (.reg fun c t l h k => cl c 15 [(g3 t), (I 140)] t l h fun v0 l0 h0 => k (p2 t v0) l0 h0)
 .ret)))))
def kp23 : List Nat := [0, 2, 3, 4]
def rc23 : RC := (.seq (.reg fun c t l h k => k (p2 t (I 0)) l h)
 (.seq (.reg fun c t l h k => bO (nilC (g0 t)) fun v0 => bO (fa Pg 47 v0 0) fun v1 => bO (ld Pg 9 v1 l h) fun v2 => bO (nilC (g0 t)) fun v3 => bO (fa Pg 47 v3 1) fun v4 => bO (ld Pg 3 v4 l h) fun v5 => bO (slc Pg 9 v2 (some v5) none none) fun v6 => jE ((14, v6) :: (13, v5) :: (12, v4) :: (11, v3) :: (10, (g0 t)) :: (9, v2) :: (8, v1) :: (7, v0) :: (6, (g0 t)) :: []) fun e7 => jF (ft0 :: (ldF v4) :: ft0 :: ft0 :: ft0 :: (ldF v1) :: ft0 :: ft0 :: ft0 :: []) fun q7 => clD c 31 [v6] l h (fun v7 f7 l7 h7 => bO (ext v7 0) fun v8 => bO (ext v7 1) fun v9 => finD (rgA Tryd.f23 1).toList [] [] (ft0 :: ft0 :: ft0 :: ft0 :: ft0 :: f7 :: q7) (k (p4 (p3 t v8) v9) l7 h7)) (sD Tryd.f23 23 1 c 9 (some 15) e7 q7 t l h))
 (.seq (.reg fun c t l h k => cl c 33 [(g3 t), (g4 t)] t l h fun v0 l0 h0 => k (p2 t v0) l0 h0)
 .ret)))
def kp24 : List Nat := [0, 2, 3, 4, 28, 33]
def rc24 : RC := (.seq (.reg fun c t l h k => al Pg 30 2 l fun v0 l0 => k (p3 (p2 t v0) .nili) l0 h)
 (.seq (.reg fun c t l h k => bO (nilC (g0 t)) fun v0 => bO (fa Pg 47 v0 0) fun v1 => bO (ld Pg 9 v1 l h) fun v2 => bO (nilC (g0 t)) fun v3 => bO (fa Pg 47 v3 1) fun v4 => bO (ld Pg 3 v4 l h) fun v5 => bO (nilC (g0 t)) fun v6 => bO (fa Pg 47 v6 1) fun v7 => bO (ld Pg 3 v7 l h) fun v8 => jE ((17, (g0 t)) :: (16, v8) :: (15, v7) :: (14, v6) :: (13, (g0 t)) :: (12, v5) :: (11, v4) :: (10, v3) :: (9, (g0 t)) :: (8, v2) :: (7, v1) :: (6, v0) :: (5, (g0 t)) :: []) fun e9 => jF (ft0 :: (ldF v7) :: ft0 :: ft0 :: ft0 :: (ldF v4) :: ft0 :: ft0 :: ft0 :: (ldF v1) :: ft0 :: ft0 :: ft0 :: []) fun q9 => clD c 34 [(g0 t), (.bool true)] l h (fun v9 f9 l9 h9 => bO (bin Pg .add 3 false v8 v9) fun v10 => bO (slc Pg 9 v2 (some v5) (some v10) none) fun v11 => bO (nilC (g0 t)) fun v12 => bO (fa Pg 47 v12 1) fun v13 => bO (ld Pg 3 v13 l9 h9) fun v14 => jE ((24, v14) :: (23, v13) :: (22, v12) :: (21, (g0 t)) :: (20, v11) :: (19, v10) :: (18, v9) :: e9) fun e15 => jF ((ldF v13) :: ft0 :: ft0 :: ft0 :: ft0 :: ft0 :: f9 :: q9) fun q15 => gD Tryd.f24 24 1 20 c (p24 (p20 t v11) v14) l9 h9 (fun v15 f15 l15 h15 => jE ((25, v15) :: e15) fun e16 => jF (f15 :: q15) fun q16 => gD Tryd.f24 24 1 21 c t l15 h15 (fun v16 f16 l16 h16 => jE ((4, v16) :: e16) fun e17 => jF (f16 :: q16) fun q17 => gD Tryd.f24 24 1 22 c (p25 (p4 t v16) v15) l16 h16 (fun v17 f17 l17 h17 => finD (rgA Tryd.f24 1).toList [(3, 21), (7, 21), (11, 21), (19, 21)] [(3, 13), (7, 13), (11, 13), (13, 19), (3, 21), (7, 21), (11, 21), (13, 21), (19, 21)] (f17 :: q17) (k (p4 t v16) l17 h17)) (sD Tryd.f24 24 1 c 22 none e17 q17 t l16 h16)) (sD Tryd.f24 24 1 c 21 (some 4) e16 q16 t l15 h15)) (sD Tryd.f24 24 1 c 20 (some 25) e15 q15 t l9 h9)) (sD Tryd.f24 24 1 c 13 (some 18) e9 q9 t l h))
 (.seq (.seq (.reg fun c t l h k => bO (fa Pg 30 (g4 t) 1) fun v0 => bO (ld Pg 9 v0 l h) fun v1 => cl c 9 [v1] t l h fun v2 l2 h2 => k (p28 t v2) l2 h2)
 (.cond (.tmp 28) (.reg fun c t l h k => bO (fa Pg 30 (g4 t) 0) fun v0 => jn (fun v1 l1 h1 => k t l1 h1) fun j1 => sto 3 v0 (I 2) l h j1 (gn Tryd.f24 24 3 1 c (p29 t v0) t l h j1)) (.seq (.reg fun c t l h k => bO (fa Pg 30 (g4 t) 1) fun v0 => bO (ld Pg 9 v0 l h) fun v1 => bO (len (Pg.underlying 9) v1) fun v2 => bO (bin Pg .gtr 3 true v2 (I 40)) fun v3 => k (p33 t v3) l h)
 (.cond (.tmp 33) (.seq (.reg fun c t l h k => bO (ld Pg 30 (g4 t) l h) fun v0 => bO (fa Pg 30 (g4 t) 2) fun v1 => bO (ld Pg 3 v1 l h) fun v2 => jE ((36, v2) :: (35, v1) :: (34, v0) :: []) fun e3 => jF ((ldF v1) :: ft0 :: (ldF (g4 t)) :: []) fun q3 => clD c 15 [v2, (I 141)] l h (fun v3 f3 l3 h3 => jE ((37, v3) :: e3) fun e4 => jF (f3 :: q3) fun q4 => gD Tryd.f24 24 5 4 c (p34 (p2 t (g2 t)) v0) l3 h3 (fun v4 f4 l4 h4 => finD (rgA Tryd.f24 5).toList [] [(0, 3)] (ft0 :: f4 :: q4) (k (p3 t v3) l4 h4)) (sD Tryd.f24 24 5 c 4 none e4 q4 t l3 h3)) (sD Tryd.f24 24 5 c 3 (some 37) e3 q3 t l h))
 .ret) .skip))))
 (.seq (.reg fun c t l h k => bO (ld Pg 30 (g4 t) l h) fun v0 => jn (fun v1 l1 h1 => k (p3 t .nili) l1 h1) fun j1 => sto 30 (g2 t) v0 l h j1 (gn Tryd.f24 24 6 1 c (p38 (p2 t (g2 t)) v0) t l h j1))
 .ret))))
def kp25 : List Nat := [0, 2, 3, 4, 26, 41]
def rc25 : RC := (.seq (.reg fun c t l h k => al Pg 30 2 l fun v0 l0 => k (p3 (p2 t v0) .nili) l0 h)
 (.seq (.reg fun c t l h k => bO (nilC (g0 t)) fun v0 => bO (fa Pg 47 v0 0) fun v1 => bO (ld Pg 9 v1 l h) fun v2 => bO (nilC (g0 t)) fun v3 => bO (fa Pg 47 v3 1) fun v4 => bO (ld Pg 3 v4 l h) fun v5 => bO (nilC (g0 t)) fun v6 => bO (fa Pg 47 v6 1) fun v7 => bO (ld Pg 3 v7 l h) fun v8 => jE ((17, (g0 t)) :: (16, v8) :: (15, v7) :: (14, v6) :: (13, (g0 t)) :: (12, v5) :: (11, v4) :: (10, v3) :: (9, (g0 t)) :: (8, v2) :: (7, v1) :: (6, v0) :: (5, (g0 t)) :: []) fun e9 => jF (ft0 :: (ldF v7) :: ft0 :: ft0 :: ft0 :: (ldF v4) :: ft0 :: ft0 :: ft0 :: (ldF v1) :: ft0 :: ft0 :: ft0 :: []) fun q9 => clD c 34 [(g0 t), (.bool false)] l h (fun v9 f9 l9 h9 => bO (bin Pg .add 3 false v8 v9) fun v10 => bO (slc Pg 9 v2 (some v5) (some v10) none) fun v11 => bO (nilC (g0 t)) fun v12 => bO (fa Pg 47 v12 1) fun v13 => bO (ld Pg 3 v13 l9 h9) fun v14 => jE ((24, v14) :: (23, v13) :: (22, v12) :: (21, (g0 t)) :: (20, v11) :: (19, v10) :: (18, v9) :: e9) fun e15 => jF ((ldF v13) :: ft0 :: ft0 :: ft0 :: ft0 :: ft0 :: f9 :: q9) fun q15 => gD Tryd.f25 25 1 20 c (p24 (p20 t v11) v14) l9 h9 (fun v15 f15 l15 h15 => jE ((25, v15) :: e15) fun e16 => jF (f15 :: q15) fun q16 => gD Tryd.f25 25 1 21 c t l15 h15 (fun v16 f16 l16 h16 => jE ((4, v16) :: e16) fun e17 => jF (f16 :: q16) fun q17 => gD Tryd.f25 25 1 22 c (p25 (p4 t v16) v15) l16 h16 (fun v17 f17 l17 h17 => finD (rgA Tryd.f25 1).toList [(3, 21), (7, 21), (11, 21), (19, 21)] [(3, 13), (7, 13), (11, 13), (13, 19), (3, 21), (7, 21), (11, 21), (13, 21), (19, 21)] (f17 :: q17) (k (p4 t v16) l17 h17)) (sD Tryd.f25 25 1 c 22 none e17 q17 t l16 h16)) (sD Tryd.f25 25 1 c 21 (some 4) e16 q16 t l15 h15)) (sD Tryd.f25 25 1 c 20 (some 25) e15 q15 t l9 h9)) (sD Tryd.f25 25 1 c 13 (some 18) e9 q9 t l h))
 (.seq (.block 0 (.seq (.reg fun c t l h k => bO (fa Pg 30 (g4 t) 1) fun v0 => bO (ld Pg 9 v0 l h) fun v1 => bO (len (Pg.underlying 9) v1) fun v2 => bO (bin Pg .gtr 3 true v2 (I 1)) fun v3 => jn (fun v4 l4 h4 => jn (fun v5 l5 h5 => jn (fun v6 l6 h6 => jn (fun v7 l7 h7 => bO (pick v3 v7 (.bool false)) fun v8 => k (p26 t v8) l7 h7) fun j7 => brB (wv v3 true) (j7 (.tuple []) l6 h6) (bO (bin Pg .eql 5 true v6 (.int .u8 (.ofNat 48))) fun v8 => j7 v8 l6 h6)) fun j6 => brB (wv v3 true) (j6 (.tuple []) l5 h5) (bO (idx Pg 9 v5 (I 0)) fun v7 => j6 v7 l5 h5)) fun j5 => brB (wv v3 true) (j5 (.tuple []) l4 h4) (bO (ld Pg 9 v4 l4 h4) fun v6 => j5 v6 l4 h4)) fun j4 => brB (wv v3 true) (j4 (.tuple []) l h) (bO (fa Pg 30 (g4 t) 1) fun v5 => j4 v5 l h))
 (.cond (.tmp 26) (.seq (.reg fun c t l h k => bO (ld Pg 30 (g4 t) l h) fun v0 => bO (fa Pg 30 (g4 t) 2) fun v1 => bO (ld Pg 3 v1 l h) fun v2 => jE ((39, v2) :: (38, v1) :: (37, v0) :: []) fun e3 => jF ((ldF v1) :: ft0 :: (ldF (g4 t)) :: []) fun q3 => clD c 15 [v2, (I 140)] l h (fun v3 f3 l3 h3 => jE ((40, v3) :: e3) fun e4 => jF (f3 :: q3) fun q4 => gD Tryd.f25 25 3 4 c (p37 (p2 t (g2 t)) v0) l3 h3 (fun v4 f4 l4 h4 => finD (rgA Tryd.f25 3).toList [] [(0, 3)] (ft0 :: f4 :: q4) (k (p3 t v3) l4 h4)) (sD Tryd.f25 25 3 c 4 none e4 q4 t l3 h3)) (sD Tryd.f25 25 3 c 3 (some 40) e3 q3 t l h))
 .ret) (.seq (.reg fun c t l h k => bO (fa Pg 30 (g4 t) 1) fun v0 => bO (ld Pg 9 v0 l h) fun v1 => bO (len (Pg.underlying 9) v1) fun v2 => bO (bin Pg .gtr 3 true v2 (I 400)) fun v3 => k (p41 t v3) l h)
 (.cond (.tmp 41) (.seq (.reg fun c t l h k => bO (ld Pg 30 (g4 t) l h) fun v0 => bO (fa Pg 30 (g4 t) 2) fun v1 => bO (ld Pg 3 v1 l h) fun v2 => jE ((48, v2) :: (47, v1) :: (46, v0) :: []) fun e3 => jF ((ldF v1) :: ft0 :: (ldF (g4 t)) :: []) fun q3 => clD c 15 [v2, (I 141)] l h (fun v3 f3 l3 h3 => jE ((49, v3) :: e3) fun e4 => jF (f3 :: q3) fun q4 => gD Tryd.f25 25 5 4 c (p46 (p2 t (g2 t)) v0) l3 h3 (fun v4 f4 l4 h4 => finD (rgA Tryd.f25 5).toList [] [(0, 3)] (ft0 :: f4 :: q4) (k (p3 t v3) l4 h4)) (sD Tryd.f25 25 5 c 4 none e4 q4 t l3 h3)) (sD Tryd.f25 25 5 c 3 (some 49) e3 q3 t l h))
 .ret) .skip)))))
 (.seq (.reg fun c t l h k => bO (ld Pg 30 (g4 t) l h) fun v0 => jn (fun v1 l1 h1 => k (p3 t .nili) l1 h1) fun j1 => sto 30 (g2 t) v0 l h j1 (gn Tryd.f25 25 6 1 c (p50 (p2 t (g2 t)) v0) t l h j1))
 .ret))))
def kp26 : List Nat := [0, 2, 3, 5, 6, 7, 8, 9, 22]
def rc26 : RC := (.seq (.reg fun c t l h k => al Pg 30 2 l fun v0 l0 => k (p3 (p2 t v0) .nili) l0 h)
 (.seq (.seq (.reg fun c t l h k => cl c 35 [(.str ⟨59, 1577910268380582217003107627590277642536730059551060369529154557448275487073279701438647660762007071948632190336410797691709791328250124713277⟩), (.str ⟨1, 32⟩)] t l h fun v0 l0 h0 => bO (len (Pg.underlying 31) v0) fun v1 => k (p8 (p7 (p6 t v0) v1) (I 0)) l0 h0)
 (.block 0 (.loop (.seq (.reg fun c t l h k => bO (bin Pg .lss 3 false (g8 t) (g7 t)) fun v0 => k (p9 t v0) l h)
 (.seq (.cond (.tmp 9) .skip (.exit 0))
 (.seq (.block 1 (.seq (.reg fun c t l h k => bO (ia Pg 31 (g6 t) (g8 t)) fun v0 => bO (ld Pg 9 v0 l h) fun v1 => k (p5 t v1) l h)
 (.seq (.reg fun c t l h k => bO (nilC (g0 t)) fun v0 => bO (fa Pg 47 v0 0) fun v1 => bO (ld Pg 9 v1 l h) fun v2 => bO (nilC (g0 t)) fun v3 => bO (fa Pg 47 v3 1) fun v4 => bO (ld Pg 3 v4 l h) fun v5 => bO (slc Pg 9 v2 (some v5) none none) fun v6 => jE ((21, (g5 t)) :: (20, v6) :: (19, v5) :: (18, v4) :: (17, v3) :: (16, (g0 t)) :: (15, v2) :: (14, v1) :: (13, v0) :: (12, (g0 t)) :: []) fun e7 => jF (ft0 :: ft0 :: (ldF v4) :: ft0 :: ft0 :: ft0 :: (ldF v1) :: ft0 :: ft0 :: ft0 :: []) fun q7 => clD c 21 [v6, (g5 t)] l h (fun v7 f7 l7 h7 => finD (rgA Tryd.f26 4).toList [] [] (f7 :: q7) (k (p22 t v7) l7 h7)) (sD Tryd.f26 26 4 c 10 (some 22) e7 q7 t l h))
 (.cond (.tmp 22) (.seq (.reg fun c t l h k => bO (nilC (g0 t)) fun v0 => bO (fa Pg 47 v0 1) fun v1 => bO (ld Pg 3 v1 l h) fun v2 => gn Tryd.f26 26 5 5 c (p27 (p23 t (g5 t)) v2) t l h (fun v3 l3 h3 => jn (fun v4 l4 h4 => k (p3 t .nili) l4 h4) fun j4 => sto 30 (g2 t) v3 l3 h3 j4 (gn Tryd.f26 26 5 6 c (p28 (p2 t (g2 t)) v3) t l3 h3 j4)))
 .ret) .skip))))
 (.reg fun c t l h k => bO (bin Pg .add 3 true (g8 t) (I 1)) fun v0 => k (p8 t v0) l h)))))))
 (.seq (.reg fun c t l h k => gn Tryd.f26 26 7 0 c t t l h (fun v0 l0 h0 => bO (nilC (g0 t)) fun v1 => bO (fa Pg 47 v1 1) fun v2 => bO (ld Pg 3 v2 l0 h0) fun v3 => cl c 15 [v3, (I 140)] t l0 h0 fun v4 l4 h4 => jn (fun v5 l5 h5 => k (p3 t v4) l5 h5) fun j5 => sto 30 (g2 t) v0 l4 h4 j5 (gn Tryd.f26 26 7 6 c (p30 (p2 t (g2 t)) v0) t l4 h4 j5)))
 .ret)))
def kp32 : List Nat := [0, 1, 4]
def rc32 : RC := (.seq (.reg fun c t l h k => k (p4 t (.bool false)) l h)
 (.seq (.reg fun c t l h k => bO (len (Pg.underlying 9) (g0 t)) fun v0 => bO (len (Pg.underlying 9) (g1 t)) fun v1 => bO (bin Pg .geq 3 false v0 v1) fun v2 => jn (fun v3 l3 h3 => jn (fun v4 l4 h4 => jn (fun v5 l5 h5 => jn (fun v6 l6 h6 => jn (fun v7 l7 h7 => jn (fun v8 l8 h8 => bO (pick v2 v8 (.bool false)) fun v9 => k (p4 t v9) l8 h8) fun j8 => brB (wv v2 true) (j8 (.tuple []) l7 h7) (bO (bin Pg .eql 9 false v6 v7) fun v9 => j8 v9 l7 h7)) fun j7 => brB (wv v2 true) (j7 (.tuple []) l6 h6) (j7 (g1 t) l6 h6)) fun j6 => brB (wv v2 true) (j6 (.tuple []) l5 h5) (bO (slc Pg 9 v3 none (some v5) none) fun v7 => j6 v7 l5 h5)) fun j5 => brB (wv v2 true) (j5 (.tuple []) l4 h4) (bO (len (Pg.underlying 9) v4) fun v6 => j5 v6 l4 h4)) fun j4 => brB (wv v2 true) (j4 (.tuple []) l3 h3) (j4 (g1 t) l3 h3)) fun j3 => brB (wv v2 true) (j3 (.tuple []) l h) (j3 (g0 t) l h))
 .ret))
def kp33 : List Nat := [0, 1, 4, 5, 12, 27, 50]
def rc33 : RC := (.seq (.reg fun c t l h k => k (p4 t (I 0)) l h)
 (.seq (.block 0 (.seq (.reg fun c t l h k => bO (bin Pg .eql 21 true (g0 t) (.int .i32 (.ofNat 65533))) fun v0 => jn (fun v1 l1 h1 => jn (fun v2 l2 h2 => bO (pick v0 v2 (.bool false)) fun v3 => k (p5 t v3) l2 h2) fun j2 => brB (wv v0 true) (j2 (.tuple []) l1 h1) (bO (bin Pg .eql 3 true v1 (I 1)) fun v3 => j2 v3 l1 h1)) fun j1 => brB (wv v0 true) (j1 (.tuple []) l h) (j1 (g1 t) l h))
 (.cond (.tmp 5) (.seq (.reg fun c t l h k => k (p4 t (I 5)) l h)
 .ret) (.seq (.reg fun c t l h k => bO (bin Pg .eql 21 true (g0 t) (.int .i32 (.ofNat 32))) fun v0 => jn (fun v1 l1 h1 => jn (fun v2 l2 h2 => bO (pick v0 (.bool true) v2) fun v3 => jn (fun v4 l4 h4 => jn (fun v5 l5 h5 => bO (pick v3 (.bool true) v5) fun v6 => jn (fun v7 l7 h7 => jn (fun v8 l8 h8 => bO (pick v6 (.bool true) v8) fun v9 => k (p12 t v9) l8 h8) fun j8 => brB (wv v6 false) (j8 (.tuple []) l7 h7) (bO (bin Pg .eql 21 true v7 (.int .i32 (.ofNat 13))) fun v9 => j8 v9 l7 h7)) fun j7 => brB (wv v6 false) (j7 (.tuple []) l5 h5) (j7 (g0 t) l5 h5)) fun j5 => brB (wv v3 false) (j5 (.tuple []) l4 h4) (bO (bin Pg .eql 21 true v4 (.int .i32 (.ofNat 10))) fun v6 => j5 v6 l4 h4)) fun j4 => brB (wv v3 false) (j4 (.tuple []) l2 h2) (j4 (g0 t) l2 h2)) fun j2 => brB (wv v0 false) (j2 (.tuple []) l1 h1) (bO (bin Pg .eql 21 true v1 (.int .i32 (.ofNat 9))) fun v3 => j2 v3 l1 h1)) fun j1 => brB (wv v0 false) (j1 (.tuple []) l h) (j1 (g0 t) l h))
 (.cond (.tmp 12) (.seq (.reg fun c t l h k => k (p4 t (I 1)) l h)
 .ret) (.seq (.reg fun c t l h k => bO (bin Pg .geq 21 true (g0 t) (.int .i32 (.ofNat 97))) fun v0 => jn (fun v1 l1 h1 => jn (fun v2 l2 h2 => bO (pick v0 v2 (.bool false)) fun v3 => jn (fun v4 l4 h4 => jn (fun v5 l5 h5 => jn (fun v6 l6 h6 => jn (fun v7 l7 h7 => jn (fun v8 l8 h8 => jn (fun v9 l9 h9 => bO (pick v3 (.bool true) v9) fun v10 => jn (fun v11 l11 h11 => jn (fun v12 l12 h12 => bO (pick v10 (.bool true) v12) fun v13 => jn (fun v14 l14 h14 => jn (fun v15 l15 h15 => bO (pick v13 (.bool true) v15) fun v16 => k (p27 t v16) l15 h15) fun j15 => brB (wv v13 false) (j15 (.tuple []) l14 h14) (bO (bin Pg .geq 21 true v14 (.int .i32 (.ofNat 128))) fun v16 => j15 v16 l14 h14)) fun j14 => brB (wv v13 false) (j14 (.tuple []) l12 h12) (j14 (g0 t) l12 h12)) fun j12 => brB (wv v10 false) (j12 (.tuple []) l11 h11) (bO (bin Pg .eql 21 true v11 (.int .i32 (.ofNat 95))) fun v13 => j12 v13 l11 h11)) fun j11 => brB (wv v10 false) (j11 (.tuple []) l9 h9) (j11 (g0 t) l9 h9)) fun j9 => brB (wv v3 false) (j9 (.tuple []) l8 h8) (bO (pick v6 v8 (.bool false)) fun v10 => j9 v10 l8 h8)) fun j8 => brB (wv v6 true) (j8 (.tuple []) l7 h7) (bO (bin Pg .leq 21 true v7 (.int .i32 (.ofNat 90))) fun v9 => j8 v9 l7 h7)) fun j7 => brB (wv v6 true) (j7 (.tuple []) l6 h6) (j7 (g0 t) l6 h6)) fun j6 => brB (wv v3 false) (j6 (.tuple []) l5 h5) (j6 v5 l5 h5)) fun j5 => brB (wv v3 false) (j5 (.tuple []) l4 h4) (bO (bin Pg .geq 21 true v4 (.int .i32 (.ofNat 65))) fun v6 => j5 v6 l4 h4)) fun j4 => brB (wv v3 false) (j4 (.tuple []) l2 h2) (j4 (g0 t) l2 h2)) fun j2 => brB (wv v0 true) (j2 (.tuple []) l1 h1) (bO (bin Pg .leq 21 true v1 (.int .i32 (.ofNat 122))) fun v3 => j2 v3 l1 h1)) fun j1 => brB (wv v0 true) (j1 (.tuple []) l h) (j1 (g0 t) l h))
 (.cond (.tmp 27) (.seq (.reg fun c t l h k => k (p4 t (I 2)) l h)
 .ret) (.seq (.reg fun c t l h k => bO (bin Pg .geq 21 true (g0 t) (.int .i32 (.ofNat 48))) fun v0 => jn (fun v1 l1 h1 => jn (fun v2 l2 h2 => bO (pick v0 v2 (.bool false)) fun v3 => k (p50 t v3) l2 h2) fun j2 => brB (wv v0 true) (j2 (.tuple []) l1 h1) (bO (bin Pg .leq 21 true v1 (.int .i32 (.ofNat 57))) fun v3 => j2 v3 l1 h1)) fun j1 => brB (wv v0 true) (j1 (.tuple []) l h) (j1 (g0 t) l h))
 (.cond (.tmp 50) (.seq (.reg fun c t l h k => k (p4 t (I 3)) l h)
 .ret) .skip)))))))))
 (.seq (.reg fun c t l h k => k (p4 t (I 4)) l h)
 .ret)))
def kp34 : List Nat := [0, 1, 4, 5, 6, 7, 17, 18, 19, 25, 50]
def rc34 : RC := (.seq (.reg fun c t l h k => k (p4 t (I 0)) l h)
 (.seq (.seq (.reg fun c t l h k => bO (nilC (g0 t)) fun v0 => bO (fa Pg 47 v0 0) fun v1 => bO (ld Pg 9 v1 l h) fun v2 => bO (nilC (g0 t)) fun v3 => bO (fa Pg 47 v3 1) fun v4 => bO (ld Pg 3 v4 l h) fun v5 => bO (slc Pg 9 v2 (some v5) none none) fun v6 => jE ((16, v6) :: (15, v5) :: (14, v4) :: (13, v3) :: (12, (g0 t)) :: (11, v2) :: (10, v1) :: (9, v0) :: (8, (g0 t)) :: []) fun e7 => jF (ft0 :: (ldF v4) :: ft0 :: ft0 :: ft0 :: (ldF v1) :: ft0 :: ft0 :: ft0 :: []) fun q7 => gD Tryd.f34 34 1 9 c (p16 t v6) l h (fun v7 f7 l7 h7 => finD (rgA Tryd.f34 1).toList [] [] (f7 :: q7) (k (p17 t v7) l7 h7)) (sD Tryd.f34 34 1 c 9 (some 17) e7 q7 t l h))
 (.block 0 (.loop (.seq (.reg fun c t l h k => gn Tryd.f34 34 2 0 c (p17 t (g17 t)) t l h (fun v0 l0 h0 => bO (ext v0 0) fun v1 => k (p19 (p18 t v0) v1) l0 h0))
 (.seq (.cond (.tmp 19) .skip (.exit 0))
 (.block 1 (.seq (.reg fun c t l h k => bO (ext (g18 t) 1) fun v0 => bO (ext (g18 t) 2) fun v1 => k (p6 (p5 t v0) v1) l h)
 (.seq (.reg fun c t l h k => cl c 33 [(g6 t), (I 2)] t l h fun v0 l0 h0 => k (p7 t v0) l0 h0)
 (.seq (.seq (.reg fun c t l h k => bO (bin Pg .eql 21 true (g6 t) (.int .i32 (.ofNat 65533))) fun v0 => k (p25 t v0) l h)
 (.cond (.tmp 25) (.reg fun c t l h k => bO (nilC (g0 t)) fun v0 => bO (fa Pg 47 v0 0) fun v1 => bO (ld Pg 9 v1 l h) fun v2 => bO (nilC (g0 t)) fun v3 => bO (fa Pg 47 v3 1) fun v4 => bO (ld Pg 3 v4 l h) fun v5 => bO (bin Pg .add 3 false v5 (g5 t)) fun v6 => bO (slc Pg 9 v2 (some v6) none none) fun v7 => jE ((36, v7) :: (35, v6) :: (34, (g5 t)) :: (33, v5) :: (32, v4) :: (31, v3) :: (30, (g0 t)) :: (29, v2) :: (28, v1) :: (27, v0) :: (26, (g0 t)) :: []) fun e8 => jF (ft0 :: ft0 :: ft0 :: (ldF v4) :: ft0 :: ft0 :: ft0 :: (ldF v1) :: ft0 :: ft0 :: ft0 :: []) fun q8 => clD c 31 [v7] l h (fun v8 f8 l8 h8 => bO (ext v8 0) fun v9 => bO (ext v8 1) fun v10 => jE ((39, v10) :: (38, v9) :: (37, v8) :: e8) fun e11 => jF (ft0 :: ft0 :: f8 :: q8) fun q11 => clD c 33 [v9, v10] l8 h8 (fun v11 f11 l11 h11 => finD (rgA Tryd.f34 6).toList [] [] (ft0 :: f11 :: q11) (k (p7 t v11) l11 h11)) (sD Tryd.f34 34 6 c 14 (some 40) e11 q11 t l8 h8)) (sD Tryd.f34 34 6 c 11 (some 37) e8 q8 t l h)) .skip))
 (.seq (.reg fun c t l h k => bO (bin Pg .neq 3 true (g7 t) (I 3)) fun v0 => jn (fun v1 l1 h1 => jn (fun v2 l2 h2 => jn (fun v3 l3 h3 => jn (fun v4 l4 h4 => jn (fun v5 l5 h5 => jn (fun v6 l6 h6 => bO (pick v0 v6 (.bool false)) fun v7 => k (p50 t v7) l6 h6) fun j6 => brB (wv v0 true) (j6 (.tuple []) l5 h5) (bO (pick v3 (.bool true) v5) fun v7 => j6 v7 l5 h5)) fun j5 => brB (wv v3 false) (j5 (.tuple []) l4 h4) (bO (bin Pg .neq 3 true v4 (I 2)) fun v6 => j5 v6 l4 h4)) fun j4 => brB (wv v3 false) (j4 (.tuple []) l3 h3) (j4 (g7 t) l3 h3)) fun j3 => brB (wv v0 true) (j3 (.tuple []) l2 h2) (j3 v2 l2 h2)) fun j2 => brB (wv v0 true) (j2 (.tuple []) l1 h1) (bO (G.un .not v1) fun v3 => j2 v3 l1 h1)) fun j1 => brB (wv v0 true) (j1 (.tuple []) l h) (j1 (g1 t) l h))
 (.cond (.tmp 50) (.seq (.reg fun c t l h k => k (p4 t (g5 t)) l h)
 .ret) .skip)))))))))))
 (.seq (.reg fun c t l h k => bO (nilC (g0 t)) fun v0 => bO (fa Pg 47 v0 0) fun v1 => bO (ld Pg 9 v1 l h) fun v2 => bO (len (Pg.underlying 9) v2) fun v3 => bO (nilC (g0 t)) fun v4 => bO (fa Pg 47 v4 1) fun v5 => bO (ld Pg 3 v5 l h) fun v6 => bO (bin Pg .sub 3 false v3 v6) fun v7 => k (p4 t v7) l h)
 .ret)))
def tblL : List (Nat × Fc) := [(5, ⟨rc5, Tryd.f5.results.toList⟩), (7, ⟨rc7, Tryd.f7.results.toList⟩), (8, ⟨rc8, Tryd.f8.results.toList⟩), (9, ⟨rc9, Tryd.f9.results.toList⟩), (10, ⟨rc10, Tryd.f10.results.toList⟩), (12, ⟨rc12, Tryd.f12.results.toList⟩), (13, ⟨rc13, Tryd.f13.results.toList⟩), (14, ⟨rc14, Tryd.f14.results.toList⟩), (15, ⟨rc15, Tryd.f15.results.toList⟩), (16, ⟨rc16, Tryd.f16.results.toList⟩), (17, ⟨rc17, Tryd.f17.results.toList⟩), (19, ⟨rc19, Tryd.f19.results.toList⟩), (20, ⟨rc20, Tryd.f20.results.toList⟩), (21, ⟨rc21, Tryd.f21.results.toList⟩), (22, ⟨rc22, Tryd.f22.results.toList⟩), (23, ⟨rc23, Tryd.f23.results.toList⟩), (24, ⟨rc24, Tryd.f24.results.toList⟩), (25, ⟨rc25, Tryd.f25.results.toList⟩), (26, ⟨rc26, Tryd.f26.results.toList⟩), (32, ⟨rc32, Tryd.f32.results.toList⟩), (33, ⟨rc33, Tryd.f33.results.toList⟩), (34, ⟨rc34, Tryd.f34.results.toList⟩)]
def tbl (f : Nat) : Option Fc := lkL tblL f
end
end Go.AM.S
end

section
namespace Go.AM.S
open Go Go.AM Go.Proofs
set_option maxRecDepth 100000
theorem ok5 : FOk Pg Cg 5 ⟨rc5, Tryd.f5.results.toList⟩ := fok (kp := kp5) rfl Tryd.func5 (by kernel_rfl) (by kernel_rfl) (by kernel_rfl)
theorem ok10 : FOk Pg Cg 10 ⟨rc10, Tryd.f10.results.toList⟩ := fok (kp := kp10) rfl Tryd.func10 (by kernel_rfl) (by kernel_rfl) (by kernel_rfl)
theorem ok15 : FOk Pg Cg 15 ⟨rc15, Tryd.f15.results.toList⟩ := fok (kp := kp15) rfl Tryd.func15 (by kernel_rfl) (by kernel_rfl) (by kernel_rfl)
theorem ok20 : FOk Pg Cg 20 ⟨rc20, Tryd.f20.results.toList⟩ := fok (kp := kp20) rfl Tryd.func20 (by kernel_rfl) (by kernel_rfl) (by kernel_rfl)
theorem ok24 : FOk Pg Cg 24 ⟨rc24, Tryd.f24.results.toList⟩ := fok (kp := kp24) rfl Tryd.func24 (by kernel_rfl) (by kernel_rfl) (by kernel_rfl)
theorem ok33 : FOk Pg Cg 33 ⟨rc33, Tryd.f33.results.toList⟩ := fok (kp := kp33) rfl Tryd.func33 (by kernel_rfl) (by kernel_rfl) (by kernel_rfl)
end Go.AM.S
end

section
namespace Go.AM.S
open Go Go.AM Go.Proofs
set_option maxRecDepth 100000
theorem ok7 : FOk Pg Cg 7 ⟨rc7, Tryd.f7.results.toList⟩ := fok (kp := kp7) rfl Tryd.func7 (by kernel_rfl) (by kernel_rfl) (by kernel_rfl)
theorem ok12 : FOk Pg Cg 12 ⟨rc12, Tryd.f12.results.toList⟩ := fok (kp := kp12) rfl Tryd.func12 (by kernel_rfl) (by kernel_rfl) (by kernel_rfl)
theorem ok16 : FOk Pg Cg 16 ⟨rc16, Tryd.f16.results.toList⟩ := fok (kp := kp16) rfl Tryd.func16 (by kernel_rfl) (by kernel_rfl) (by kernel_rfl)
theorem ok21 : FOk Pg Cg 21 ⟨rc21, Tryd.f21.results.toList⟩ := fok (kp := kp21) rfl Tryd.func21 (by kernel_rfl) (by kernel_rfl) (by kernel_rfl)
theorem ok25 : FOk Pg Cg 25 ⟨rc25, Tryd.f25.results.toList⟩ := fok (kp := kp25) rfl Tryd.func25 (by kernel_rfl) (by kernel_rfl) (by kernel_rfl)
theorem ok34 : FOk Pg Cg 34 ⟨rc34, Tryd.f34.results.toList⟩ := fok (kp := kp34) rfl Tryd.func34 (by kernel_rfl) (by kernel_rfl) (by kernel_rfl)
end Go.AM.S
end

section
namespace Go.AM.S
open Go Go.AM Go.Proofs
set_option maxRecDepth 100000
theorem ok8 : FOk Pg Cg 8 ⟨rc8, Tryd.f8.results.toList⟩ := fok (kp := kp8) rfl Tryd.func8 (by kernel_rfl) (by kernel_rfl) (by kernel_rfl)
theorem ok13 : FOk Pg Cg 13 ⟨rc13, Tryd.f13.results.toList⟩ := fok (kp := kp13) rfl Tryd.func13 (by kernel_rfl) (by kernel_rfl) (by kernel_rfl)
theorem ok17 : FOk Pg Cg 17 ⟨rc17, Tryd.f17.results.toList⟩ := fok (kp := kp17) rfl Tryd.func17 (by kernel_rfl) (by kernel_rfl) (by kernel_rfl)
theorem ok22 : FOk Pg Cg 22 ⟨rc22, Tryd.f22.results.toList⟩ := fok (kp := kp22) rfl Tryd.func22 (by kernel_rfl) (by kernel_rfl) (by kernel_rfl)
theorem ok26 : FOk Pg Cg 26 ⟨rc26, Tryd.f26.results.toList⟩ := fok (kp := kp26) rfl Tryd.func26 (by kernel_rfl) (by kernel_rfl) (by kernel_rfl)
end Go.AM.S
end

section
namespace Go.AM.S
open Go Go.AM Go.Proofs
set_option maxRecDepth 100000
theorem ok9 : FOk Pg Cg 9 ⟨rc9, Tryd.f9.results.toList⟩ := fok (kp := kp9) rfl Tryd.func9 (by kernel_rfl) (by kernel_rfl) (by kernel_rfl)
theorem ok14 : FOk Pg Cg 14 ⟨rc14, Tryd.f14.results.toList⟩ := fok (kp := kp14) rfl Tryd.func14 (by kernel_rfl) (by kernel_rfl) (by kernel_rfl)
theorem ok19 : FOk Pg Cg 19 ⟨rc19, Tryd.f19.results.toList⟩ := fok (kp := kp19) rfl Tryd.func19 (by kernel_rfl) (by kernel_rfl) (by kernel_rfl)
theorem ok23 : FOk Pg Cg 23 ⟨rc23, Tryd.f23.results.toList⟩ := fok (kp := kp23) rfl Tryd.func23 (by kernel_rfl) (by kernel_rfl) (by kernel_rfl)
theorem ok32 : FOk Pg Cg 32 ⟨rc32, Tryd.f32.results.toList⟩ := fok (kp := kp32) rfl Tryd.func32 (by kernel_rfl) (by kernel_rfl) (by kernel_rfl)
end Go.AM.S
end

section
namespace Go.AM.S
open Go Go.AM Go.Proofs
set_option maxRecDepth 100000
theorem tbl_ok : ∀ p ∈ tblL, FOk Pg Cg p.1 p.2 := by
 unfold tblL
 simp only [List.forall_mem_cons, List.not_mem_nil, false_imp_iff, implies_true, and_true]
 exact ⟨ok5, ok7, ok8, ok9, ok10, ok12, ok13, ok14, ok15, ok16, ok17, ok19, ok20, ok21, ok22, ok23, ok24, ok25, ok26, ok32, ok33, ok34⟩
theorem use_ok : tblL.map (·.1) = cUse := rfl
theorem seat_eq (kn : Kn) (n : Nat) : S.fn Pg kn tbl n = fnV Pg Cg kn n := by
 refine fn_eq (fun f fc h => ⟨?_, ?_⟩) (fun f h => ?_) n
 ·have := lkL_mem h
  show cUse.contains f = true
  rw [← use_ok, List.contains_iff_mem]
  exact List.mem_map.2 ⟨(f, fc), this, rfl⟩
 ·exact tbl_ok _ (lkL_mem h)
 ·have := lkL_none h
  show cUse.contains f = false
  rw [← use_ok]
  cases hb : (tblL.map (·.1)).contains f with
  | false => rfl
  | true => exact absurd (List.contains_iff_mem.1 hb) this
end Go.AM.S
end

section
namespace Go.AM.S
open Go Go.AM Go.Proofs
set_option maxRecDepth 100000
theorem prog_ok : progOk Pg Cg = true := by kernel_rfl
end Go.AM.S
end
