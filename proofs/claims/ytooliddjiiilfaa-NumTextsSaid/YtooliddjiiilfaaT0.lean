/- Part T0 of the proof: what it says stands at its theorems. -/
import Derived.Test.YtooliddjiiilfaaProg
import Derived.Test.YtooliddjiiilfaaAm3
import Derived.KernelRfl
set_option linter.unusedVariables false
set_option linter.unusedSimpArgs false
set_option linter.unusedSectionVars false
section
/- The functions of a seat as closures. Printed by mkT.py. -/
namespace Go.AM.S
open _root_.Go.AM.G (R)
open Go Go.AM Go.Proofs
set_option maxRecDepth 100000
noncomputable abbrev Pg : Program := Try.prog
def lkD {α : Type} (d : α) (l : List (Nat × α)) (i : Nat) : α := (lkL l i).getD d
def cArr : List Nat := [51, 24]
def cUse : List Nat := [3, 13, 14, 15, 16, 17, 18, 19, 20, 21, 22, 23, 25, 26, 27, 28, 31, 32, 34, 36, 37, 64, 65, 66, 67, 68, 69, 71, 72, 73, 74, 75, 76, 78, 83, 84, 85, 86, 87, 89]
def cGlob : List (Nat × List Nat) := [(18, [65, 85]), (64, [36]), (68, [7]), (85, [12])]
def cPairs : List (Nat × List (Nat × List (Nat × Nat))) := [(37, [(2, [(1, 2)]), (13, [(1, 2)])])]
def cPairsH : List (Nat × List (Nat × List (Nat × Nat))) := [(17, [(1, [(1, 2)])]), (20, [(1, [(0, 1), (5, 6)])]), (25, [(2, [(4, 6)]), (4, [(4, 6)]), (5, [(4, 6)])]), (26, [(2, [(1, 6)]), (4, [(1, 6)]), (5, [(1, 6)])]), (27, [(1, [(0, 2)])]), (28, [(1, [(0, 2)])]), (37, [(2, [(1, 2)]), (8, [(2, 3)]), (13, [(1, 2)])])]
def Cg : Cfg := { isArr := fun t => cArr.contains t, use := fun f => cUse.contains f, glob := fun f t => (lkD [] cGlob f).contains t, pairs := fun f i => lkD [] (lkD [] cPairs f) i, pairsH := fun f i => lkD [] (lkD [] cPairsH f) i }
noncomputable section
def I (n : Nat) : V := .int .i64 (.ofNat n)
def gl (f : Tm → V) (tm : Tm) : V := Tr.rec (motive := fun _ => V) .dead (fun _ l _ _ _ => f l) tm
def gr (f : Tm → V) (tm : Tm) : V := Tr.rec (motive := fun _ => V) .dead (fun _ _ r _ _ => f r) tm
def pl (f : Tm → V → Tm) (tm : Tm) (w : V) : Tm := Tr.rec (motive := fun _ => Tm) (.nd none (f .lf w) .lf) (fun v l r _ _ => .nd v (f l w) r) tm
def pr (f : Tm → V → Tm) (tm : Tm) (w : V) : Tm := Tr.rec (motive := fun _ => Tm) (.nd none .lf (f .lf w)) (fun v l r _ _ => .nd v l (f r w)) tm
def gn (F : Func) (f id i : Nat) (call : CallF) := gen Pg Cg call (Cg.glob f) (opA F id i)
def gD (F : Func) (f id i : Nat) (call : CallF) := genD Pg Cg call (Cg.glob f) (opA F id i)
def sD (F : Func) (f id : Nat) (call : CallF) := stopD Pg Cg call (Cg.glob f) (rgA F id) (Cg.pairs f id) (Cg.pairsH f id)
def sto (t : Nat) (a x : V) (loc : Lo) (hp : Hp) (j : V → Lo → Hp → R) (slow : R) : R := G.onPtr a (fun r off => G.onRef r (fun s g => stL Pg t s g off x loc (fun loc => j (.tuple []) loc hp)) (fun _ => slow)) (fun _ => none) none
def jE (c : List (Nat × V)) (f : List (Nat × V) → R) : R := f c
def jF (c : List Foot) (f : List Foot → R) : R := f c
def g0 (tm : Tm) : V := Tr.rec (motive := fun _ => V) .dead (fun v _ _ _ _ => Option.rec (motive := fun _ => V) .dead (fun a => a) v) tm
def g1 : Tm → V := gl g0
def g2 : Tm → V := gr g0
def g3 : Tm → V := gl g1
def g4 : Tm → V := gr g1
def g5 : Tm → V := gl g2
def g6 : Tm → V := gr g2
def g7 : Tm → V := gl g3
def g8 : Tm → V := gr g3
def g9 : Tm → V := gl g4
def g10 : Tm → V := gr g4
def g11 : Tm → V := gl g5
def g12 : Tm → V := gr g5
def g13 : Tm → V := gl g6
def g14 : Tm → V := gr g6
def g15 : Tm → V := gl g7
def g16 : Tm → V := gr g7
def g17 : Tm → V := gl g8
def g20 : Tm → V := gr g9
def g28 : Tm → V := gr g13
def g34 : Tm → V := gr g16
def g35 : Tm → V := gl g17
def g41 : Tm → V := gl g20
def g42 : Tm → V := gr g20
def g57 : Tm → V := gl g28
def g70 : Tm → V := gr g34
def g71 : Tm → V := gl g35
def p0 (tm : Tm) (w : V) : Tm := Tr.rec (motive := fun _ => Tm) (.nd (some w) .lf .lf) (fun _ l r _ _ => .nd (some w) l r) tm
def p1 : Tm → V → Tm := pl p0
def p2 : Tm → V → Tm := pr p0
def p3 : Tm → V → Tm := pl p1
def p4 : Tm → V → Tm := pr p1
def p5 : Tm → V → Tm := pl p2
def p6 : Tm → V → Tm := pr p2
def p7 : Tm → V → Tm := pl p3
def p8 : Tm → V → Tm := pr p3
def p9 : Tm → V → Tm := pl p4
def p10 : Tm → V → Tm := pr p4
def p11 : Tm → V → Tm := pl p5
def p12 : Tm → V → Tm := pr p5
def p13 : Tm → V → Tm := pl p6
def p14 : Tm → V → Tm := pr p6
def p15 : Tm → V → Tm := pl p7
def p16 : Tm → V → Tm := pr p7
def p17 : Tm → V → Tm := pl p8
def p18 : Tm → V → Tm := pr p8
def p19 : Tm → V → Tm := pl p9
def p20 : Tm → V → Tm := pr p9
def p21 : Tm → V → Tm := pl p10
def p22 : Tm → V → Tm := pr p10
def p23 : Tm → V → Tm := pl p11
def p24 : Tm → V → Tm := pr p11
def p25 : Tm → V → Tm := pl p12
def p26 : Tm → V → Tm := pr p12
def p27 : Tm → V → Tm := pl p13
def p28 : Tm → V → Tm := pr p13
def p29 : Tm → V → Tm := pl p14
def p30 : Tm → V → Tm := pr p14
def p31 : Tm → V → Tm := pl p15
def p32 : Tm → V → Tm := pr p15
def p33 : Tm → V → Tm := pl p16
def p34 : Tm → V → Tm := pr p16
def p35 : Tm → V → Tm := pl p17
def p36 : Tm → V → Tm := pr p17
def p37 : Tm → V → Tm := pl p18
def p38 : Tm → V → Tm := pr p18
def p39 : Tm → V → Tm := pl p19
def p40 : Tm → V → Tm := pr p19
def p41 : Tm → V → Tm := pl p20
def p42 : Tm → V → Tm := pr p20
def p43 : Tm → V → Tm := pl p21
def p44 : Tm → V → Tm := pr p21
def p45 : Tm → V → Tm := pl p22
def p46 : Tm → V → Tm := pr p22
def p47 : Tm → V → Tm := pl p23
def p48 : Tm → V → Tm := pr p23
def p50 : Tm → V → Tm := pr p24
def p51 : Tm → V → Tm := pl p25
def p52 : Tm → V → Tm := pr p25
def p53 : Tm → V → Tm := pl p26
def p54 : Tm → V → Tm := pr p26
def p55 : Tm → V → Tm := pl p27
def p56 : Tm → V → Tm := pr p27
def p57 : Tm → V → Tm := pl p28
def p58 : Tm → V → Tm := pr p28
def p59 : Tm → V → Tm := pl p29
def p60 : Tm → V → Tm := pr p29
def p62 : Tm → V → Tm := pr p30
def p63 : Tm → V → Tm := pl p31
def p64 : Tm → V → Tm := pr p31
def p65 : Tm → V → Tm := pl p32
def p66 : Tm → V → Tm := pr p32
def p69 : Tm → V → Tm := pl p34
def p70 : Tm → V → Tm := pr p34
def p71 : Tm → V → Tm := pl p35
def p72 : Tm → V → Tm := pr p35
def p75 : Tm → V → Tm := pl p37
def p76 : Tm → V → Tm := pr p37
def p77 : Tm → V → Tm := pl p38
def p78 : Tm → V → Tm := pr p38
def p79 : Tm → V → Tm := pl p39
def p82 : Tm → V → Tm := pr p40
def p83 : Tm → V → Tm := pl p41
def p84 : Tm → V → Tm := pr p41
def p88 : Tm → V → Tm := pr p43
def p97 : Tm → V → Tm := pl p48
def p105 : Tm → V → Tm := pl p52
def p112 : Tm → V → Tm := pr p55
def p126 : Tm → V → Tm := pr p62
def p131 : Tm → V → Tm := pl p65
def p132 : Tm → V → Tm := pr p65
def p133 : Tm → V → Tm := pl p66
def kp3 : List Nat := [0, 1, 4, 5, 6, 7, 8, 9, 10, 11, 12, 13, 14, 16, 20, 48]
def rc3 : RC := (.seq (.reg fun c t l h k => k (p4 t (.bool false)) l h)
 (.seq (.seq (.reg fun c t l h k => cl c 13 [] t l h fun v0 l0 h0 => bO (G.un .not v0) fun v1 => k (p16 t v1) l0 h0)
 (.cond (.tmp 16) (.seq (.reg fun c t l h k => k (p4 t (.bool false)) l h)
 .ret) .skip))
 (.seq (.seq (.reg fun c t l h k => bO (bs Pg 79 1 [(0, (g0 t))]) fun v0 => cl c 14 [v0] t l h fun v1 l1 h1 => bO (G.un .not v1) fun v2 => k (p20 t v2) l1 h1)
 (.cond (.tmp 20) (.seq (.reg fun c t l h k => k (p4 t (.bool true)) l h)
 .ret) .skip))
 (.seq (.reg fun c t l h k => cl c 15 [(g0 t)] t l h fun v0 l0 h0 => bO (ext v0 0) fun v1 => bO (ext v0 1) fun v2 => al Pg 26 5 l0 fun v3 l3 => jn (fun v4 l4 h4 => k (p6 (p5 t v3) v2) l4 h4) fun j4 => sto 26 v3 v1 l3 h0 j4 (gn Try.f3 3 5 6 c (p24 (p5 t v3) v1) t l3 h0 j4))
 (.seq (.reg fun c t l h k => cl c 16 [(g0 t)] t l h fun v0 l0 h0 => bO (ext v0 0) fun v1 => bO (ext v0 1) fun v2 => al Pg 31 7 l0 fun v3 l3 => jn (fun v4 l4 h4 => k (p8 (p7 t v3) v2) l4 h4) fun j4 => sto 31 v3 v1 l3 h0 j4 (gn Try.f3 3 6 6 c (p29 (p7 t v3) v1) t l3 h0 j4))
 (.seq (.seq (.reg fun c t l h k => bO (bin Pg .neq 4 false (g6 t) (g8 t)) fun v0 => jn (fun v1 l1 h1 => jn (fun v2 l2 h2 => jn (fun v3 l3 h3 => jn (fun v4 l4 h4 => bO (pick v0 (.bool true) v4) fun v5 => jn (fun v6 l6 h6 => jn (fun v7 l7 h7 => jn (fun v8 l8 h8 => jn (fun v9 l9 h9 => jn (fun v10 l10 h10 => jn (fun v11 l11 h11 => jn (fun v12 l12 h12 => bO (pick v5 (.bool true) v12) fun v13 => k (p48 t v13) l12 h12) fun j12 => brB (wv v5 false) (j12 (.tuple []) l11 h11) (bO (pick v7 v11 (.bool false)) fun v13 => j12 v13 l11 h11)) fun j11 => brB (wv v7 true) (j11 (.tuple []) l10 h10) (bO (bin Pg .neq 9 false v9 v10) fun v12 => j11 v12 l10 h10)) fun j10 => brB (wv v7 true) (j10 (.tuple []) l9 h9) (j10 (g0 t) l9 h9)) fun j9 => brB (wv v7 true) (j9 (.tuple []) l8 h8) (cl c 18 [v8] t l8 h8 fun v10 l10 h10 => j9 v10 l10 h10)) fun j8 => brB (wv v7 true) (j8 (.tuple []) l7 h7) (bO (ld Pg 26 (g5 t) l7 h7) fun v9 => j8 v9 l7 h7)) fun j7 => brB (wv v5 false) (j7 (.tuple []) l6 h6) (j7 v6 l6 h6)) fun j6 => brB (wv v5 false) (j6 (.tuple []) l4 h4) (j6 (g6 t) l4 h4)) fun j4 => brB (wv v0 false) (j4 (.tuple []) l3 h3) (bO (G.un .not v3) fun v5 => j4 v5 l3 h3)) fun j3 => brB (wv v0 false) (j3 (.tuple []) l2 h2) (cl c 17 [v1, v2] t l2 h2 fun v4 l4 h4 => j3 v4 l4 h4)) fun j2 => brB (wv v0 false) (j2 (.tuple []) l1 h1) (bO (ld Pg 31 (g7 t) l1 h1) fun v3 => j2 v3 l1 h1)) fun j1 => brB (wv v0 false) (j1 (.tuple []) l h) (bO (ld Pg 26 (g5 t) l h) fun v2 => j1 v2 l h))
 (.cond (.tmp 48) (.seq (.reg fun c t l h k => k (p4 t (.bool false)) l h)
 .ret) .skip))
 (.seq (.reg fun c t l h k => bO (ld Pg 26 (g5 t) l h) fun v0 => cl c 19 [v0] t l h fun v1 l1 h1 => bO (ext v1 0) fun v2 => bO (ext v1 1) fun v3 => k (p10 (p9 t v2) v3) l1 h1)
 (.seq (.reg fun c t l h k => bO (ld Pg 31 (g7 t) l h) fun v0 => cl c 20 [v0] t l h fun v1 l1 h1 => bO (ext v1 0) fun v2 => bO (ext v1 1) fun v3 => k (p12 (p11 t v2) v3) l1 h1)
 (.seq (.reg fun c t l h k => cl c 21 [(g1 t)] t l h fun v0 l0 h0 => cl c 19 [v0] t l0 h0 fun v1 l1 h1 => bO (ext v1 0) fun v2 => bO (ext v1 1) fun v3 => k (p14 (p13 t v2) v3) l1 h1)
 (.seq (.reg fun c t l h k => bO (bin Pg .eql 2 false (g9 t) (g11 t)) fun v0 => jn (fun v1 l1 h1 => jn (fun v2 l2 h2 => jn (fun v3 l3 h3 => bO (pick v0 v3 (.bool false)) fun v4 => jn (fun v5 l5 h5 => jn (fun v6 l6 h6 => jn (fun v7 l7 h7 => bO (pick v4 v7 (.bool false)) fun v8 => jn (fun v9 l9 h9 => bO (pick v8 v9 (.bool false)) fun v10 => jn (fun v11 l11 h11 => jn (fun v12 l12 h12 => jn (fun v13 l13 h13 => jn (fun v14 l14 h14 => jn (fun v15 l15 h15 => jn (fun v16 l16 h16 => jn (fun v17 l17 h17 => bO (pick v10 v17 (.bool false)) fun v18 => k (p4 t v18) l17 h17) fun j17 => brB (wv v10 true) (j17 (.tuple []) l16 h16) (bO (bin Pg .eql 9 false v13 v16) fun v18 => j17 v18 l16 h16)) fun j16 => brB (wv v10 true) (j16 (.tuple []) l15 h15) (cl c 23 [v15] t l15 h15 fun v17 l17 h17 => j16 v17 l17 h17)) fun j15 => brB (wv v10 true) (j15 (.tuple []) l14 h14) (cl c 22 [v14] t l14 h14 fun v16 l16 h16 => j15 v16 l16 h16)) fun j14 => brB (wv v10 true) (j14 (.tuple []) l13 h13) (j14 (g1 t) l13 h13)) fun j13 => brB (wv v10 true) (j13 (.tuple []) l12 h12) (cl c 18 [v12] t l12 h12 fun v14 l14 h14 => j13 v14 l14 h14)) fun j12 => brB (wv v10 true) (j12 (.tuple []) l11 h11) (cl c 21 [v11] t l11 h11 fun v13 l13 h13 => j12 v13 l13 h13)) fun j11 => brB (wv v10 true) (j11 (.tuple []) l9 h9) (j11 (g1 t) l9 h9)) fun j9 => brB (wv v8 true) (j9 (.tuple []) l7 h7) (j9 (g14 t) l7 h7)) fun j7 => brB (wv v4 true) (j7 (.tuple []) l6 h6) (bO (bin Pg .eql 2 false v5 v6) fun v8 => j7 v8 l6 h6)) fun j6 => brB (wv v4 true) (j6 (.tuple []) l5 h5) (j6 (g1 t) l5 h5)) fun j5 => brB (wv v4 true) (j5 (.tuple []) l3 h3) (j5 (g13 t) l3 h3)) fun j3 => brB (wv v0 true) (j3 (.tuple []) l2 h2) (bO (bin Pg .eql 4 false v1 v2) fun v4 => j3 v4 l2 h2)) fun j2 => brB (wv v0 true) (j2 (.tuple []) l1 h1) (j2 (g12 t) l1 h1)) fun j1 => brB (wv v0 true) (j1 (.tuple []) l h) (j1 (g10 t) l h))
 .ret))))))))))
def kp13 : List Nat := [0, 1, 2, 3, 4, 6, 7]
def rc13 : RC := (.seq (.reg fun c t l h k => k (p0 t (.bool false)) l h)
 (.seq (.reg fun c t l h k => cl c 21 [(.int .i64 (.negSucc 6))] t l h fun v0 l0 h0 => cl c 21 [(I 2)] t l0 h0 fun v1 l1 h1 => cl c 37 [v0, v1] t l1 h1 fun v2 l2 h2 => bO (ext v2 0) fun v3 => bO (ext v2 1) fun v4 => al Pg 26 1 l2 fun v5 l5 => al Pg 26 2 l5 fun v6 l6 => jn (fun v7 l7 h7 => jn (fun v8 l8 h8 => k (p2 (p1 t v5) v6) l8 h8) fun j8 => sto 26 v6 v4 l7 h7 j8 (gn Try.f13 13 1 9 c (p13 (p2 t v6) v4) t l7 h7 j8)) fun j7 => sto 26 v5 v3 l6 h2 j7 (gn Try.f13 13 1 8 c (p12 (p1 t v5) v3) t l6 h2 j7))
 (.seq (.reg fun c t l h k => cl c 21 [(.int .i64 (.negSucc 6))] t l h fun v0 l0 h0 => cl c 21 [(.int .i64 (.negSucc 1))] t l0 h0 fun v1 l1 h1 => cl c 37 [v0, v1] t l1 h1 fun v2 l2 h2 => bO (ext v2 0) fun v3 => bO (ext v2 1) fun v4 => al Pg 26 3 l2 fun v5 l5 => al Pg 26 4 l5 fun v6 l6 => jn (fun v7 l7 h7 => jn (fun v8 l8 h8 => k (p4 (p3 t v5) v6) l8 h8) fun j8 => sto 26 v6 v4 l7 h7 j8 (gn Try.f13 13 2 9 c (p19 (p4 t v6) v4) t l7 h7 j8)) fun j7 => sto 26 v5 v3 l6 h2 j7 (gn Try.f13 13 2 8 c (p18 (p3 t v5) v3) t l6 h2 j7))
 (.seq (.reg fun c t l h k => cl c 15 [(.str ⟨2, 12333⟩)] t l h fun v0 l0 h0 => bO (ext v0 0) fun v1 => bO (ext v0 1) fun v2 => al Pg 26 5 l0 fun v3 l3 => jn (fun v4 l4 h4 => k (p6 t v2) l4 h4) fun j4 => sto 26 v3 v1 l3 h0 j4 (gn Try.f13 13 3 5 c (p22 (p5 t v3) v1) t l3 h0 j4))
 (.seq (.reg fun c t l h k => al Pg 26 7 l fun v0 l0 => k (p7 t v0) l0 h)
 (.seq (.reg fun c t l h k => bO (ld Pg 26 (g1 t) l h) fun v0 => cl c 18 [v0] t l h fun v1 l1 h1 => bO (bin Pg .eql 9 true v1 (.str ⟨2, 13357⟩)) fun v2 => jn (fun v3 l3 h3 => jn (fun v4 l4 h4 => jn (fun v5 l5 h5 => bO (pick v2 v5 (.bool false)) fun v6 => jn (fun v7 l7 h7 => jn (fun v8 l8 h8 => jn (fun v9 l9 h9 => bO (pick v6 v9 (.bool false)) fun v10 => jn (fun v11 l11 h11 => jn (fun v12 l12 h12 => jn (fun v13 l13 h13 => bO (pick v10 v13 (.bool false)) fun v14 => jn (fun v15 l15 h15 => jn (fun v16 l16 h16 => bO (pick v14 v16 (.bool false)) fun v17 => jn (fun v18 l18 h18 => jn (fun v19 l19 h19 => jn (fun v20 l20 h20 => bO (pick v17 v20 (.bool false)) fun v21 => k (p0 t v21) l20 h20) fun j20 => brB (wv v17 true) (j20 (.tuple []) l19 h19) (bO (bin Pg .eql 9 true v19 (.str ⟨1, 48⟩)) fun v21 => j20 v21 l19 h19)) fun j19 => brB (wv v17 true) (j19 (.tuple []) l18 h18) (cl c 18 [v18] t l18 h18 fun v20 l20 h20 => j19 v20 l20 h20)) fun j18 => brB (wv v17 true) (j18 (.tuple []) l16 h16) (bO (ld Pg 26 (g7 t) l16 h16) fun v19 => j18 v19 l16 h16)) fun j16 => brB (wv v14 true) (j16 (.tuple []) l15 h15) (bO (G.un .not v15) fun v17 => j16 v17 l15 h15)) fun j15 => brB (wv v14 true) (j15 (.tuple []) l13 h13) (j15 (g6 t) l13 h13)) fun j13 => brB (wv v10 true) (j13 (.tuple []) l12 h12) (bO (bin Pg .eql 9 true v12 (.str ⟨1, 49⟩)) fun v14 => j13 v14 l12 h12)) fun j12 => brB (wv v10 true) (j12 (.tuple []) l11 h11) (cl c 18 [v11] t l11 h11 fun v13 l13 h13 => j12 v13 l13 h13)) fun j11 => brB (wv v10 true) (j11 (.tuple []) l9 h9) (bO (ld Pg 26 (g4 t) l9 h9) fun v12 => j11 v12 l9 h9)) fun j9 => brB (wv v6 true) (j9 (.tuple []) l8 h8) (bO (bin Pg .eql 9 true v8 (.str ⟨1, 52⟩)) fun v10 => j9 v10 l8 h8)) fun j8 => brB (wv v6 true) (j8 (.tuple []) l7 h7) (cl c 18 [v7] t l7 h7 fun v9 l9 h9 => j8 v9 l9 h9)) fun j7 => brB (wv v6 true) (j7 (.tuple []) l5 h5) (bO (ld Pg 26 (g3 t) l5 h5) fun v8 => j7 v8 l5 h5)) fun j5 => brB (wv v2 true) (j5 (.tuple []) l4 h4) (bO (bin Pg .eql 9 true v4 (.str ⟨1, 49⟩)) fun v6 => j5 v6 l4 h4)) fun j4 => brB (wv v2 true) (j4 (.tuple []) l3 h3) (cl c 18 [v3] t l3 h3 fun v5 l5 h5 => j4 v5 l5 h5)) fun j3 => brB (wv v2 true) (j3 (.tuple []) l1 h1) (bO (ld Pg 26 (g2 t) l1 h1) fun v4 => j3 v4 l1 h1))
 .ret))))))
def kp14 : List Nat := [0, 2, 3, 7, 15]
def rc14 : RC := (.seq (.reg fun c t l h k => k (p2 t (.bool false)) l h)
 (.seq (.seq (.reg fun c t l h k => k (p3 t (I 0)) l h)
 (.block 0 (.loop (.seq (.seq (.reg fun c t l h k => bO (len (Pg.underlying 79) (g0 t)) fun v0 => bO (bin Pg .lss 3 false (g3 t) v0) fun v1 => k (p7 t v1) l h)
 (.cond (.tmp 7) .skip (.exit 0)))
 (.seq (.block 1 (.seq (.reg fun c t l h k => bO (ia Pg 79 (g0 t) (g3 t)) fun v0 => bO (ld Pg 9 v0 l h) fun v1 => bO (len (Pg.underlying 9) v1) fun v2 => bO (bin Pg .gtr 3 true v2 (I 300)) fun v3 => k (p15 t v3) l h)
 (.cond (.tmp 15) (.seq (.reg fun c t l h k => k (p2 t (.bool false)) l h)
 .ret) .skip)))
 (.reg fun c t l h k => bO (bin Pg .add 3 true (g3 t) (I 1)) fun v0 => k (p3 t v0) l h))))))
 (.seq (.reg fun c t l h k => k (p2 t (.bool true)) l h)
 .ret)))
def kp15 : List Nat := [0, 2, 3, 4, 5, 6, 7, 8, 9, 10, 11, 21, 38, 41, 42, 43, 51, 69, 70, 71, 72]
def rc15 : RC := (.seq (.reg fun c t l h k => al Pg 26 2 l fun v0 l0 => k (p3 (p2 t v0) (.bool false)) l0 h)
 (.seq (.reg fun c t l h k => bO (len (Pg.underlying 9) (g0 t)) fun v0 => bO (bin Pg .gtr 3 true v0 (I 0)) fun v1 => jn (fun v2 l2 h2 => jn (fun v3 l3 h3 => jn (fun v4 l4 h4 => bO (pick v1 v4 (.bool false)) fun v5 => k (p4 t v5) l4 h4) fun j4 => brB (wv v1 true) (j4 (.tuple []) l3 h3) (bO (bin Pg .eql 5 true v3 (.int .u8 (.ofNat 45))) fun v5 => j4 v5 l3 h3)) fun j3 => brB (wv v1 true) (j3 (.tuple []) l2 h2) (bO (idx Pg 9 v2 (I 0)) fun v4 => j3 v4 l2 h2)) fun j2 => brB (wv v1 true) (j2 (.tuple []) l h) (j2 (g0 t) l h))
 (.seq (.reg fun c t l h k => k (p5 t (g0 t)) l h)
 (.seq (.seq (.reg fun c t l h k => k (p21 t (g4 t)) l h)
 (.cond (.tmp 21) (.reg fun c t l h k => bO (slc Pg 9 (g0 t) (some (I 1)) none none) fun v0 => k (p5 t v0) l h) .skip))
 (.seq (.seq (.reg fun c t l h k => bO (bin Pg .eql 9 true (g5 t) (.str ⟨0, 0⟩)) fun v0 => jn (fun v1 l1 h1 => jn (fun v2 l2 h2 => jn (fun v3 l3 h3 => jn (fun v4 l4 h4 => jn (fun v5 l5 h5 => jn (fun v6 l6 h6 => jn (fun v7 l7 h7 => jn (fun v8 l8 h8 => jn (fun v9 l9 h9 => jn (fun v10 l10 h10 => jn (fun v11 l11 h11 => bO (pick v0 (.bool true) v11) fun v12 => k (p38 t v12) l11 h11) fun j11 => brB (wv v0 false) (j11 (.tuple []) l10 h10) (bO (pick v4 v10 (.bool false)) fun v12 => j11 v12 l10 h10)) fun j10 => brB (wv v4 true) (j10 (.tuple []) l9 h9) (bO (pick v8 (.bool true) v9) fun v11 => j10 v11 l9 h9)) fun j9 => brB (wv v8 false) (j9 (.tuple []) l8 h8) (j9 (g4 t) l8 h8)) fun j8 => brB (wv v4 true) (j8 (.tuple []) l7 h7) (j8 v7 l7 h7)) fun j7 => brB (wv v4 true) (j7 (.tuple []) l6 h6) (bO (bin Pg .gtr 3 true v6 (I 1)) fun v8 => j7 v8 l6 h6)) fun j6 => brB (wv v4 true) (j6 (.tuple []) l5 h5) (bO (len (Pg.underlying 9) v5) fun v7 => j6 v7 l5 h5)) fun j5 => brB (wv v4 true) (j5 (.tuple []) l4 h4) (j5 (g5 t) l4 h4)) fun j4 => brB (wv v0 false) (j4 (.tuple []) l3 h3) (j4 v3 l3 h3)) fun j3 => brB (wv v0 false) (j3 (.tuple []) l2 h2) (bO (bin Pg .eql 5 true v2 (.int .u8 (.ofNat 48))) fun v4 => j3 v4 l2 h2)) fun j2 => brB (wv v0 false) (j2 (.tuple []) l1 h1) (bO (idx Pg 9 v1 (I 0)) fun v3 => j2 v3 l1 h1)) fun j1 => brB (wv v0 false) (j1 (.tuple []) l h) (j1 (g5 t) l h))
 (.cond (.tmp 38) (.seq (.reg fun c t l h k => gn Try.f15 15 6 0 c t t l h (fun v0 l0 h0 => jn (fun v1 l1 h1 => k (p3 t (.bool false)) l1 h1) fun j1 => sto 26 (g2 t) v0 l0 h0 j1 (gn Try.f15 15 6 1 c (p39 (p2 t (g2 t)) v0) t l0 h0 j1)))
 .ret) .skip))
 (.seq (.reg fun c t l h k => k (p6 t .nils) l h)
 (.seq (.reg fun c t l h k => k (p8 (p7 t (.int .u64 (.ofNat 0))) (I 0)) l h)
 (.seq (.seq (.reg fun c t l h k => gn Try.f15 15 9 1 c (p40 t (g5 t)) t l h (fun v0 l0 h0 => k (p41 t v0) l0 h0))
 (.block 0 (.loop (.seq (.reg fun c t l h k => gn Try.f15 15 10 0 c (p41 t (g41 t)) t l h (fun v0 l0 h0 => bO (ext v0 0) fun v1 => k (p43 (p42 t v0) v1) l0 h0))
 (.seq (.cond (.tmp 43) .skip (.exit 0))
 (.block 1 (.seq (.reg fun c t l h k => bO (ext (g42 t) 1) fun v0 => bO (ext (g42 t) 2) fun v1 => k (p10 (p9 t v0) v1) l h)
 (.seq (.seq (.reg fun c t l h k => bO (bin Pg .lss 21 true (g10 t) (.int .i32 (.ofNat 48))) fun v0 => jn (fun v1 l1 h1 => jn (fun v2 l2 h2 => bO (pick v0 (.bool true) v2) fun v3 => k (p51 t v3) l2 h2) fun j2 => brB (wv v0 false) (j2 (.tuple []) l1 h1) (bO (bin Pg .gtr 21 true v1 (.int .i32 (.ofNat 57))) fun v3 => j2 v3 l1 h1)) fun j1 => brB (wv v0 false) (j1 (.tuple []) l h) (j1 (g10 t) l h))
 (.cond (.tmp 51) (.seq (.reg fun c t l h k => gn Try.f15 15 13 0 c t t l h (fun v0 l0 h0 => jn (fun v1 l1 h1 => k (p3 t (.bool false)) l1 h1) fun j1 => sto 26 (g2 t) v0 l0 h0 j1 (gn Try.f15 15 13 1 c (p52 (p2 t (g2 t)) v0) t l0 h0 j1)))
 .ret) .skip))
 (.seq (.reg fun c t l h k => bO (bin Pg .mul 80 true (.int .u64 (.ofNat 10)) (g7 t)) fun v0 => bO (bin Pg .sub 21 true (g10 t) (.int .i32 (.ofNat 48))) fun v1 => gn Try.f15 15 14 4 c (p56 t v1) t l h (fun v2 l2 h2 => bO (bin Pg .add 80 false v0 v2) fun v3 => k (p7 t v3) l2 h2))
 (.seq (.reg fun c t l h k => bO (bin Pg .add 3 true (g8 t) (I 1)) fun v0 => k (p8 t v0) l h)
 (.seq (.reg fun c t l h k => bO (bin Pg .eql 3 true (g8 t) (I 9)) fun v0 => jn (fun v1 l1 h1 => jn (fun v2 l2 h2 => jn (fun v3 l3 h3 => jn (fun v4 l4 h4 => jn (fun v5 l5 h5 => bO (pick v0 (.bool true) v5) fun v6 => k (p69 t v6) l5 h5) fun j5 => brB (wv v0 false) (j5 (.tuple []) l4 h4) (bO (bin Pg .eql 3 false v1 v4) fun v6 => j5 v6 l4 h4)) fun j4 => brB (wv v0 false) (j4 (.tuple []) l3 h3) (bO (bin Pg .sub 3 true v3 (I 1)) fun v5 => j4 v5 l3 h3)) fun j3 => brB (wv v0 false) (j3 (.tuple []) l2 h2) (bO (len (Pg.underlying 9) v2) fun v4 => j3 v4 l2 h2)) fun j2 => brB (wv v0 false) (j2 (.tuple []) l1 h1) (j2 (g5 t) l1 h1)) fun j1 => brB (wv v0 false) (j1 (.tuple []) l h) (j1 (g9 t) l h))
 (.cond (.tmp 69) (.seq (.reg fun c t l h k => k (p11 t (.int .u64 (.ofNat 1))) l h)
 (.seq (.seq (.reg fun c t l h k => k (p71 (p70 t (g8 t)) (I 0)) l h)
 (.block 2 (.loop (.seq (.reg fun c t l h k => bO (bin Pg .lss 3 false (g71 t) (g70 t)) fun v0 => k (p72 t v0) l h)
 (.seq (.cond (.tmp 72) .skip (.exit 2))
 (.seq (.block 3 (.reg fun c t l h k => bO (bin Pg .mul 80 true (g11 t) (.int .u64 (.ofNat 10))) fun v0 => k (p11 t v0) l h))
 (.reg fun c t l h k => bO (bin Pg .add 3 true (g71 t) (I 1)) fun v0 => k (p71 t v0) l h)))))))
 (.seq (.reg fun c t l h k => cl c 64 [(g6 t), (g11 t), (g7 t)] t l h fun v0 l0 h0 => k (p6 t v0) l0 h0)
 (.reg fun c t l h k => k (p8 (p7 t (.int .u64 (.ofNat 0))) (I 0)) l h)))) .skip))))))))))))
 (.seq (.reg fun c t l h k => cl c 65 [(g6 t), (g4 t)] t l h fun v0 l0 h0 => jn (fun v1 l1 h1 => k (p3 t (.bool true)) l1 h1) fun j1 => sto 26 (g2 t) v0 l0 h0 j1 (gn Try.f15 15 24 3 c (p82 (p2 t (g2 t)) v0) t l0 h0 j1))
 .ret)))))))))
def kp16 : List Nat := [0, 2, 3, 4, 5, 6, 7, 8, 11, 16, 22, 30]
def rc16 : RC := (.seq (.reg fun c t l h k => al Pg 31 2 l fun v0 l0 => k (p3 (p2 t v0) (.bool false)) l0 h)
 (.seq (.seq (.reg fun c t l h k => cl c 66 [(g0 t)] t l h fun v0 l0 h0 => bO (G.un .not v0) fun v1 => k (p11 t v1) l0 h0)
 (.cond (.tmp 11) (.seq (.reg fun c t l h k => gn Try.f16 16 2 0 c t t l h (fun v0 l0 h0 => jn (fun v1 l1 h1 => k (p3 t (.bool false)) l1 h1) fun j1 => sto 31 (g2 t) v0 l0 h0 j1 (gn Try.f16 16 2 1 c (p12 (p2 t (g2 t)) v0) t l0 h0 j1)))
 .ret) .skip))
 (.seq (.reg fun c t l h k => bO (idx Pg 9 (g0 t) (I 0)) fun v0 => bO (bin Pg .eql 5 true v0 (.int .u8 (.ofNat 45))) fun v1 => k (p4 t v1) l h)
 (.seq (.seq (.reg fun c t l h k => k (p16 t (g4 t)) l h)
 (.cond (.tmp 16) (.reg fun c t l h k => bO (slc Pg 9 (g0 t) (some (I 1)) none none) fun v0 => k (p0 t v0) l h) .skip))
 (.seq (.reg fun c t l h k => k (p5 t .nils) l h)
 (.seq (.seq (.reg fun c t l h k => bO (len (Pg.underlying 9) (g0 t)) fun v0 => k (p6 t v0) l h)
 (.block 0 (.loop (.seq (.seq (.reg fun c t l h k => bO (bin Pg .gtr 3 true (g6 t) (I 0)) fun v0 => k (p22 t v0) l h)
 (.cond (.tmp 22) .skip (.exit 0)))
 (.seq (.block 1 (.seq (.reg fun c t l h k => k (p7 t (I 0)) l h)
 (.seq (.seq (.reg fun c t l h k => bO (bin Pg .sub 3 true (g6 t) (I 4)) fun v0 => bO (mxV v0 (I 0)) fun v1 => k (p8 t v1) l h)
 (.block 2 (.loop (.seq (.seq (.reg fun c t l h k => bO (bin Pg .lss 3 false (g8 t) (g6 t)) fun v0 => k (p30 t v0) l h)
 (.cond (.tmp 30) .skip (.exit 2)))
 (.seq (.block 3 (.reg fun c t l h k => bO (bin Pg .mul 3 true (I 10) (g7 t)) fun v0 => bO (idx Pg 9 (g0 t) (g8 t)) fun v1 => bO (bin Pg .sub 5 true v1 (.int .u8 (.ofNat 48))) fun v2 => gn Try.f16 16 14 6 c (p38 t v2) t l h (fun v3 l3 h3 => bO (bin Pg .add 3 false v0 v3) fun v4 => k (p7 t v4) l3 h3)))
 (.reg fun c t l h k => bO (bin Pg .add 3 true (g8 t) (I 1)) fun v0 => k (p8 t v0) l h))))))
 (.reg fun c t l h k => bO (bs Pg 29 1 [(0, (g7 t))]) fun v0 => gn Try.f16 16 15 3 c (p43 (p41 t (g5 t)) v0) t l h (fun v1 l1 h1 => k (p5 t v1) l1 h1)))))
 (.reg fun c t l h k => bO (bin Pg .sub 3 true (g6 t) (I 4)) fun v0 => k (p6 t v0) l h))))))
 (.seq (.reg fun c t l h k => cl c 67 [(g4 t), (g5 t)] t l h fun v0 l0 h0 => jn (fun v1 l1 h1 => k (p3 t (.bool true)) l1 h1) fun j1 => sto 31 (g2 t) v0 l0 h0 j1 (gn Try.f16 16 16 3 c (p47 (p2 t (g2 t)) v0) t l0 h0 j1))
 .ret)))))))
def kp17 : List Nat := [0, 1, 2, 3, 4]
def rc17 : RC := (.seq (.reg fun c t l h k => gn Try.f17 17 0 0 c (p0 t (g0 t)) t l h (fun v0 l0 h0 => gn Try.f17 17 0 1 c (p1 t (g1 t)) t l0 h0 (fun v1 l1 h1 => k (p4 (p3 (p2 t v0) v1) (.bool false)) l1 h1)))
 (.seq (.reg fun c t l h k => bO (ld Pg 26 (g2 t) l h) fun v0 => jE ((5, v0) :: []) fun e1 => jF ((ldF (g2 t)) :: []) fun q1 => clD c 18 [v0] l h (fun v1 f1 l1 h1 => bO (ld Pg 31 (g3 t) l1 h1) fun v2 => jE ((7, v2) :: (6, v1) :: e1) fun e3 => jF ((ldF (g3 t)) :: f1 :: q1) fun q3 => clD c 23 [v2] l1 h1 (fun v3 f3 l3 h3 => bO (bin Pg .eql 9 false v1 v3) fun v4 => finD (rgA Try.f17 1).toList [] [(1, 2)] (ft0 :: ft0 :: f3 :: q3) (k (p4 t v4) l3 h3)) (sD Try.f17 17 1 c 3 (some 8) e3 q3 t l1 h1)) (sD Try.f17 17 1 c 1 (some 6) e1 q1 t l h))
 .ret))
def kp18 : List Nat := [0, 1, 2, 3, 4, 5, 6, 10, 16, 21, 51, 57, 58, 75, 82]
def rc18 : RC := (.seq (.reg fun c t l h k => gn Try.f18 18 0 0 c (p0 t (g0 t)) t l h (fun v0 l0 h0 => k (p2 (p1 t v0) (.str ⟨0, 0⟩)) l0 h0))
 (.seq (.seq (.reg fun c t l h k => bO (fa Pg 26 (g1 t) 0) fun v0 => bO (ld Pg 24 v0 l h) fun v1 => bO (len (Pg.underlying 24) v1) fun v2 => bO (bin Pg .eql 3 true v2 (I 0)) fun v3 => k (p10 t v3) l h)
 (.cond (.tmp 10) (.seq (.reg fun c t l h k => k (p2 t (.str ⟨1, 48⟩)) l h)
 .ret) .skip))
 (.seq (.reg fun c t l h k => k (p3 t .nils) l h)
 (.seq (.reg fun c t l h k => bO (fa Pg 26 (g1 t) 0) fun v0 => bO (ld Pg 24 v0 l h) fun v1 => cl c 68 [v1] t l h fun v2 l2 h2 => k (p4 t v2) l2 h2)
 (.seq (.block 0 (.loop (.seq (.seq (.reg fun c t l h k => bO (len (Pg.underlying 24) (g4 t)) fun v0 => bO (bin Pg .gtr 3 true v0 (I 0)) fun v1 => k (p16 t v1) l h)
 (.cond (.tmp 16) .skip (.exit 0)))
 (.block 1 (.seq (.reg fun c t l h k => k (p5 t (.int .u64 (.ofNat 0))) l h)
 (.seq (.seq (.reg fun c t l h k => bO (len (Pg.underlying 24) (g4 t)) fun v0 => bO (bin Pg .sub 3 true v0 (I 1)) fun v1 => k (p6 t v1) l h)
 (.block 2 (.loop (.seq (.seq (.reg fun c t l h k => bO (bin Pg .geq 3 true (g6 t) (I 0)) fun v0 => k (p21 t v0) l h)
 (.cond (.tmp 21) .skip (.exit 2)))
 (.seq (.block 3 (.seq (.reg fun c t l h k => bO (bin Pg .shl 80 true (g5 t) (.int .u64 (.ofNat 32))) fun v0 => bO (ia Pg 24 (g4 t) (g6 t)) fun v1 => bO (ld Pg 86 v1 l h) fun v2 => gn Try.f18 18 10 6 c (p29 t v2) t l h (fun v3 l3 h3 => bO (bin Pg .or 80 false v0 v3) fun v4 => k (p5 t v4) l3 h3))
 (.seq (.reg fun c t l h k => bO (bin Pg .quo 80 true (g5 t) (.int .u64 (.ofNat 1000000000))) fun v0 => gn Try.f18 18 11 4 c (p35 t v0) t l h (fun v1 l1 h1 => bO (ia Pg 24 (g4 t) (g6 t)) fun v2 => jn (fun v3 l3 h3 => k t l3 h3) fun j3 => sto 86 v2 v1 l1 h1 j3 (gn Try.f18 18 11 6 c (p36 (p37 t v2) v1) t l1 h1 j3)))
 (.reg fun c t l h k => bO (bin Pg .rem 80 true (g5 t) (.int .u64 (.ofNat 1000000000))) fun v0 => k (p5 t v0) l h))))
 (.reg fun c t l h k => bO (bin Pg .sub 3 true (g6 t) (I 1)) fun v0 => k (p6 t v0) l h))))))
 (.seq (.block 4 (.loop (.seq (.seq (.reg fun c t l h k => bO (len (Pg.underlying 24) (g4 t)) fun v0 => bO (bin Pg .gtr 3 true v0 (I 0)) fun v1 => jn (fun v2 l2 h2 => jn (fun v3 l3 h3 => jn (fun v4 l4 h4 => jn (fun v5 l5 h5 => jn (fun v6 l6 h6 => jn (fun v7 l7 h7 => jn (fun v8 l8 h8 => bO (pick v1 v8 (.bool false)) fun v9 => k (p51 t v9) l8 h8) fun j8 => brB (wv v1 true) (j8 (.tuple []) l7 h7) (bO (bin Pg .eql 86 true v7 (.int .u32 (.ofNat 0))) fun v9 => j8 v9 l7 h7)) fun j7 => brB (wv v1 true) (j7 (.tuple []) l6 h6) (bO (ld Pg 86 v6 l6 h6) fun v8 => j7 v8 l6 h6)) fun j6 => brB (wv v1 true) (j6 (.tuple []) l5 h5) (bO (ia Pg 24 v2 v5) fun v7 => j6 v7 l5 h5)) fun j5 => brB (wv v1 true) (j5 (.tuple []) l4 h4) (bO (bin Pg .sub 3 true v4 (I 1)) fun v6 => j5 v6 l4 h4)) fun j4 => brB (wv v1 true) (j4 (.tuple []) l3 h3) (bO (len (Pg.underlying 24) v3) fun v5 => j4 v5 l3 h3)) fun j3 => brB (wv v1 true) (j3 (.tuple []) l2 h2) (j3 (g4 t) l2 h2)) fun j2 => brB (wv v1 true) (j2 (.tuple []) l h) (j2 (g4 t) l h))
 (.cond (.tmp 51) .skip (.exit 4)))
 (.block 5 (.reg fun c t l h k => bO (len (Pg.underlying 24) (g4 t)) fun v0 => bO (bin Pg .sub 3 true v0 (I 1)) fun v1 => bO (slc Pg 24 (g4 t) none (some v1) none) fun v2 => k (p4 t v2) l h)))))
 (.seq (.reg fun c t l h k => k (p57 t (I 0)) l h)
 (.block 6 (.loop (.seq (.reg fun c t l h k => bO (bin Pg .lss 3 true (g57 t) (I 9)) fun v0 => k (p58 t v0) l h)
 (.seq (.cond (.tmp 58) .skip (.exit 6))
 (.seq (.block 7 (.seq (.reg fun c t l h k => bO (bin Pg .rem 80 true (g5 t) (.int .u64 (.ofNat 10))) fun v0 => bO (bin Pg .add 80 true (.int .u64 (.ofNat 48)) v0) fun v1 => gn Try.f18 18 17 4 c (p62 t v1) t l h (fun v2 l2 h2 => gn Try.f18 18 17 5 c (p63 t v2) t l2 h2 (fun v3 l3 h3 => gn Try.f18 18 17 6 c (p64 (p59 t (g3 t)) v3) t l3 h3 (fun v4 l4 h4 => k (p3 t v4) l4 h4))))
 (.reg fun c t l h k => bO (bin Pg .quo 80 true (g5 t) (.int .u64 (.ofNat 10))) fun v0 => k (p5 t v0) l h)))
 (.reg fun c t l h k => bO (bin Pg .add 3 true (g57 t) (I 1)) fun v0 => k (p57 t v0) l h))))))))))))))
 (.seq (.block 8 (.loop (.seq (.seq (.reg fun c t l h k => bO (len (Pg.underlying 51) (g3 t)) fun v0 => bO (bin Pg .sub 3 true v0 (I 1)) fun v1 => bO (ia Pg 51 (g3 t) v1) fun v2 => bO (ld Pg 5 v2 l h) fun v3 => bO (bin Pg .eql 5 true v3 (.int .u8 (.ofNat 48))) fun v4 => k (p75 t v4) l h)
 (.cond (.tmp 75) .skip (.exit 8)))
 (.block 9 (.reg fun c t l h k => bO (len (Pg.underlying 51) (g3 t)) fun v0 => bO (bin Pg .sub 3 true v0 (I 1)) fun v1 => bO (slc Pg 51 (g3 t) none (some v1) none) fun v2 => k (p3 t v2) l h)))))
 (.seq (.seq (.reg fun c t l h k => bO (fa Pg 26 (g1 t) 1) fun v0 => bO (ld Pg 4 v0 l h) fun v1 => k (p82 t v1) l h)
 (.cond (.tmp 82) (.reg fun c t l h k => gn Try.f18 18 23 1 c t t l h (fun v0 l0 h0 => gn Try.f18 18 23 2 c (p84 (p83 t (g3 t)) v0) t l0 h0 (fun v1 l1 h1 => k (p3 t v1) l1 h1))) .skip))
 (.seq (.reg fun c t l h k => cl c 69 [(g3 t)] t l h fun v0 l0 h0 => k t l0 h0)
 (.seq (.reg fun c t l h k => gn Try.f18 18 25 1 c (p88 t (g3 t)) t l h (fun v0 l0 h0 => k (p2 t v0) l0 h0))
 .ret)))))))))
def kp19 : List Nat := [0, 1, 2, 3, 4, 5, 6, 8, 9, 10, 11, 16, 26, 36]
def rc19 : RC := (.seq (.reg fun c t l h k => gn Try.f19 19 0 0 c (p0 t (g0 t)) t l h (fun v0 l0 h0 => k (p3 (p2 (p1 t v0) (I 0)) (.bool false)) l0 h0))
 (.seq (.reg fun c t l h k => k (p4 t (.int .u64 (.ofNat 0))) l h)
 (.seq (.seq (.reg fun c t l h k => bO (fa Pg 26 (g1 t) 0) fun v0 => bO (ld Pg 24 v0 l h) fun v1 => bO (len (Pg.underlying 24) v1) fun v2 => k (p10 (p9 (p8 t v1) v2) (I 0)) l h)
 (.block 0 (.loop (.seq (.reg fun c t l h k => bO (bin Pg .lss 3 false (g10 t) (g9 t)) fun v0 => k (p11 t v0) l h)
 (.seq (.cond (.tmp 11) .skip (.exit 0))
 (.seq (.block 1 (.seq (.reg fun c t l h k => bO (ia Pg 24 (g8 t) (g10 t)) fun v0 => bO (ld Pg 86 v0 l h) fun v1 => k (p6 (p5 t (g10 t)) v1) l h)
 (.seq (.seq (.reg fun c t l h k => bO (bin Pg .gtr 3 true (g5 t) (I 1)) fun v0 => k (p16 t v0) l h)
 (.cond (.tmp 16) (.seq (.reg fun c t l h k => k (p3 (p2 t (I 0)) (.bool false)) l h)
 .ret) .skip))
 (.reg fun c t l h k => gn Try.f19 19 7 2 c (p18 t (g6 t)) t l h (fun v0 l0 h0 => bO (bin Pg .mul 3 true (I 32) (g5 t)) fun v1 => gn Try.f19 19 7 5 c (p21 t v1) t l0 h0 (fun v2 l2 h2 => bO (bin Pg .shl 80 false v0 v2) fun v3 => bO (bin Pg .or 80 false (g4 t) v3) fun v4 => k (p4 t v4) l2 h2))))))
 (.reg fun c t l h k => bO (bin Pg .add 3 true (g10 t) (I 1)) fun v0 => k (p10 t v0) l h)))))))
 (.seq (.block 2 (.seq (.reg fun c t l h k => bO (fa Pg 26 (g1 t) 1) fun v0 => bO (ld Pg 4 v0 l h) fun v1 => jn (fun v2 l2 h2 => jn (fun v3 l3 h3 => bO (pick v1 v3 (.bool false)) fun v4 => k (p26 t v4) l3 h3) fun j3 => brB (wv v1 true) (j3 (.tuple []) l2 h2) (bO (bin Pg .leq 80 true v2 (.int .u64 (.ofNat 9223372036854775808))) fun v4 => j3 v4 l2 h2)) fun j2 => brB (wv v1 true) (j2 (.tuple []) l h) (j2 (g4 t) l h))
 (.cond (.tmp 26) (.seq (.reg fun c t l h k => bO (G.un .neg (g4 t)) fun v0 => gn Try.f19 19 10 2 c (p34 t v0) t l h (fun v1 l1 h1 => k (p3 (p2 t v1) (.bool true)) l1 h1))
 .ret) (.seq (.reg fun c t l h k => bO (fa Pg 26 (g1 t) 1) fun v0 => bO (ld Pg 4 v0 l h) fun v1 => bO (G.un .not v1) fun v2 => jn (fun v3 l3 h3 => jn (fun v4 l4 h4 => bO (pick v2 v4 (.bool false)) fun v5 => k (p36 t v5) l4 h4) fun j4 => brB (wv v2 true) (j4 (.tuple []) l3 h3) (bO (bin Pg .lss 80 true v3 (.int .u64 (.ofNat 9223372036854775808))) fun v5 => j4 v5 l3 h3)) fun j3 => brB (wv v2 true) (j3 (.tuple []) l h) (j3 (g4 t) l h))
 (.cond (.tmp 36) (.seq (.reg fun c t l h k => gn Try.f19 19 12 1 c (p44 t (g4 t)) t l h (fun v0 l0 h0 => k (p3 (p2 t v0) (.bool true)) l0 h0))
 .ret) .skip)))))
 (.seq (.reg fun c t l h k => k (p3 (p2 t (I 0)) (.bool false)) l h)
 .ret)))))
def kp20 : List Nat := [0, 1, 2, 3, 4, 5, 15, 21, 34]
def rc20 : RC := (.seq (.reg fun c t l h k => gn Try.f20 20 0 0 c (p0 t (g0 t)) t l h (fun v0 l0 h0 => k (p3 (p2 (p1 t v0) (I 0)) (.bool false)) l0 h0))
 (.seq (.seq (.reg fun c t l h k => bO (ld Pg 31 (g1 t) l h) fun v0 => jE ((6, v0) :: []) fun e1 => jF ((ldF (g1 t)) :: []) fun q1 => clD c 22 [(.int .i64 (.negSucc 9223372036854775807))] l h (fun v1 f1 l1 h1 => jE ((7, v1) :: e1) fun e2 => jF (f1 :: q1) fun q2 => clD c 34 [v0, v1] l1 h1 (fun v2 f2 l2 h2 => bO (bin Pg .lss 3 true v2 (I 0)) fun v3 => jn (fun v4 f4 l4 h4 => jn (fun v5 f5 l5 h5 => jn (fun v6 f6 l6 h6 => jn (fun v7 f7 l7 h7 => bO (pick v3 (.bool true) v7) fun v8 => finD (rgA Try.f20 1).toList [] [(0, 1), (5, 6)] (ft0 :: f7 :: f6 :: f5 :: f4 :: ft0 :: ft0 :: f2 :: q2) (k (p15 t v8) l7 h7)) fun j7 => brB (wv v3 false) (j7 (.tuple []) ft0 l6 h6) (bO (bin Pg .gtr 3 true v6 (I 0)) fun v8 => j7 v8 ft0 l6 h6)) fun j6 => brB (wv v3 false) (j6 (.tuple []) ft0 l5 h5) (jE ((12, v5) :: (11, v4) :: (10, v3) :: (9, v3) :: (8, v2) :: e2) fun e7 => jF (f5 :: f4 :: ft0 :: ft0 :: f2 :: q2) fun q7 => clD c 34 [v4, v5] l5 h5 (fun v7 f7 l7 h7 => j6 v7 f7 l7 h7) (sD Try.f20 20 1 c 7 (some 13) e7 q7 t l5 h5))) fun j5 => brB (wv v3 false) (j5 (.tuple []) ft0 l4 h4) (jE ((11, v4) :: (10, v3) :: (9, v3) :: (8, v2) :: e2) fun e6 => jF (f4 :: ft0 :: ft0 :: f2 :: q2) fun q6 => clD c 22 [(I 9223372036854775807)] l4 h4 (fun v6 f6 l6 h6 => j5 v6 f6 l6 h6) (sD Try.f20 20 1 c 6 (some 12) e6 q6 t l4 h4))) fun j4 => brB (wv v3 false) (j4 (.tuple []) ft0 l2 h2) (bO (ld Pg 31 (g1 t) l2 h2) fun v5 => j4 v5 (ldF (g1 t)) l2 h2)) (sD Try.f20 20 1 c 2 (some 8) e2 q2 t l1 h1)) (sD Try.f20 20 1 c 1 (some 7) e1 q1 t l h))
 (.cond (.tmp 15) (.seq (.reg fun c t l h k => k (p3 (p2 t (I 0)) (.bool false)) l h)
 .ret) .skip))
 (.seq (.reg fun c t l h k => k (p4 t (I 0)) l h)
 (.seq (.seq (.reg fun c t l h k => bO (fa Pg 31 (g1 t) 1) fun v0 => bO (ld Pg 29 v0 l h) fun v1 => bO (len (Pg.underlying 29) v1) fun v2 => bO (bin Pg .sub 3 true v2 (I 1)) fun v3 => k (p5 t v3) l h)
 (.block 0 (.loop (.seq (.seq (.reg fun c t l h k => bO (bin Pg .geq 3 true (g5 t) (I 0)) fun v0 => k (p21 t v0) l h)
 (.cond (.tmp 21) .skip (.exit 0)))
 (.seq (.block 1 (.reg fun c t l h k => bO (bin Pg .mul 2 true (g4 t) (I 10000)) fun v0 => bO (fa Pg 31 (g1 t) 1) fun v1 => bO (ld Pg 29 v1 l h) fun v2 => bO (ia Pg 29 v2 (g5 t)) fun v3 => bO (ld Pg 3 v3 l h) fun v4 => bO (bin Pg .sub 2 false v0 v4) fun v5 => k (p4 t v5) l h))
 (.reg fun c t l h k => bO (bin Pg .sub 3 true (g5 t) (I 1)) fun v0 => k (p5 t v0) l h))))))
 (.seq (.seq (.reg fun c t l h k => bO (fa Pg 31 (g1 t) 0) fun v0 => bO (ld Pg 4 v0 l h) fun v1 => bO (G.un .not v1) fun v2 => k (p34 t v2) l h)
 (.cond (.tmp 34) (.reg fun c t l h k => bO (G.un .neg (g4 t)) fun v0 => k (p4 t v0) l h) .skip))
 (.seq (.reg fun c t l h k => k (p3 (p2 t (g4 t)) (.bool true)) l h)
 .ret))))))
def kp21 : List Nat := [0, 2, 3, 7]
def rc21 : RC := (.seq (.reg fun c t l h k => al Pg 26 2 l fun v0 l0 => k (p2 t v0) l0 h)
 (.seq (.reg fun c t l h k => gn Try.f21 21 1 1 c (p4 t (g0 t)) t l h (fun v0 l0 h0 => k (p3 t v0) l0 h0))
 (.seq (.seq (.reg fun c t l h k => bO (bin Pg .lss 2 true (g0 t) (I 0)) fun v0 => k (p7 t v0) l h)
 (.cond (.tmp 7) (.reg fun c t l h k => bO (G.un .neg (g3 t)) fun v0 => k (p3 t v0) l h) .skip))
 (.seq (.reg fun c t l h k => gn Try.f21 21 4 1 c (p10 t (g3 t)) t l h (fun v0 l0 h0 => bO (bin Pg .shr 80 true (g3 t) (.int .u64 (.ofNat 32))) fun v1 => gn Try.f21 21 4 4 c (p13 t v1) t l0 h0 (fun v2 l2 h2 => gn Try.f21 21 4 5 c (p14 (p11 t v0) v2) t l2 h2 (fun v3 l3 h3 => bO (bin Pg .lss 2 true (g0 t) (I 0)) fun v4 => cl c 65 [v3, v4] t l3 h3 fun v5 l5 h5 => jn (fun v6 l6 h6 => k t l6 h6) fun j6 => sto 26 (g2 t) v5 l5 h5 j6 (gn Try.f21 21 4 9 c (p18 (p2 t (g2 t)) v5) t l5 h5 j6)))))
 .ret))))
def kp22 : List Nat := [0, 2, 3, 4, 5, 10, 14]
def rc22 : RC := (.seq (.reg fun c t l h k => al Pg 31 2 l fun v0 l0 => k (p2 t v0) l0 h)
 (.seq (.reg fun c t l h k => bO (bin Pg .lss 2 true (g0 t) (I 0)) fun v0 => k (p3 t v0) l h)
 (.seq (.reg fun c t l h k => gn Try.f22 22 2 1 c (p8 t (g0 t)) t l h (fun v0 l0 h0 => k (p4 t v0) l0 h0))
 (.seq (.seq (.reg fun c t l h k => k (p10 t (g3 t)) l h)
 (.cond (.tmp 10) (.reg fun c t l h k => bO (G.un .neg (g4 t)) fun v0 => k (p4 t v0) l h) .skip))
 (.seq (.reg fun c t l h k => k (p5 t .nils) l h)
 (.seq (.block 0 (.loop (.seq (.seq (.reg fun c t l h k => bO (bin Pg .gtr 80 true (g4 t) (.int .u64 (.ofNat 0))) fun v0 => k (p14 t v0) l h)
 (.cond (.tmp 14) .skip (.exit 0)))
 (.block 1 (.seq (.reg fun c t l h k => bO (bin Pg .rem 80 true (g4 t) (.int .u64 (.ofNat 10000))) fun v0 => gn Try.f22 22 7 3 c (p17 t v0) t l h (fun v1 l1 h1 => bO (bs Pg 29 1 [(0, v1)]) fun v2 => gn Try.f22 22 7 5 c (p19 (p15 t (g5 t)) v2) t l1 h1 (fun v3 l3 h3 => k (p5 t v3) l3 h3)))
 (.reg fun c t l h k => bO (bin Pg .quo 80 true (g4 t) (.int .u64 (.ofNat 10000))) fun v0 => k (p4 t v0) l h))))))
 (.seq (.reg fun c t l h k => gn Try.f22 22 9 2 c (p24 (p23 t (g3 t)) (g5 t)) t l h (fun v0 l0 h0 => jn (fun v1 l1 h1 => k t l1 h1) fun j1 => sto 31 (g2 t) v0 l0 h0 j1 (gn Try.f22 22 9 3 c (p25 (p2 t (g2 t)) v0) t l0 h0 j1)))
 .ret)))))))
def kp23 : List Nat := [0, 1, 2, 3, 4, 5, 6, 7, 8, 12, 17, 38, 51, 60]
def rc23 : RC := (.seq (.reg fun c t l h k => gn Try.f23 23 0 0 c (p0 t (g0 t)) t l h (fun v0 l0 h0 => k (p2 (p1 t v0) (.str ⟨0, 0⟩)) l0 h0))
 (.seq (.seq (.reg fun c t l h k => bO (fa Pg 31 (g1 t) 1) fun v0 => bO (ld Pg 29 v0 l h) fun v1 => bO (len (Pg.underlying 29) v1) fun v2 => bO (bin Pg .eql 3 true v2 (I 0)) fun v3 => k (p12 t v3) l h)
 (.cond (.tmp 12) (.seq (.reg fun c t l h k => k (p2 t (.str ⟨1, 48⟩)) l h)
 .ret) .skip))
 (.seq (.reg fun c t l h k => k (p3 t .nils) l h)
 (.seq (.seq (.reg fun c t l h k => k (p4 t (I 0)) l h)
 (.block 0 (.loop (.seq (.seq (.reg fun c t l h k => bO (fa Pg 31 (g1 t) 1) fun v0 => bO (ld Pg 29 v0 l h) fun v1 => bO (len (Pg.underlying 29) v1) fun v2 => bO (bin Pg .lss 3 false (g4 t) v2) fun v3 => k (p17 t v3) l h)
 (.cond (.tmp 17) .skip (.exit 0)))
 (.seq (.block 1 (.seq (.reg fun c t l h k => bO (fa Pg 31 (g1 t) 1) fun v0 => bO (ld Pg 29 v0 l h) fun v1 => bO (ia Pg 29 v1 (g4 t)) fun v2 => bO (ld Pg 3 v2 l h) fun v3 => k (p5 t v3) l h)
 (.seq (.reg fun c t l h k => k (p6 t (I 0)) l h)
 (.block 2 (.loop (.seq (.seq (.reg fun c t l h k => bO (bin Pg .lss 3 true (g6 t) (I 4)) fun v0 => jn (fun v1 l1 h1 => jn (fun v2 l2 h2 => jn (fun v3 l3 h3 => jn (fun v4 l4 h4 => jn (fun v5 l5 h5 => jn (fun v6 l6 h6 => jn (fun v7 l7 h7 => jn (fun v8 l8 h8 => jn (fun v9 l9 h9 => jn (fun v10 l10 h10 => bO (pick v0 v10 (.bool false)) fun v11 => k (p38 t v11) l10 h10) fun j10 => brB (wv v0 true) (j10 (.tuple []) l9 h9) (bO (pick v7 (.bool true) v9) fun v11 => j10 v11 l9 h9)) fun j9 => brB (wv v7 false) (j9 (.tuple []) l8 h8) (bO (bin Pg .gtr 3 true v8 (I 0)) fun v10 => j9 v10 l8 h8)) fun j8 => brB (wv v7 false) (j8 (.tuple []) l7 h7) (j8 (g5 t) l7 h7)) fun j7 => brB (wv v0 true) (j7 (.tuple []) l6 h6) (j7 v6 l6 h6)) fun j6 => brB (wv v0 true) (j6 (.tuple []) l5 h5) (bO (bin Pg .lss 3 false v1 v5) fun v7 => j6 v7 l5 h5)) fun j5 => brB (wv v0 true) (j5 (.tuple []) l4 h4) (bO (bin Pg .sub 3 true v4 (I 1)) fun v6 => j5 v6 l4 h4)) fun j4 => brB (wv v0 true) (j4 (.tuple []) l3 h3) (bO (len (Pg.underlying 29) v3) fun v5 => j4 v5 l3 h3)) fun j3 => brB (wv v0 true) (j3 (.tuple []) l2 h2) (bO (ld Pg 29 v2 l2 h2) fun v4 => j3 v4 l2 h2)) fun j2 => brB (wv v0 true) (j2 (.tuple []) l1 h1) (bO (fa Pg 31 (g1 t) 1) fun v3 => j2 v3 l1 h1)) fun j1 => brB (wv v0 true) (j1 (.tuple []) l h) (j1 (g4 t) l h))
 (.cond (.tmp 38) .skip (.exit 2)))
 (.seq (.block 3 (.seq (.reg fun c t l h k => bO (bin Pg .rem 3 true (g5 t) (I 10)) fun v0 => bO (bin Pg .add 3 true (I 48) v0) fun v1 => gn Try.f23 23 11 4 c (p44 t v1) t l h (fun v2 l2 h2 => gn Try.f23 23 11 5 c (p45 t v2) t l2 h2 (fun v3 l3 h3 => gn Try.f23 23 11 6 c (p46 (p41 t (g3 t)) v3) t l3 h3 (fun v4 l4 h4 => k (p3 t v4) l4 h4))))
 (.reg fun c t l h k => bO (bin Pg .quo 3 true (g5 t) (I 10)) fun v0 => k (p5 t v0) l h)))
 (.reg fun c t l h k => bO (bin Pg .add 3 true (g6 t) (I 1)) fun v0 => k (p6 t v0) l h))))))))
 (.reg fun c t l h k => bO (bin Pg .add 3 true (g4 t) (I 1)) fun v0 => k (p4 t v0) l h))))))
 (.seq (.seq (.reg fun c t l h k => bO (fa Pg 31 (g1 t) 0) fun v0 => bO (ld Pg 4 v0 l h) fun v1 => k (p51 t v1) l h)
 (.cond (.tmp 51) (.reg fun c t l h k => gn Try.f23 23 14 1 c t t l h (fun v0 l0 h0 => gn Try.f23 23 14 2 c (p53 (p52 t (g3 t)) v0) t l0 h0 (fun v1 l1 h1 => k (p3 t v1) l1 h1))) .skip))
 (.seq (.seq (.reg fun c t l h k => bO (len (Pg.underlying 51) (g3 t)) fun v0 => bO (bin Pg .sub 3 true v0 (I 1)) fun v1 => k (p8 (p7 t (I 0)) v1) l h)
 (.block 4 (.loop (.seq (.seq (.reg fun c t l h k => bO (bin Pg .lss 3 false (g7 t) (g8 t)) fun v0 => k (p60 t v0) l h)
 (.cond (.tmp 60) .skip (.exit 4)))
 (.seq (.block 5 (.reg fun c t l h k => bO (ia Pg 51 (g3 t) (g8 t)) fun v0 => bO (ld Pg 5 v0 l h) fun v1 => bO (ia Pg 51 (g3 t) (g7 t)) fun v2 => bO (ld Pg 5 v2 l h) fun v3 => bO (ia Pg 51 (g3 t) (g7 t)) fun v4 => jE ((77, v4) :: (76, v3) :: (75, v2) :: (74, (g7 t)) :: (73, (g3 t)) :: (72, v1) :: (71, v0) :: (70, (g8 t)) :: (69, (g3 t)) :: (68, (g8 t)) :: (67, (g3 t)) :: (66, (g7 t)) :: (65, (g3 t)) :: []) fun e5 => jF (ft0 :: (ldF v2) :: ft0 :: ft0 :: ft0 :: (ldF v0) :: ft0 :: ft0 :: ft0 :: ft0 :: ft0 :: ft0 :: ft0 :: []) fun q5 => gD Try.f23 23 18 13 c (p72 (p77 t v4) v1) l h (fun v5 f5 l5 h5 => bO (ia Pg 51 (g3 t) (g8 t)) fun v6 => jE ((78, v6) :: e5) fun e7 => jF (ft0 :: f5 :: q5) fun q7 => gD Try.f23 23 18 15 c (p76 (p78 t v6) v3) l5 h5 (fun v7 f7 l7 h7 => finD (rgA Try.f23 18).toList [] [] (f7 :: q7) (k t l7 h7)) (sD Try.f23 23 18 c 15 none e7 q7 t l5 h5)) (sD Try.f23 23 18 c 13 none e5 q5 t l h)))
 (.reg fun c t l h k => bO (bin Pg .add 3 true (g7 t) (I 1)) fun v0 => bO (bin Pg .sub 3 true (g8 t) (I 1)) fun v1 => k (p8 (p7 t v0) v1) l h))))))
 (.seq (.reg fun c t l h k => gn Try.f23 23 19 1 c (p79 t (g3 t)) t l h (fun v0 l0 h0 => k (p2 t v0) l0 h0))
 .ret)))))))
def kp25 : List Nat := [0, 1, 2, 3, 4, 5, 19]
def rc25 : RC := (.seq (.reg fun c t l h k => gn Try.f25 25 0 0 c (p0 t (g0 t)) t l h (fun v0 l0 h0 => gn Try.f25 25 0 1 c (p1 t (g1 t)) t l0 h0 (fun v1 l1 h1 => al Pg 26 4 l1 fun v2 l2 => k (p4 (p3 (p2 t v0) v1) v2) l2 h1)))
 (.seq (.block 0 (.seq (.reg fun c t l h k => bO (fa Pg 26 (g2 t) 1) fun v0 => bO (ld Pg 4 v0 l h) fun v1 => bO (fa Pg 26 (g3 t) 1) fun v2 => bO (ld Pg 4 v2 l h) fun v3 => bO (bin Pg .eql 4 false v1 v3) fun v4 => k (p5 t v4) l h)
 (.cond (.tmp 5) (.seq (.reg fun c t l h k => bO (fa Pg 26 (g2 t) 0) fun v0 => bO (ld Pg 24 v0 l h) fun v1 => bO (fa Pg 26 (g3 t) 0) fun v2 => bO (ld Pg 24 v2 l h) fun v3 => jE ((14, v3) :: (13, v2) :: (12, v1) :: (11, v0) :: []) fun e4 => jF ((ldF v2) :: ft0 :: (ldF v0) :: ft0 :: []) fun q4 => clD c 71 [v1, v3] l h (fun v4 f4 l4 h4 => bO (fa Pg 26 (g2 t) 1) fun v5 => bO (ld Pg 4 v5 l4 h4) fun v6 => jE ((17, v6) :: (16, v5) :: (15, v4) :: e4) fun e7 => jF ((ldF v5) :: ft0 :: f4 :: q4) fun q7 => clD c 65 [v4, v6] l4 h4 (fun v7 f7 l7 h7 => jE ((18, v7) :: e7) fun e8 => jF (f7 :: q7) fun q8 => gD Try.f25 25 2 8 c (p18 (p4 t (g4 t)) v7) l7 h7 (fun v8 f8 l8 h8 => finD (rgA Try.f25 2).toList [] [(4, 6)] (f8 :: q8) (k t l8 h8)) (sD Try.f25 25 2 c 8 none e8 q8 t l7 h7)) (sD Try.f25 25 2 c 7 (some 18) e7 q7 t l4 h4)) (sD Try.f25 25 2 c 4 (some 15) e4 q4 t l h))
 .ret) (.seq (.reg fun c t l h k => bO (fa Pg 26 (g2 t) 0) fun v0 => bO (ld Pg 24 v0 l h) fun v1 => bO (fa Pg 26 (g3 t) 0) fun v2 => bO (ld Pg 24 v2 l h) fun v3 => cl c 72 [v1, v3] t l h fun v4 l4 h4 => bO (bin Pg .geq 3 true v4 (I 0)) fun v5 => k (p19 t v5) l4 h4)
 (.cond (.tmp 19) (.seq (.reg fun c t l h k => bO (fa Pg 26 (g2 t) 0) fun v0 => bO (ld Pg 24 v0 l h) fun v1 => bO (fa Pg 26 (g3 t) 0) fun v2 => bO (ld Pg 24 v2 l h) fun v3 => jE ((29, v3) :: (28, v2) :: (27, v1) :: (26, v0) :: []) fun e4 => jF ((ldF v2) :: ft0 :: (ldF v0) :: ft0 :: []) fun q4 => clD c 73 [v1, v3] l h (fun v4 f4 l4 h4 => bO (fa Pg 26 (g2 t) 1) fun v5 => bO (ld Pg 4 v5 l4 h4) fun v6 => jE ((32, v6) :: (31, v5) :: (30, v4) :: e4) fun e7 => jF ((ldF v5) :: ft0 :: f4 :: q4) fun q7 => clD c 65 [v4, v6] l4 h4 (fun v7 f7 l7 h7 => jE ((33, v7) :: e7) fun e8 => jF (f7 :: q7) fun q8 => gD Try.f25 25 4 8 c (p33 (p4 t (g4 t)) v7) l7 h7 (fun v8 f8 l8 h8 => finD (rgA Try.f25 4).toList [] [(4, 6)] (f8 :: q8) (k t l8 h8)) (sD Try.f25 25 4 c 8 none e8 q8 t l7 h7)) (sD Try.f25 25 4 c 7 (some 33) e7 q7 t l4 h4)) (sD Try.f25 25 4 c 4 (some 30) e4 q4 t l h))
 .ret) .skip)))))
 (.seq (.reg fun c t l h k => bO (fa Pg 26 (g3 t) 0) fun v0 => bO (ld Pg 24 v0 l h) fun v1 => bO (fa Pg 26 (g2 t) 0) fun v2 => bO (ld Pg 24 v2 l h) fun v3 => jE ((37, v3) :: (36, v2) :: (35, v1) :: (34, v0) :: []) fun e4 => jF ((ldF v2) :: ft0 :: (ldF v0) :: ft0 :: []) fun q4 => clD c 73 [v1, v3] l h (fun v4 f4 l4 h4 => bO (fa Pg 26 (g3 t) 1) fun v5 => bO (ld Pg 4 v5 l4 h4) fun v6 => jE ((40, v6) :: (39, v5) :: (38, v4) :: e4) fun e7 => jF ((ldF v5) :: ft0 :: f4 :: q4) fun q7 => clD c 65 [v4, v6] l4 h4 (fun v7 f7 l7 h7 => jE ((41, v7) :: e7) fun e8 => jF (f7 :: q7) fun q8 => gD Try.f25 25 5 8 c (p41 (p4 t (g4 t)) v7) l7 h7 (fun v8 f8 l8 h8 => finD (rgA Try.f25 5).toList [] [(4, 6)] (f8 :: q8) (k t l8 h8)) (sD Try.f25 25 5 c 8 none e8 q8 t l7 h7)) (sD Try.f25 25 5 c 7 (some 41) e7 q7 t l4 h4)) (sD Try.f25 25 5 c 4 (some 38) e4 q4 t l h))
 .ret)))
def kp26 : List Nat := [0, 1, 2, 3, 4, 9, 23]
def rc26 : RC := (.seq (.reg fun c t l h k => gn Try.f26 26 0 0 c (p0 t (g0 t)) t l h (fun v0 l0 h0 => gn Try.f26 26 0 1 c (p1 t (g1 t)) t l0 h0 (fun v1 l1 h1 => al Pg 31 4 l1 fun v2 l2 => k (p4 (p3 (p2 t v0) v1) v2) l2 h1)))
 (.seq (.seq (.reg fun c t l h k => bO (fa Pg 31 (g2 t) 0) fun v0 => bO (ld Pg 4 v0 l h) fun v1 => bO (fa Pg 31 (g3 t) 0) fun v2 => bO (ld Pg 4 v2 l h) fun v3 => bO (bin Pg .eql 4 false v1 v3) fun v4 => k (p9 t v4) l h)
 (.cond (.tmp 9) (.seq (.reg fun c t l h k => bO (fa Pg 31 (g2 t) 0) fun v0 => bO (ld Pg 4 v0 l h) fun v1 => bO (fa Pg 31 (g2 t) 1) fun v2 => bO (ld Pg 29 v2 l h) fun v3 => bO (fa Pg 31 (g3 t) 1) fun v4 => bO (ld Pg 29 v4 l h) fun v5 => jE ((15, v5) :: (14, v4) :: (13, v3) :: (12, v2) :: (11, v1) :: (10, v0) :: []) fun e6 => jF ((ldF v4) :: ft0 :: (ldF v2) :: ft0 :: (ldF v0) :: ft0 :: []) fun q6 => clD c 74 [v3, v5] l h (fun v6 f6 l6 h6 => jE ((16, v6) :: e6) fun e7 => jF (f6 :: q6) fun q7 => clD c 67 [v1, v6] l6 h6 (fun v7 f7 l7 h7 => jE ((17, v7) :: e7) fun e8 => jF (f7 :: q7) fun q8 => gD Try.f26 26 2 8 c (p17 (p4 t (g4 t)) v7) l7 h7 (fun v8 f8 l8 h8 => finD (rgA Try.f26 2).toList [] [(1, 6)] (f8 :: q8) (k t l8 h8)) (sD Try.f26 26 2 c 8 none e8 q8 t l7 h7)) (sD Try.f26 26 2 c 7 (some 17) e7 q7 t l6 h6)) (sD Try.f26 26 2 c 6 (some 16) e6 q6 t l h))
 .ret) .skip))
 (.seq (.seq (.reg fun c t l h k => bO (fa Pg 31 (g2 t) 1) fun v0 => bO (ld Pg 29 v0 l h) fun v1 => bO (fa Pg 31 (g3 t) 1) fun v2 => bO (ld Pg 29 v2 l h) fun v3 => cl c 75 [v1, v3] t l h fun v4 l4 h4 => bO (bin Pg .geq 3 true v4 (I 0)) fun v5 => k (p23 t v5) l4 h4)
 (.cond (.tmp 23) (.seq (.reg fun c t l h k => bO (fa Pg 31 (g2 t) 0) fun v0 => bO (ld Pg 4 v0 l h) fun v1 => bO (fa Pg 31 (g2 t) 1) fun v2 => bO (ld Pg 29 v2 l h) fun v3 => bO (fa Pg 31 (g3 t) 1) fun v4 => bO (ld Pg 29 v4 l h) fun v5 => jE ((29, v5) :: (28, v4) :: (27, v3) :: (26, v2) :: (25, v1) :: (24, v0) :: []) fun e6 => jF ((ldF v4) :: ft0 :: (ldF v2) :: ft0 :: (ldF v0) :: ft0 :: []) fun q6 => clD c 76 [v3, v5] l h (fun v6 f6 l6 h6 => jE ((30, v6) :: e6) fun e7 => jF (f6 :: q6) fun q7 => clD c 67 [v1, v6] l6 h6 (fun v7 f7 l7 h7 => jE ((31, v7) :: e7) fun e8 => jF (f7 :: q7) fun q8 => gD Try.f26 26 4 8 c (p31 (p4 t (g4 t)) v7) l7 h7 (fun v8 f8 l8 h8 => finD (rgA Try.f26 4).toList [] [(1, 6)] (f8 :: q8) (k t l8 h8)) (sD Try.f26 26 4 c 8 none e8 q8 t l7 h7)) (sD Try.f26 26 4 c 7 (some 31) e7 q7 t l6 h6)) (sD Try.f26 26 4 c 6 (some 30) e6 q6 t l h))
 .ret) .skip))
 (.seq (.reg fun c t l h k => bO (fa Pg 31 (g3 t) 0) fun v0 => bO (ld Pg 4 v0 l h) fun v1 => bO (fa Pg 31 (g3 t) 1) fun v2 => bO (ld Pg 29 v2 l h) fun v3 => bO (fa Pg 31 (g2 t) 1) fun v4 => bO (ld Pg 29 v4 l h) fun v5 => jE ((37, v5) :: (36, v4) :: (35, v3) :: (34, v2) :: (33, v1) :: (32, v0) :: []) fun e6 => jF ((ldF v4) :: ft0 :: (ldF v2) :: ft0 :: (ldF v0) :: ft0 :: []) fun q6 => clD c 76 [v3, v5] l h (fun v6 f6 l6 h6 => jE ((38, v6) :: e6) fun e7 => jF (f6 :: q6) fun q7 => clD c 67 [v1, v6] l6 h6 (fun v7 f7 l7 h7 => jE ((39, v7) :: e7) fun e8 => jF (f7 :: q7) fun q8 => gD Try.f26 26 5 8 c (p39 (p4 t (g4 t)) v7) l7 h7 (fun v8 f8 l8 h8 => finD (rgA Try.f26 5).toList [] [(1, 6)] (f8 :: q8) (k t l8 h8)) (sD Try.f26 26 5 c 8 none e8 q8 t l7 h7)) (sD Try.f26 26 5 c 7 (some 39) e7 q7 t l6 h6)) (sD Try.f26 26 5 c 6 (some 38) e6 q6 t l h))
 .ret))))
def kp27 : List Nat := [0, 1, 2, 3, 4]
def rc27 : RC := (.seq (.reg fun c t l h k => gn Try.f27 27 0 0 c (p0 t (g0 t)) t l h (fun v0 l0 h0 => gn Try.f27 27 0 1 c (p1 t (g1 t)) t l0 h0 (fun v1 l1 h1 => al Pg 26 4 l1 fun v2 l2 => k (p4 (p3 (p2 t v0) v1) v2) l2 h1)))
 (.seq (.reg fun c t l h k => bO (ld Pg 26 (g2 t) l h) fun v0 => bO (ld Pg 26 (g3 t) l h) fun v1 => jE ((6, v1) :: (5, v0) :: []) fun e2 => jF ((ldF (g3 t)) :: (ldF (g2 t)) :: []) fun q2 => clD c 31 [v1] l h (fun v2 f2 l2 h2 => jE ((7, v2) :: e2) fun e3 => jF (f2 :: q2) fun q3 => clD c 25 [v0, v2] l2 h2 (fun v3 f3 l3 h3 => jE ((8, v3) :: e3) fun e4 => jF (f3 :: q3) fun q4 => gD Try.f27 27 1 4 c (p8 (p4 t (g4 t)) v3) l3 h3 (fun v4 f4 l4 h4 => finD (rgA Try.f27 1).toList [] [(0, 2)] (f4 :: q4) (k t l4 h4)) (sD Try.f27 27 1 c 4 none e4 q4 t l3 h3)) (sD Try.f27 27 1 c 3 (some 8) e3 q3 t l2 h2)) (sD Try.f27 27 1 c 2 (some 7) e2 q2 t l h))
 .ret))
def kp28 : List Nat := [0, 1, 2, 3, 4]
def rc28 : RC := (.seq (.reg fun c t l h k => gn Try.f28 28 0 0 c (p0 t (g0 t)) t l h (fun v0 l0 h0 => gn Try.f28 28 0 1 c (p1 t (g1 t)) t l0 h0 (fun v1 l1 h1 => al Pg 31 4 l1 fun v2 l2 => k (p4 (p3 (p2 t v0) v1) v2) l2 h1)))
 (.seq (.reg fun c t l h k => bO (ld Pg 31 (g2 t) l h) fun v0 => bO (ld Pg 31 (g3 t) l h) fun v1 => jE ((6, v1) :: (5, v0) :: []) fun e2 => jF ((ldF (g3 t)) :: (ldF (g2 t)) :: []) fun q2 => clD c 32 [v1] l h (fun v2 f2 l2 h2 => jE ((7, v2) :: e2) fun e3 => jF (f2 :: q2) fun q3 => clD c 26 [v0, v2] l2 h2 (fun v3 f3 l3 h3 => jE ((8, v3) :: e3) fun e4 => jF (f3 :: q3) fun q4 => gD Try.f28 28 1 4 c (p8 (p4 t (g4 t)) v3) l3 h3 (fun v4 f4 l4 h4 => finD (rgA Try.f28 1).toList [] [(0, 2)] (f4 :: q4) (k t l4 h4)) (sD Try.f28 28 1 c 4 none e4 q4 t l3 h3)) (sD Try.f28 28 1 c 3 (some 8) e3 q3 t l2 h2)) (sD Try.f28 28 1 c 2 (some 7) e2 q2 t l h))
 .ret))
def kp31 : List Nat := [0, 1, 2]
def rc31 : RC := (.seq (.reg fun c t l h k => gn Try.f31 31 0 0 c (p0 t (g0 t)) t l h (fun v0 l0 h0 => al Pg 26 2 l0 fun v1 l1 => k (p2 (p1 t v0) v1) l1 h0))
 (.seq (.reg fun c t l h k => bO (fa Pg 26 (g1 t) 0) fun v0 => bO (ld Pg 24 v0 l h) fun v1 => bO (fa Pg 26 (g1 t) 1) fun v2 => bO (ld Pg 4 v2 l h) fun v3 => bO (G.un .not v3) fun v4 => cl c 65 [v1, v4] t l h fun v5 l5 h5 => jn (fun v6 l6 h6 => k t l6 h6) fun j6 => sto 26 (g2 t) v5 l5 h5 j6 (gn Try.f31 31 1 6 c (p8 (p2 t (g2 t)) v5) t l5 h5 j6))
 .ret))
def kp32 : List Nat := [0, 1, 2]
def rc32 : RC := (.seq (.reg fun c t l h k => gn Try.f32 32 0 0 c (p0 t (g0 t)) t l h (fun v0 l0 h0 => al Pg 31 2 l0 fun v1 l1 => k (p2 (p1 t v0) v1) l1 h0))
 (.seq (.reg fun c t l h k => bO (fa Pg 31 (g1 t) 0) fun v0 => bO (ld Pg 4 v0 l h) fun v1 => bO (G.un .not v1) fun v2 => jn (fun v3 l3 h3 => jn (fun v4 l4 h4 => jn (fun v5 l5 h5 => jn (fun v6 l6 h6 => bO (pick v2 v6 (.bool false)) fun v7 => bO (fa Pg 31 (g1 t) 1) fun v8 => bO (ld Pg 29 v8 l6 h6) fun v9 => gn Try.f32 32 1 11 c (p13 (p11 t v7) v9) t l6 h6 (fun v10 l10 h10 => jn (fun v11 l11 h11 => k t l11 h11) fun j11 => sto 31 (g2 t) v10 l10 h10 j11 (gn Try.f32 32 1 12 c (p14 (p2 t (g2 t)) v10) t l10 h10 j11))) fun j6 => brB (wv v2 true) (j6 (.tuple []) l5 h5) (bO (bin Pg .gtr 3 true v5 (I 0)) fun v7 => j6 v7 l5 h5)) fun j5 => brB (wv v2 true) (j5 (.tuple []) l4 h4) (bO (len (Pg.underlying 29) v4) fun v6 => j5 v6 l4 h4)) fun j4 => brB (wv v2 true) (j4 (.tuple []) l3 h3) (bO (ld Pg 29 v3 l3 h3) fun v5 => j4 v5 l3 h3)) fun j3 => brB (wv v2 true) (j3 (.tuple []) l h) (bO (fa Pg 31 (g1 t) 1) fun v4 => j3 v4 l h))
 .ret))
def kp34 : List Nat := [0, 1, 2, 3, 4]
def rc34 : RC := (.seq (.reg fun c t l h k => gn Try.f34 34 0 0 c (p0 t (g0 t)) t l h (fun v0 l0 h0 => gn Try.f34 34 0 1 c (p1 t (g1 t)) t l0 h0 (fun v1 l1 h1 => k (p4 (p3 (p2 t v0) v1) (I 0)) l1 h1)))
 (.seq (.reg fun c t l h k => bO (ld Pg 31 (g2 t) l h) fun v0 => bO (ld Pg 31 (g3 t) l h) fun v1 => cl c 28 [v0, v1] t l h fun v2 l2 h2 => cl c 36 [v2] t l2 h2 fun v3 l3 h3 => k (p4 t v3) l3 h3)
 .ret))
def kp36 : List Nat := [0, 1, 2, 3, 8]
def rc36 : RC := (.seq (.reg fun c t l h k => gn Try.f36 36 0 0 c (p0 t (g0 t)) t l h (fun v0 l0 h0 => k (p2 (p1 t v0) (I 0)) l0 h0))
 (.seq (.block 0 (.seq (.reg fun c t l h k => bO (fa Pg 31 (g1 t) 1) fun v0 => bO (ld Pg 29 v0 l h) fun v1 => bO (len (Pg.underlying 29) v1) fun v2 => bO (bin Pg .eql 3 true v2 (I 0)) fun v3 => k (p3 t v3) l h)
 (.cond (.tmp 3) (.seq (.reg fun c t l h k => k (p2 t (I 0)) l h)
 .ret) (.seq (.reg fun c t l h k => bO (fa Pg 31 (g1 t) 0) fun v0 => bO (ld Pg 4 v0 l h) fun v1 => k (p8 t v1) l h)
 (.cond (.tmp 8) (.seq (.reg fun c t l h k => k (p2 t (.int .i64 (.negSucc 0))) l h)
 .ret) .skip)))))
 (.seq (.reg fun c t l h k => k (p2 t (I 1)) l h)
 .ret)))
def kp37 : List Nat := [0, 1, 2, 3, 4, 5, 6, 7, 8, 9, 10, 14, 26, 51, 59]
def rc37 : RC := (.seq (.reg fun c t l h k => gn Try.f37 37 0 0 c (p0 t (g0 t)) t l h (fun v0 l0 h0 => gn Try.f37 37 0 1 c (p1 t (g1 t)) t l0 h0 (fun v1 l1 h1 => al Pg 26 4 l1 fun v2 l2 => al Pg 26 5 l2 fun v3 l3 => k (p5 (p4 (p3 (p2 t v0) v1) v2) v3) l3 h1)))
 (.seq (.seq (.reg fun c t l h k => bO (fa Pg 26 (g3 t) 0) fun v0 => bO (ld Pg 24 v0 l h) fun v1 => bO (len (Pg.underlying 24) v1) fun v2 => bO (bin Pg .eql 3 true v2 (I 0)) fun v3 => k (p14 t v3) l h)
 (.cond (.tmp 14) (.seq (.reg fun c t l h k => gD Try.f37 37 2 0 c t l h (fun v0 f0 l0 h0 => bO (ld Pg 26 (g2 t) l0 h0) fun v1 => jE ((16, v1) :: (15, v0) :: []) fun e2 => jF ((ldF (g2 t)) :: f0 :: []) fun q2 => gD Try.f37 37 2 2 c (p15 (p4 t (g4 t)) v0) l0 h0 (fun v2 f2 l2 h2 => jF (f2 :: q2) fun q3 => gD Try.f37 37 2 3 c (p16 (p5 t (g5 t)) v1) l2 h2 (fun v3 f3 l3 h3 => finD (rgA Try.f37 2).toList [(1, 2)] [(1, 2)] (f3 :: q3) (k t l3 h3)) (sD Try.f37 37 2 c 3 none e2 q3 t l2 h2)) (sD Try.f37 37 2 c 2 none e2 q2 t l0 h0)) (sD Try.f37 37 2 c 0 (some 15) [] [] t l h))
 .ret) .skip))
 (.seq (.reg fun c t l h k => gn Try.f37 37 3 0 c t t l h (fun v0 l0 h0 => bO (fa Pg 26 (g2 t) 0) fun v1 => bO (ld Pg 24 v1 l0 h0) fun v2 => cl c 65 [v2, (.bool false)] t l0 h0 fun v3 l3 h3 => al Pg 26 6 l3 fun v4 l4 => al Pg 26 7 l4 fun v5 l5 => jn (fun v6 l6 h6 => jn (fun v7 l7 h7 => k (p7 (p6 t v4) v5) l7 h7) fun j7 => sto 26 v5 v3 l6 h6 j7 (gn Try.f37 37 3 7 c (p20 (p7 t v5) v3) t l6 h6 j7)) fun j6 => sto 26 v4 v0 l5 h3 j6 (gn Try.f37 37 3 6 c (p17 (p6 t v4) v0) t l5 h3 j6)))
 (.seq (.seq (.reg fun c t l h k => bO (fa Pg 26 (g2 t) 0) fun v0 => bO (ld Pg 24 v0 l h) fun v1 => bO (fa Pg 26 (g3 t) 0) fun v2 => bO (ld Pg 24 v2 l h) fun v3 => cl c 72 [v1, v3] t l h fun v4 l4 h4 => bO (bin Pg .geq 3 true v4 (I 0)) fun v5 => k (p26 t v5) l4 h4)
 (.cond (.tmp 26) (.seq (.reg fun c t l h k => bO (fa Pg 26 (g2 t) 0) fun v0 => bO (ld Pg 24 v0 l h) fun v1 => bO (fa Pg 26 (g3 t) 0) fun v2 => bO (ld Pg 24 v2 l h) fun v3 => cl c 78 [v1, v3] t l h fun v4 l4 h4 => bO (ext v4 0) fun v5 => bO (ext v4 1) fun v6 => k (p9 (p8 t v5) v6) l4 h4)
 (.reg fun c t l h k => bO (fa Pg 26 (g2 t) 1) fun v0 => bO (ld Pg 4 v0 l h) fun v1 => bO (fa Pg 26 (g3 t) 1) fun v2 => bO (ld Pg 4 v2 l h) fun v3 => bO (bin Pg .neq 4 false v1 v3) fun v4 => cl c 65 [(g8 t), v4] t l h fun v5 l5 h5 => cl c 65 [(g9 t), (.bool false)] t l5 h5 fun v6 l6 h6 => jn (fun v7 l7 h7 => jn (fun v8 l8 h8 => k t l8 h8) fun j8 => sto 26 (g7 t) v6 l7 h7 j8 (gn Try.f37 37 6 10 c (p43 (p7 t (g7 t)) v6) t l7 h7 j8)) fun j7 => sto 26 (g6 t) v5 l6 h6 j7 (gn Try.f37 37 6 9 c (p41 (p6 t (g6 t)) v5) t l6 h6 j7))) .skip))
 (.seq (.seq (.reg fun c t l h k => bO (fa Pg 26 (g2 t) 1) fun v0 => bO (ld Pg 4 v0 l h) fun v1 => jn (fun v2 l2 h2 => jn (fun v3 l3 h3 => jn (fun v4 l4 h4 => jn (fun v5 l5 h5 => bO (pick v1 v5 (.bool false)) fun v6 => k (p51 t v6) l5 h5) fun j5 => brB (wv v1 true) (j5 (.tuple []) l4 h4) (bO (bin Pg .gtr 3 true v4 (I 0)) fun v6 => j5 v6 l4 h4)) fun j4 => brB (wv v1 true) (j4 (.tuple []) l3 h3) (bO (len (Pg.underlying 24) v3) fun v5 => j4 v5 l3 h3)) fun j3 => brB (wv v1 true) (j3 (.tuple []) l2 h2) (bO (ld Pg 24 v2 l2 h2) fun v4 => j3 v4 l2 h2)) fun j2 => brB (wv v1 true) (j2 (.tuple []) l h) (bO (fa Pg 26 (g7 t) 0) fun v3 => j2 v3 l h))
 (.cond (.tmp 51) (.seq (.reg fun c t l h k => bO (fa Pg 26 (g3 t) 0) fun v0 => bO (ld Pg 24 v0 l h) fun v1 => jE ((53, v1) :: (52, v0) :: []) fun e2 => jF ((ldF v0) :: ft0 :: []) fun q2 => clD c 65 [v1, (.bool false)] l h (fun v2 f2 l2 h2 => bO (ld Pg 26 (g7 t) l2 h2) fun v3 => jE ((55, v3) :: (54, v2) :: e2) fun e4 => jF ((ldF (g7 t)) :: f2 :: q2) fun q4 => clD c 27 [v2, v3] l2 h2 (fun v4 f4 l4 h4 => jE ((56, v4) :: e4) fun e5 => jF (f4 :: q4) fun q5 => gD Try.f37 37 8 5 c (p56 (p7 t (g7 t)) v4) l4 h4 (fun v5 f5 l5 h5 => finD (rgA Try.f37 8).toList [] [(2, 3)] (f5 :: q5) (k t l5 h5)) (sD Try.f37 37 8 c 5 none e5 q5 t l4 h4)) (sD Try.f37 37 8 c 4 (some 56) e4 q4 t l2 h2)) (sD Try.f37 37 8 c 2 (some 54) e2 q2 t l h))
 (.seq (.reg fun c t l h k => cl c 21 [(I 1)] t l h fun v0 l0 h0 => al Pg 26 10 l0 fun v1 l1 => jn (fun v2 l2 h2 => k (p10 t v1) l2 h2) fun j2 => sto 26 v1 v0 l1 h0 j2 (gn Try.f37 37 9 2 c (p57 (p10 t v1) v0) t l1 h0 j2))
 (.seq (.seq (.reg fun c t l h k => bO (fa Pg 26 (g3 t) 1) fun v0 => bO (ld Pg 4 v0 l h) fun v1 => k (p59 t v1) l h)
 (.cond (.tmp 59) (.reg fun c t l h k => cl c 21 [(.int .i64 (.negSucc 0))] t l h fun v0 l0 h0 => jn (fun v1 l1 h1 => k t l1 h1) fun j1 => sto 26 (g10 t) v0 l0 h0 j1 (gn Try.f37 37 11 1 c (p60 (p10 t (g10 t)) v0) t l0 h0 j1)) .skip))
 (.reg fun c t l h k => bO (ld Pg 26 (g6 t) l h) fun v0 => bO (ld Pg 26 (g10 t) l h) fun v1 => cl c 27 [v0, v1] t l h fun v2 l2 h2 => jn (fun v3 l3 h3 => k t l3 h3) fun j3 => sto 26 (g6 t) v2 l2 h2 j3 (gn Try.f37 37 12 3 c (p63 (p6 t (g6 t)) v2) t l2 h2 j3))))) .skip))
 (.seq (.reg fun c t l h k => bO (ld Pg 26 (g6 t) l h) fun v0 => bO (ld Pg 26 (g7 t) l h) fun v1 => jE ((65, v1) :: (64, v0) :: []) fun e2 => jF ((ldF (g7 t)) :: (ldF (g6 t)) :: []) fun q2 => gD Try.f37 37 13 2 c (p64 (p4 t (g4 t)) v0) l h (fun v2 f2 l2 h2 => jF (f2 :: q2) fun q3 => gD Try.f37 37 13 3 c (p65 (p5 t (g5 t)) v1) l2 h2 (fun v3 f3 l3 h3 => finD (rgA Try.f37 13).toList [(1, 2)] [(1, 2)] (f3 :: q3) (k t l3 h3)) (sD Try.f37 37 13 c 3 none e2 q3 t l2 h2)) (sD Try.f37 37 13 c 2 none e2 q2 t l h))
 .ret))))))
def kp64 : List Nat := [0, 1, 2, 6, 7, 8, 9, 10, 11, 12, 31]
def rc64 : RC := (.seq (.reg fun c t l h k => k (p6 t .nils) l h)
 (.seq (.seq (.reg fun c t l h k => bO (len (Pg.underlying 24) (g0 t)) fun v0 => k (p11 (p10 (p9 t (g0 t)) v0) (I 0)) l h)
 (.block 0 (.loop (.seq (.reg fun c t l h k => bO (bin Pg .lss 3 false (g11 t) (g10 t)) fun v0 => k (p12 t v0) l h)
 (.seq (.cond (.tmp 12) .skip (.exit 0))
 (.seq (.block 1 (.seq (.reg fun c t l h k => bO (ia Pg 24 (g9 t) (g11 t)) fun v0 => bO (ld Pg 86 v0 l h) fun v1 => k (p8 (p7 t (g11 t)) v1) l h)
 (.seq (.reg fun c t l h k => gn Try.f64 64 4 2 c (p17 t (g8 t)) t l h (fun v0 l0 h0 => bO (bin Pg .mul 80 false v0 (g1 t)) fun v1 => bO (bin Pg .add 80 false (g2 t) v1) fun v2 => k (p2 t v2) l0 h0))
 (.seq (.reg fun c t l h k => gn Try.f64 64 5 3 c (p24 t (g2 t)) t l h (fun v0 l0 h0 => bO (ia Pg 24 (g0 t) (g7 t)) fun v1 => jn (fun v2 l2 h2 => k t l2 h2) fun j2 => sto 86 v1 v0 l0 h0 j2 (gn Try.f64 64 5 5 c (p25 (p26 t v1) v0) t l0 h0 j2)))
 (.reg fun c t l h k => bO (bin Pg .shr 80 true (g2 t) (.int .u64 (.ofNat 32))) fun v0 => k (p2 t v0) l h)))))
 (.reg fun c t l h k => bO (bin Pg .add 3 true (g11 t) (I 1)) fun v0 => k (p11 t v0) l h)))))))
 (.seq (.seq (.reg fun c t l h k => bO (bin Pg .gtr 80 true (g2 t) (.int .u64 (.ofNat 0))) fun v0 => k (p31 t v0) l h)
 (.cond (.tmp 31) (.reg fun c t l h k => gn Try.f64 64 9 2 c (p33 t (g2 t)) t l h (fun v0 l0 h0 => gn Try.f64 64 9 3 c (p34 t v0) t l0 h0 (fun v1 l1 h1 => gn Try.f64 64 9 4 c (p35 (p32 t (g0 t)) v1) t l1 h1 (fun v2 l2 h2 => k (p0 t v2) l2 h2)))) .skip))
 (.seq (.reg fun c t l h k => k (p6 t (g0 t)) l h)
 .ret))))
def kp65 : List Nat := [0, 1, 4, 16]
def rc65 : RC := (.seq (.reg fun c t l h k => al Pg 26 4 l fun v0 l0 => k (p4 t v0) l0 h)
 (.seq (.block 0 (.loop (.seq (.seq (.reg fun c t l h k => bO (len (Pg.underlying 24) (g0 t)) fun v0 => bO (bin Pg .gtr 3 true v0 (I 0)) fun v1 => jn (fun v2 l2 h2 => jn (fun v3 l3 h3 => jn (fun v4 l4 h4 => jn (fun v5 l5 h5 => jn (fun v6 l6 h6 => jn (fun v7 l7 h7 => jn (fun v8 l8 h8 => bO (pick v1 v8 (.bool false)) fun v9 => k (p16 t v9) l8 h8) fun j8 => brB (wv v1 true) (j8 (.tuple []) l7 h7) (bO (bin Pg .eql 86 true v7 (.int .u32 (.ofNat 0))) fun v9 => j8 v9 l7 h7)) fun j7 => brB (wv v1 true) (j7 (.tuple []) l6 h6) (bO (ld Pg 86 v6 l6 h6) fun v8 => j7 v8 l6 h6)) fun j6 => brB (wv v1 true) (j6 (.tuple []) l5 h5) (bO (ia Pg 24 v2 v5) fun v7 => j6 v7 l5 h5)) fun j5 => brB (wv v1 true) (j5 (.tuple []) l4 h4) (bO (bin Pg .sub 3 true v4 (I 1)) fun v6 => j5 v6 l4 h4)) fun j4 => brB (wv v1 true) (j4 (.tuple []) l3 h3) (bO (len (Pg.underlying 24) v3) fun v5 => j4 v5 l3 h3)) fun j3 => brB (wv v1 true) (j3 (.tuple []) l2 h2) (j3 (g0 t) l2 h2)) fun j2 => brB (wv v1 true) (j2 (.tuple []) l h) (j2 (g0 t) l h))
 (.cond (.tmp 16) .skip (.exit 0)))
 (.block 1 (.reg fun c t l h k => bO (len (Pg.underlying 24) (g0 t)) fun v0 => bO (bin Pg .sub 3 true v0 (I 1)) fun v1 => bO (slc Pg 24 (g0 t) none (some v1) none) fun v2 => k (p0 t v2) l h)))))
 (.seq (.reg fun c t l h k => jn (fun v0 l0 h0 => jn (fun v1 l1 h1 => jn (fun v2 l2 h2 => bO (pick (g1 t) v2 (.bool false)) fun v3 => gn Try.f65 65 3 7 c (p28 (p22 t (g0 t)) v3) t l2 h2 (fun v4 l4 h4 => jn (fun v5 l5 h5 => k t l5 h5) fun j5 => sto 26 (g4 t) v4 l4 h4 j5 (gn Try.f65 65 3 8 c (p29 (p4 t (g4 t)) v4) t l4 h4 j5))) fun j2 => brB (wv (g1 t) true) (j2 (.tuple []) l1 h1) (bO (bin Pg .gtr 3 true v1 (I 0)) fun v3 => j2 v3 l1 h1)) fun j1 => brB (wv (g1 t) true) (j1 (.tuple []) l0 h0) (bO (len (Pg.underlying 24) v0) fun v2 => j1 v2 l0 h0)) fun j0 => brB (wv (g1 t) true) (j0 (.tuple []) l h) (j0 (g0 t) l h))
 .ret)))
def kp66 : List Nat := [0, 2, 3, 11, 32, 36, 48]
def rc66 : RC := (.seq (.reg fun c t l h k => k (p2 t (.bool false)) l h)
 (.seq (.reg fun c t l h k => k (p3 t (I 0)) l h)
 (.seq (.seq (.reg fun c t l h k => bO (len (Pg.underlying 9) (g0 t)) fun v0 => bO (bin Pg .gtr 3 true v0 (I 0)) fun v1 => jn (fun v2 l2 h2 => jn (fun v3 l3 h3 => jn (fun v4 l4 h4 => bO (pick v1 v4 (.bool false)) fun v5 => k (p11 t v5) l4 h4) fun j4 => brB (wv v1 true) (j4 (.tuple []) l3 h3) (bO (bin Pg .eql 5 true v3 (.int .u8 (.ofNat 45))) fun v5 => j4 v5 l3 h3)) fun j3 => brB (wv v1 true) (j3 (.tuple []) l2 h2) (bO (idx Pg 9 v2 (I 0)) fun v4 => j3 v4 l2 h2)) fun j2 => brB (wv v1 true) (j2 (.tuple []) l h) (j2 (g0 t) l h))
 (.cond (.tmp 11) (.reg fun c t l h k => k (p3 t (I 1)) l h) .skip))
 (.seq (.seq (.reg fun c t l h k => bO (len (Pg.underlying 9) (g0 t)) fun v0 => bO (bin Pg .eql 3 false (g3 t) v0) fun v1 => jn (fun v2 l2 h2 => jn (fun v3 l3 h3 => jn (fun v4 l4 h4 => jn (fun v5 l5 h5 => jn (fun v6 l6 h6 => jn (fun v7 l7 h7 => jn (fun v8 l8 h8 => jn (fun v9 l9 h9 => jn (fun v10 l10 h10 => jn (fun v11 l11 h11 => jn (fun v12 l12 h12 => jn (fun v13 l13 h13 => jn (fun v14 l14 h14 => jn (fun v15 l15 h15 => jn (fun v16 l16 h16 => bO (pick v1 (.bool true) v16) fun v17 => k (p32 t v17) l16 h16) fun j16 => brB (wv v1 false) (j16 (.tuple []) l15 h15) (bO (pick v6 v15 (.bool false)) fun v17 => j16 v17 l15 h15)) fun j15 => brB (wv v6 true) (j15 (.tuple []) l14 h14) (bO (pick v12 (.bool true) v14) fun v16 => j15 v16 l14 h14)) fun j14 => brB (wv v12 false) (j14 (.tuple []) l13 h13) (bO (bin Pg .eql 3 true v13 (I 1)) fun v15 => j14 v15 l13 h13)) fun j13 => brB (wv v12 false) (j13 (.tuple []) l12 h12) (j13 (g3 t) l12 h12)) fun j12 => brB (wv v6 true) (j12 (.tuple []) l11 h11) (j12 v11 l11 h11)) fun j11 => brB (wv v6 true) (j11 (.tuple []) l10 h10) (bO (bin Pg .gtr 3 false v8 v10) fun v12 => j11 v12 l10 h10)) fun j10 => brB (wv v6 true) (j10 (.tuple []) l9 h9) (bO (bin Pg .add 3 true v9 (I 1)) fun v11 => j10 v11 l9 h9)) fun j9 => brB (wv v6 true) (j9 (.tuple []) l8 h8) (j9 (g3 t) l8 h8)) fun j8 => brB (wv v6 true) (j8 (.tuple []) l7 h7) (bO (len (Pg.underlying 9) v7) fun v9 => j8 v9 l7 h7)) fun j7 => brB (wv v6 true) (j7 (.tuple []) l6 h6) (j7 (g0 t) l6 h6)) fun j6 => brB (wv v1 false) (j6 (.tuple []) l5 h5) (j6 v5 l5 h5)) fun j5 => brB (wv v1 false) (j5 (.tuple []) l4 h4) (bO (bin Pg .eql 5 true v4 (.int .u8 (.ofNat 48))) fun v6 => j5 v6 l4 h4)) fun j4 => brB (wv v1 false) (j4 (.tuple []) l3 h3) (bO (idx Pg 9 v2 v3) fun v5 => j4 v5 l3 h3)) fun j3 => brB (wv v1 false) (j3 (.tuple []) l2 h2) (j3 (g3 t) l2 h2)) fun j2 => brB (wv v1 false) (j2 (.tuple []) l h) (j2 (g0 t) l h))
 (.cond (.tmp 32) (.seq (.reg fun c t l h k => k (p2 t (.bool false)) l h)
 .ret) .skip))
 (.seq (.block 0 (.loop (.seq (.seq (.reg fun c t l h k => bO (len (Pg.underlying 9) (g0 t)) fun v0 => bO (bin Pg .lss 3 false (g3 t) v0) fun v1 => k (p36 t v1) l h)
 (.cond (.tmp 36) .skip (.exit 0)))
 (.seq (.block 1 (.seq (.reg fun c t l h k => bO (idx Pg 9 (g0 t) (g3 t)) fun v0 => bO (bin Pg .lss 5 true v0 (.int .u8 (.ofNat 48))) fun v1 => jn (fun v2 l2 h2 => jn (fun v3 l3 h3 => jn (fun v4 l4 h4 => jn (fun v5 l5 h5 => bO (pick v1 (.bool true) v5) fun v6 => k (p48 t v6) l5 h5) fun j5 => brB (wv v1 false) (j5 (.tuple []) l4 h4) (bO (bin Pg .gtr 5 true v4 (.int .u8 (.ofNat 57))) fun v6 => j5 v6 l4 h4)) fun j4 => brB (wv v1 false) (j4 (.tuple []) l3 h3) (bO (idx Pg 9 v2 v3) fun v5 => j4 v5 l3 h3)) fun j3 => brB (wv v1 false) (j3 (.tuple []) l2 h2) (j3 (g3 t) l2 h2)) fun j2 => brB (wv v1 false) (j2 (.tuple []) l h) (j2 (g0 t) l h))
 (.cond (.tmp 48) (.seq (.reg fun c t l h k => k (p2 t (.bool false)) l h)
 .ret) .skip)))
 (.reg fun c t l h k => bO (bin Pg .add 3 true (g3 t) (I 1)) fun v0 => k (p3 t v0) l h)))))
 (.seq (.reg fun c t l h k => k (p2 t (.bool true)) l h)
 .ret))))))
def kp67 : List Nat := [0, 1, 4, 16]
def rc67 : RC := (.seq (.reg fun c t l h k => al Pg 31 4 l fun v0 l0 => k (p4 t v0) l0 h)
 (.seq (.block 0 (.loop (.seq (.seq (.reg fun c t l h k => bO (len (Pg.underlying 29) (g1 t)) fun v0 => bO (bin Pg .gtr 3 true v0 (I 0)) fun v1 => jn (fun v2 l2 h2 => jn (fun v3 l3 h3 => jn (fun v4 l4 h4 => jn (fun v5 l5 h5 => jn (fun v6 l6 h6 => jn (fun v7 l7 h7 => jn (fun v8 l8 h8 => bO (pick v1 v8 (.bool false)) fun v9 => k (p16 t v9) l8 h8) fun j8 => brB (wv v1 true) (j8 (.tuple []) l7 h7) (bO (bin Pg .eql 3 true v7 (I 0)) fun v9 => j8 v9 l7 h7)) fun j7 => brB (wv v1 true) (j7 (.tuple []) l6 h6) (bO (ld Pg 3 v6 l6 h6) fun v8 => j7 v8 l6 h6)) fun j6 => brB (wv v1 true) (j6 (.tuple []) l5 h5) (bO (ia Pg 29 v2 v5) fun v7 => j6 v7 l5 h5)) fun j5 => brB (wv v1 true) (j5 (.tuple []) l4 h4) (bO (bin Pg .sub 3 true v4 (I 1)) fun v6 => j5 v6 l4 h4)) fun j4 => brB (wv v1 true) (j4 (.tuple []) l3 h3) (bO (len (Pg.underlying 29) v3) fun v5 => j4 v5 l3 h3)) fun j3 => brB (wv v1 true) (j3 (.tuple []) l2 h2) (j3 (g1 t) l2 h2)) fun j2 => brB (wv v1 true) (j2 (.tuple []) l h) (j2 (g1 t) l h))
 (.cond (.tmp 16) .skip (.exit 0)))
 (.block 1 (.reg fun c t l h k => bO (len (Pg.underlying 29) (g1 t)) fun v0 => bO (bin Pg .sub 3 true v0 (I 1)) fun v1 => bO (slc Pg 29 (g1 t) none (some v1) none) fun v2 => k (p1 t v2) l h)))))
 (.seq (.reg fun c t l h k => jn (fun v0 l0 h0 => jn (fun v1 l1 h1 => jn (fun v2 l2 h2 => bO (pick (g0 t) v2 (.bool false)) fun v3 => gn Try.f67 67 3 7 c (p28 (p27 t v3) (g1 t)) t l2 h2 (fun v4 l4 h4 => jn (fun v5 l5 h5 => k t l5 h5) fun j5 => sto 31 (g4 t) v4 l4 h4 j5 (gn Try.f67 67 3 8 c (p29 (p4 t (g4 t)) v4) t l4 h4 j5))) fun j2 => brB (wv (g0 t) true) (j2 (.tuple []) l1 h1) (bO (bin Pg .gtr 3 true v1 (I 0)) fun v3 => j2 v3 l1 h1)) fun j1 => brB (wv (g0 t) true) (j1 (.tuple []) l0 h0) (bO (len (Pg.underlying 29) v0) fun v2 => j1 v2 l0 h0)) fun j0 => brB (wv (g0 t) true) (j0 (.tuple []) l h) (j0 (g1 t) l h))
 .ret)))
def kp68 : List Nat := [0, 2, 4]
def rc68 : RC := (.seq (.reg fun c t l h k => k (p2 t .nils) l h)
 (.seq (.seq (.reg fun c t l h k => bO (bin Pg .eql 24 true (g0 t) .nils) fun v0 => k (p4 t v0) l h)
 (.cond (.tmp 4) (.seq (.reg fun c t l h k => k (p2 t .nils) l h)
 .ret) .skip))
 (.seq (.reg fun c t l h k => gn Try.f68 68 3 0 c t t l h (fun v0 l0 h0 => gn Try.f68 68 3 2 c (p6 (p5 t v0) (g0 t)) t l0 h0 (fun v1 l1 h1 => k (p2 t v1) l1 h1)))
 .ret)))
def kp69 : List Nat := [0, 2, 3, 9]
def rc69 : RC := (.seq (.reg fun c t l h k => bO (len (Pg.underlying 51) (g0 t)) fun v0 => bO (bin Pg .sub 3 true v0 (I 1)) fun v1 => k (p3 (p2 t (I 0)) v1) l h)
 (.block 0 (.loop (.seq (.seq (.reg fun c t l h k => bO (bin Pg .lss 3 false (g2 t) (g3 t)) fun v0 => k (p9 t v0) l h)
 (.cond (.tmp 9) .skip (.exit 0)))
 (.seq (.block 1 (.reg fun c t l h k => bO (ia Pg 51 (g0 t) (g3 t)) fun v0 => bO (ld Pg 5 v0 l h) fun v1 => bO (ia Pg 51 (g0 t) (g2 t)) fun v2 => bO (ld Pg 5 v2 l h) fun v3 => bO (ia Pg 51 (g0 t) (g2 t)) fun v4 => jE ((26, v4) :: (25, v3) :: (24, v2) :: (23, (g2 t)) :: (22, (g0 t)) :: (21, v1) :: (20, v0) :: (19, (g3 t)) :: (18, (g0 t)) :: (17, (g3 t)) :: (16, (g0 t)) :: (15, (g2 t)) :: (14, (g0 t)) :: []) fun e5 => jF (ft0 :: (ldF v2) :: ft0 :: ft0 :: ft0 :: (ldF v0) :: ft0 :: ft0 :: ft0 :: ft0 :: ft0 :: ft0 :: ft0 :: []) fun q5 => gD Try.f69 69 3 13 c (p21 (p26 t v4) v1) l h (fun v5 f5 l5 h5 => bO (ia Pg 51 (g0 t) (g3 t)) fun v6 => jE ((27, v6) :: e5) fun e7 => jF (ft0 :: f5 :: q5) fun q7 => gD Try.f69 69 3 15 c (p25 (p27 t v6) v3) l5 h5 (fun v7 f7 l7 h7 => finD (rgA Try.f69 3).toList [] [] (f7 :: q7) (k t l7 h7)) (sD Try.f69 69 3 c 15 none e7 q7 t l5 h5)) (sD Try.f69 69 3 c 13 none e5 q5 t l h)))
 (.reg fun c t l h k => bO (bin Pg .add 3 true (g2 t) (I 1)) fun v0 => bO (bin Pg .sub 3 true (g3 t) (I 1)) fun v1 => k (p3 (p2 t v0) v1) l h))))))
def kp71 : List Nat := [0, 1, 4, 5, 6, 7, 13, 14, 15, 20, 31]
def rc71 : RC := (.seq (.reg fun c t l h k => k (p4 t .nils) l h)
 (.seq (.reg fun c t l h k => k (p5 t .nils) l h)
 (.seq (.reg fun c t l h k => k (p6 t (.int .u64 (.ofNat 0))) l h)
 (.seq (.seq (.reg fun c t l h k => bO (len (Pg.underlying 24) (g0 t)) fun v0 => bO (len (Pg.underlying 24) (g1 t)) fun v1 => bO (mxV v0 v1) fun v2 => bO (bin Pg .add 3 true v2 (I 1)) fun v3 => k (p14 (p13 t v3) (I 0)) l h)
 (.block 0 (.loop (.seq (.reg fun c t l h k => bO (bin Pg .lss 3 false (g14 t) (g13 t)) fun v0 => k (p15 t v0) l h)
 (.seq (.cond (.tmp 15) .skip (.exit 0))
 (.seq (.block 1 (.seq (.reg fun c t l h k => k (p7 t (g14 t)) l h)
 (.seq (.seq (.reg fun c t l h k => bO (len (Pg.underlying 24) (g0 t)) fun v0 => bO (bin Pg .lss 3 false (g7 t) v0) fun v1 => k (p20 t v1) l h)
 (.cond (.tmp 20) (.reg fun c t l h k => bO (ia Pg 24 (g0 t) (g7 t)) fun v0 => bO (ld Pg 86 v0 l h) fun v1 => gn Try.f71 71 7 5 c (p25 t v1) t l h (fun v2 l2 h2 => bO (bin Pg .add 80 false (g6 t) v2) fun v3 => k (p6 t v3) l2 h2)) .skip))
 (.seq (.seq (.reg fun c t l h k => bO (len (Pg.underlying 24) (g1 t)) fun v0 => bO (bin Pg .lss 3 false (g7 t) v0) fun v1 => k (p31 t v1) l h)
 (.cond (.tmp 31) (.reg fun c t l h k => bO (ia Pg 24 (g1 t) (g7 t)) fun v0 => bO (ld Pg 86 v0 l h) fun v1 => gn Try.f71 71 9 5 c (p36 t v1) t l h (fun v2 l2 h2 => bO (bin Pg .add 80 false (g6 t) v2) fun v3 => k (p6 t v3) l2 h2)) .skip))
 (.seq (.reg fun c t l h k => gn Try.f71 71 10 2 c (p40 t (g6 t)) t l h (fun v0 l0 h0 => gn Try.f71 71 10 3 c (p41 t v0) t l0 h0 (fun v1 l1 h1 => gn Try.f71 71 10 4 c (p42 (p39 t (g5 t)) v1) t l1 h1 (fun v2 l2 h2 => k (p5 t v2) l2 h2))))
 (.reg fun c t l h k => bO (bin Pg .shr 80 true (g6 t) (.int .u64 (.ofNat 32))) fun v0 => k (p6 t v0) l h))))))
 (.reg fun c t l h k => bO (bin Pg .add 3 true (g14 t) (I 1)) fun v0 => k (p14 t v0) l h)))))))
 (.seq (.reg fun c t l h k => k (p4 t (g5 t)) l h)
 .ret)))))
def kp72 : List Nat := [0, 1, 4, 5, 10, 22, 25, 35]
def rc72 : RC := (.seq (.reg fun c t l h k => k (p4 t (I 0)) l h)
 (.seq (.seq (.reg fun c t l h k => bO (len (Pg.underlying 24) (g0 t)) fun v0 => bO (len (Pg.underlying 24) (g1 t)) fun v1 => bO (bin Pg .neq 3 false v0 v1) fun v2 => k (p10 t v2) l h)
 (.cond (.tmp 10) (.seq (.reg fun c t l h k => bO (len (Pg.underlying 24) (g0 t)) fun v0 => bO (len (Pg.underlying 24) (g1 t)) fun v1 => bO (bin Pg .sub 3 false v0 v1) fun v2 => bO (mxV v2 (.int .i64 (.negSucc 0))) fun v3 => bO (mnV v3 (I 1)) fun v4 => k (p4 t v4) l h)
 .ret) .skip))
 (.seq (.seq (.reg fun c t l h k => bO (len (Pg.underlying 24) (g0 t)) fun v0 => bO (bin Pg .sub 3 true v0 (I 1)) fun v1 => k (p5 t v1) l h)
 (.block 0 (.loop (.seq (.seq (.reg fun c t l h k => bO (bin Pg .geq 3 true (g5 t) (I 0)) fun v0 => k (p22 t v0) l h)
 (.cond (.tmp 22) .skip (.exit 0)))
 (.seq (.block 1 (.block 2 (.seq (.reg fun c t l h k => bO (ia Pg 24 (g0 t) (g5 t)) fun v0 => bO (ld Pg 86 v0 l h) fun v1 => bO (ia Pg 24 (g1 t) (g5 t)) fun v2 => bO (ld Pg 86 v2 l h) fun v3 => bO (bin Pg .lss 86 false v1 v3) fun v4 => k (p25 t v4) l h)
 (.cond (.tmp 25) (.seq (.reg fun c t l h k => k (p4 t (.int .i64 (.negSucc 0))) l h)
 .ret) (.seq (.reg fun c t l h k => bO (ia Pg 24 (g0 t) (g5 t)) fun v0 => bO (ld Pg 86 v0 l h) fun v1 => bO (ia Pg 24 (g1 t) (g5 t)) fun v2 => bO (ld Pg 86 v2 l h) fun v3 => bO (bin Pg .gtr 86 false v1 v3) fun v4 => k (p35 t v4) l h)
 (.cond (.tmp 35) (.seq (.reg fun c t l h k => k (p4 t (I 1)) l h)
 .ret) .skip))))))
 (.reg fun c t l h k => bO (bin Pg .sub 3 true (g5 t) (I 1)) fun v0 => k (p5 t v0) l h))))))
 (.seq (.reg fun c t l h k => k (p4 t (I 0)) l h)
 .ret))))
def kp73 : List Nat := [0, 1, 4, 5, 6, 7, 8, 9, 10, 11, 12, 13, 20]
def rc73 : RC := (.seq (.reg fun c t l h k => k (p4 t .nils) l h)
 (.seq (.reg fun c t l h k => k (p5 t .nils) l h)
 (.seq (.reg fun c t l h k => k (p6 t (.int .u32 (.ofNat 0))) l h)
 (.seq (.seq (.reg fun c t l h k => bO (len (Pg.underlying 24) (g0 t)) fun v0 => k (p12 (p11 (p10 t (g0 t)) v0) (I 0)) l h)
 (.block 0 (.loop (.seq (.reg fun c t l h k => bO (bin Pg .lss 3 false (g12 t) (g11 t)) fun v0 => k (p13 t v0) l h)
 (.seq (.cond (.tmp 13) .skip (.exit 0))
 (.seq (.block 1 (.seq (.reg fun c t l h k => bO (ia Pg 24 (g10 t) (g12 t)) fun v0 => bO (ld Pg 86 v0 l h) fun v1 => k (p8 (p7 t (g12 t)) v1) l h)
 (.seq (.reg fun c t l h k => k (p9 t (.int .u32 (.ofNat 0))) l h)
 (.seq (.seq (.reg fun c t l h k => bO (len (Pg.underlying 24) (g1 t)) fun v0 => bO (bin Pg .lss 3 false (g7 t) v0) fun v1 => k (p20 t v1) l h)
 (.cond (.tmp 20) (.reg fun c t l h k => bO (ia Pg 24 (g1 t) (g7 t)) fun v0 => bO (ld Pg 86 v0 l h) fun v1 => k (p9 t v1) l h) .skip))
 (.seq (.reg fun c t l h k => cl c 83 [(g8 t), (g9 t), (g6 t)] t l h fun v0 l0 h0 => bO (ext v0 0) fun v1 => bO (ext v0 1) fun v2 => k (p6 (p8 t v1) v2) l0 h0)
 (.reg fun c t l h k => gn Try.f73 73 10 2 c (p33 t (g8 t)) t l h (fun v0 l0 h0 => gn Try.f73 73 10 3 c (p34 (p32 t (g5 t)) v0) t l0 h0 (fun v1 l1 h1 => k (p5 t v1) l1 h1))))))))
 (.reg fun c t l h k => bO (bin Pg .add 3 true (g12 t) (I 1)) fun v0 => k (p12 t v0) l h)))))))
 (.seq (.reg fun c t l h k => k (p4 t (g5 t)) l h)
 .ret)))))
def kp74 : List Nat := [0, 1, 4, 5, 6, 7, 21, 27, 37]
def rc74 : RC := (.seq (.reg fun c t l h k => k (p4 t .nils) l h)
 (.seq (.reg fun c t l h k => k (p5 t .nils) l h)
 (.seq (.reg fun c t l h k => k (p6 t (I 0)) l h)
 (.seq (.seq (.reg fun c t l h k => k (p7 t (I 0)) l h)
 (.block 0 (.loop (.seq (.seq (.reg fun c t l h k => bO (len (Pg.underlying 29) (g0 t)) fun v0 => bO (bin Pg .lss 3 false (g7 t) v0) fun v1 => jn (fun v2 l2 h2 => jn (fun v3 l3 h3 => jn (fun v4 l4 h4 => jn (fun v5 l5 h5 => bO (pick v1 (.bool true) v5) fun v6 => jn (fun v7 l7 h7 => jn (fun v8 l8 h8 => bO (pick v6 (.bool true) v8) fun v9 => k (p21 t v9) l8 h8) fun j8 => brB (wv v6 false) (j8 (.tuple []) l7 h7) (bO (bin Pg .gtr 3 true v7 (I 0)) fun v9 => j8 v9 l7 h7)) fun j7 => brB (wv v6 false) (j7 (.tuple []) l5 h5) (j7 (g6 t) l5 h5)) fun j5 => brB (wv v1 false) (j5 (.tuple []) l4 h4) (bO (bin Pg .lss 3 false v2 v4) fun v6 => j5 v6 l4 h4)) fun j4 => brB (wv v1 false) (j4 (.tuple []) l3 h3) (bO (len (Pg.underlying 29) v3) fun v5 => j4 v5 l3 h3)) fun j3 => brB (wv v1 false) (j3 (.tuple []) l2 h2) (j3 (g1 t) l2 h2)) fun j2 => brB (wv v1 false) (j2 (.tuple []) l h) (j2 (g7 t) l h))
 (.cond (.tmp 21) .skip (.exit 0)))
 (.seq (.block 1 (.seq (.seq (.reg fun c t l h k => bO (len (Pg.underlying 29) (g0 t)) fun v0 => bO (bin Pg .lss 3 false (g7 t) v0) fun v1 => k (p27 t v1) l h)
 (.cond (.tmp 27) (.reg fun c t l h k => bO (ia Pg 29 (g0 t) (g7 t)) fun v0 => bO (ld Pg 3 v0 l h) fun v1 => bO (bin Pg .add 3 false (g6 t) v1) fun v2 => k (p6 t v2) l h) .skip))
 (.seq (.seq (.reg fun c t l h k => bO (len (Pg.underlying 29) (g1 t)) fun v0 => bO (bin Pg .lss 3 false (g7 t) v0) fun v1 => k (p37 t v1) l h)
 (.cond (.tmp 37) (.reg fun c t l h k => bO (ia Pg 29 (g1 t) (g7 t)) fun v0 => bO (ld Pg 3 v0 l h) fun v1 => bO (bin Pg .add 3 false (g6 t) v1) fun v2 => k (p6 t v2) l h) .skip))
 (.seq (.reg fun c t l h k => bO (bin Pg .rem 3 true (g6 t) (I 10000)) fun v0 => bO (bs Pg 29 1 [(0, v0)]) fun v1 => gn Try.f74 74 10 4 c (p47 (p44 t (g5 t)) v1) t l h (fun v2 l2 h2 => k (p5 t v2) l2 h2))
 (.reg fun c t l h k => bO (bin Pg .quo 3 true (g6 t) (I 10000)) fun v0 => k (p6 t v0) l h)))))
 (.reg fun c t l h k => bO (bin Pg .add 3 true (g7 t) (I 1)) fun v0 => k (p7 t v0) l h))))))
 (.seq (.reg fun c t l h k => k (p4 t (g5 t)) l h)
 .ret)))))
def kp75 : List Nat := [0, 1, 4, 5, 10, 15, 20, 31, 40]
def rc75 : RC := (.seq (.reg fun c t l h k => k (p4 t (I 0)) l h)
 (.seq (.seq (.reg fun c t l h k => bO (len (Pg.underlying 29) (g0 t)) fun v0 => bO (len (Pg.underlying 29) (g1 t)) fun v1 => bO (bin Pg .neq 3 false v0 v1) fun v2 => k (p10 t v2) l h)
 (.cond (.tmp 10) (.seq (.seq (.reg fun c t l h k => bO (len (Pg.underlying 29) (g0 t)) fun v0 => bO (len (Pg.underlying 29) (g1 t)) fun v1 => bO (bin Pg .lss 3 false v0 v1) fun v2 => k (p15 t v2) l h)
 (.cond (.tmp 15) (.seq (.reg fun c t l h k => k (p4 t (.int .i64 (.negSucc 0))) l h)
 .ret) .skip))
 (.seq (.reg fun c t l h k => k (p4 t (I 1)) l h)
 .ret)) .skip))
 (.seq (.seq (.reg fun c t l h k => bO (len (Pg.underlying 29) (g0 t)) fun v0 => bO (bin Pg .sub 3 true v0 (I 1)) fun v1 => k (p5 t v1) l h)
 (.block 0 (.loop (.seq (.seq (.reg fun c t l h k => bO (bin Pg .geq 3 true (g5 t) (I 0)) fun v0 => k (p20 t v0) l h)
 (.cond (.tmp 20) .skip (.exit 0)))
 (.seq (.block 1 (.seq (.seq (.reg fun c t l h k => bO (ia Pg 29 (g0 t) (g5 t)) fun v0 => bO (ld Pg 3 v0 l h) fun v1 => bO (ia Pg 29 (g1 t) (g5 t)) fun v2 => bO (ld Pg 3 v2 l h) fun v3 => bO (bin Pg .lss 3 false v1 v3) fun v4 => k (p31 t v4) l h)
 (.cond (.tmp 31) (.seq (.reg fun c t l h k => k (p4 t (.int .i64 (.negSucc 0))) l h)
 .ret) .skip))
 (.seq (.reg fun c t l h k => bO (ia Pg 29 (g0 t) (g5 t)) fun v0 => bO (ld Pg 3 v0 l h) fun v1 => bO (ia Pg 29 (g1 t) (g5 t)) fun v2 => bO (ld Pg 3 v2 l h) fun v3 => bO (bin Pg .gtr 3 false v1 v3) fun v4 => k (p40 t v4) l h)
 (.cond (.tmp 40) (.seq (.reg fun c t l h k => k (p4 t (I 1)) l h)
 .ret) .skip))))
 (.reg fun c t l h k => bO (bin Pg .sub 3 true (g5 t) (I 1)) fun v0 => k (p5 t v0) l h))))))
 (.seq (.reg fun c t l h k => k (p4 t (I 0)) l h)
 .ret))))
def kp76 : List Nat := [0, 1, 4, 5, 6, 7, 8, 12, 24, 32]
def rc76 : RC := (.seq (.reg fun c t l h k => k (p4 t .nils) l h)
 (.seq (.reg fun c t l h k => k (p5 t .nils) l h)
 (.seq (.reg fun c t l h k => k (p6 t (I 0)) l h)
 (.seq (.seq (.reg fun c t l h k => k (p7 t (I 0)) l h)
 (.block 0 (.loop (.seq (.seq (.reg fun c t l h k => bO (len (Pg.underlying 29) (g0 t)) fun v0 => bO (bin Pg .lss 3 false (g7 t) v0) fun v1 => k (p12 t v1) l h)
 (.cond (.tmp 12) .skip (.exit 0)))
 (.seq (.block 1 (.seq (.reg fun c t l h k => bO (ia Pg 29 (g0 t) (g7 t)) fun v0 => bO (ld Pg 3 v0 l h) fun v1 => bO (bin Pg .sub 3 false v1 (g6 t)) fun v2 => k (p8 t v2) l h)
 (.seq (.seq (.reg fun c t l h k => bO (len (Pg.underlying 29) (g1 t)) fun v0 => bO (bin Pg .lss 3 false (g7 t) v0) fun v1 => k (p24 t v1) l h)
 (.cond (.tmp 24) (.reg fun c t l h k => bO (ia Pg 29 (g1 t) (g7 t)) fun v0 => bO (ld Pg 3 v0 l h) fun v1 => bO (bin Pg .sub 3 false (g8 t) v1) fun v2 => k (p8 t v2) l h) .skip))
 (.seq (.reg fun c t l h k => k (p6 t (I 0)) l h)
 (.seq (.seq (.reg fun c t l h k => bO (bin Pg .lss 3 true (g8 t) (I 0)) fun v0 => k (p32 t v0) l h)
 (.cond (.tmp 32) (.reg fun c t l h k => bO (bin Pg .add 3 true (g8 t) (I 10000)) fun v0 => k (p6 (p8 t v0) (I 1)) l h) .skip))
 (.reg fun c t l h k => bO (bs Pg 29 1 [(0, (g8 t))]) fun v0 => gn Try.f76 76 12 3 c (p37 (p35 t (g5 t)) v0) t l h (fun v1 l1 h1 => k (p5 t v1) l1 h1)))))))
 (.reg fun c t l h k => bO (bin Pg .add 3 true (g7 t) (I 1)) fun v0 => k (p7 t v0) l h))))))
 (.seq (.reg fun c t l h k => k (p4 t (g5 t)) l h)
 .ret)))))
def kp78 : List Nat := [0, 1, 4, 5, 6, 7, 8, 9, 10, 11, 12, 13, 14, 15, 18, 26, 88, 126]
def rc78 : RC := (.seq (.reg fun c t l h k => k (p5 (p4 t .nils) .nils) l h)
 (.seq (.seq (.reg fun c t l h k => bO (len (Pg.underlying 24) (g1 t)) fun v0 => bO (bin Pg .eql 3 true v0 (I 1)) fun v1 => k (p18 t v1) l h)
 (.cond (.tmp 18) (.seq (.reg fun c t l h k => bO (len (Pg.underlying 24) (g0 t)) fun v0 => gn Try.f78 78 2 2 c (p20 (p20 t v0) v0) t l h (fun v1 l1 h1 => k (p7 (p6 t v1) (.int .u64 (.ofNat 0))) l1 h1))
 (.seq (.seq (.reg fun c t l h k => bO (len (Pg.underlying 24) (g0 t)) fun v0 => bO (bin Pg .sub 3 true v0 (I 1)) fun v1 => k (p8 t v1) l h)
 (.block 0 (.loop (.seq (.seq (.reg fun c t l h k => bO (bin Pg .geq 3 true (g8 t) (I 0)) fun v0 => k (p26 t v0) l h)
 (.cond (.tmp 26) .skip (.exit 0)))
 (.seq (.block 1 (.seq (.reg fun c t l h k => bO (bin Pg .shl 80 true (g7 t) (.int .u64 (.ofNat 32))) fun v0 => bO (ia Pg 24 (g0 t) (g8 t)) fun v1 => bO (ld Pg 86 v1 l h) fun v2 => gn Try.f78 78 6 6 c (p34 t v2) t l h (fun v3 l3 h3 => bO (bin Pg .or 80 false v0 v3) fun v4 => k (p7 t v4) l3 h3))
 (.seq (.reg fun c t l h k => bO (ia Pg 24 (g1 t) (I 0)) fun v0 => bO (ld Pg 86 v0 l h) fun v1 => gn Try.f78 78 7 6 c (p42 t v1) t l h (fun v2 l2 h2 => bO (bin Pg .quo 80 false (g7 t) v2) fun v3 => gn Try.f78 78 7 8 c (p44 t v3) t l2 h2 (fun v4 l4 h4 => bO (ia Pg 24 (g6 t) (g8 t)) fun v5 => jn (fun v6 l6 h6 => k t l6 h6) fun j6 => sto 86 v5 v4 l4 h4 j6 (gn Try.f78 78 7 10 c (p45 (p46 t v5) v4) t l4 h4 j6))))
 (.reg fun c t l h k => bO (ia Pg 24 (g1 t) (I 0)) fun v0 => bO (ld Pg 86 v0 l h) fun v1 => gn Try.f78 78 8 4 c (p50 t v1) t l h (fun v2 l2 h2 => bO (bin Pg .rem 80 false (g7 t) v2) fun v3 => k (p7 t v3) l2 h2)))))
 (.reg fun c t l h k => bO (bin Pg .sub 3 true (g8 t) (I 1)) fun v0 => k (p8 t v0) l h))))))
 (.seq (.reg fun c t l h k => gn Try.f78 78 9 2 c (p54 t (g7 t)) t l h (fun v0 l0 h0 => gn Try.f78 78 9 3 c (p55 t v0) t l0 h0 (fun v1 l1 h1 => cl c 65 [v1, (.bool false)] t l1 h1 fun v2 l2 h2 => bO (fld Pg 26 v2 0) fun v3 => k (p5 (p4 t (g6 t)) v3) l2 h2)))
 .ret))) .skip))
 (.seq (.reg fun c t l h k => bO (len (Pg.underlying 24) (g1 t)) fun v0 => bO (bin Pg .sub 3 true v0 (I 1)) fun v1 => bO (ia Pg 24 (g1 t) v1) fun v2 => bO (ld Pg 86 v2 l h) fun v3 => cl c 84 [v3] t l h fun v4 l4 h4 => gn Try.f78 78 10 7 c (p65 t v4) t l4 h4 (fun v5 l5 h5 => k (p9 t v5) l5 h5))
 (.seq (.reg fun c t l h k => cl c 85 [(g1 t), (g9 t)] t l h fun v0 l0 h0 => bO (len (Pg.underlying 24) (g1 t)) fun v1 => bO (slc Pg 24 v0 none (some v1) none) fun v2 => k (p1 t v2) l0 h0)
 (.seq (.reg fun c t l h k => cl c 85 [(g0 t), (g9 t)] t l h fun v0 l0 h0 => k (p10 t v0) l0 h0)
 (.seq (.reg fun c t l h k => bO (len (Pg.underlying 24) (g0 t)) fun v0 => gn Try.f78 78 13 2 c (p77 (p77 t v0) v0) t l h (fun v1 l1 h1 => k (p11 t v1) l1 h1))
 (.seq (.reg fun c t l h k => bO (len (Pg.underlying 24) (g1 t)) fun v0 => bO (bin Pg .sub 3 true v0 (I 1)) fun v1 => k (p12 t v1) l h)
 (.seq (.seq (.reg fun c t l h k => bO (len (Pg.underlying 24) (g0 t)) fun v0 => bO (len (Pg.underlying 24) (g1 t)) fun v1 => bO (bin Pg .sub 3 false v0 v1) fun v2 => k (p13 t v2) l h)
 (.block 2 (.loop (.seq (.seq (.reg fun c t l h k => bO (bin Pg .geq 3 true (g13 t) (I 0)) fun v0 => k (p88 t v0) l h)
 (.cond (.tmp 88) .skip (.exit 2)))
 (.seq (.block 3 (.seq (.reg fun c t l h k => bO (bin Pg .add 3 false (g13 t) (g12 t)) fun v0 => bO (bin Pg .add 3 true v0 (I 1)) fun v1 => bO (ia Pg 24 (g10 t) v1) fun v2 => bO (ld Pg 86 v2 l h) fun v3 => jE ((97, v3) :: (96, v2) :: (95, v1) :: (94, v0) :: (93, (g12 t)) :: (92, (g13 t)) :: (91, (g10 t)) :: []) fun e4 => jF ((ldF v2) :: ft0 :: ft0 :: ft0 :: ft0 :: ft0 :: ft0 :: []) fun q4 => gD Try.f78 78 18 7 c (p97 t v3) l h (fun v4 f4 l4 h4 => bO (bin Pg .shl 80 true v4 (.int .u64 (.ofNat 32))) fun v5 => bO (bin Pg .add 3 false (g13 t) (g12 t)) fun v6 => bO (ia Pg 24 (g10 t) v6) fun v7 => bO (ld Pg 86 v7 l4 h4) fun v8 => jE ((105, v8) :: (104, v7) :: (103, v6) :: (102, (g12 t)) :: (101, (g13 t)) :: (100, (g10 t)) :: (99, v5) :: (98, v4) :: e4) fun e9 => jF ((ldF v7) :: ft0 :: ft0 :: ft0 :: ft0 :: ft0 :: ft0 :: f4 :: q4) fun q9 => gD Try.f78 78 18 15 c (p105 t v8) l4 h4 (fun v9 f9 l9 h9 => bO (bin Pg .or 80 false v5 v9) fun v10 => finD (rgA Try.f78 18).toList [] [] (ft0 :: ft0 :: f9 :: q9) (k (p14 t v10) l9 h9)) (sD Try.f78 78 18 c 15 (some 106) e9 q9 t l4 h4)) (sD Try.f78 78 18 c 7 (some 98) e4 q4 t l h))
 (.seq (.reg fun c t l h k => bO (ia Pg 24 (g1 t) (g12 t)) fun v0 => bO (ld Pg 86 v0 l h) fun v1 => gn Try.f78 78 19 5 c (p112 t v1) t l h (fun v2 l2 h2 => bO (bin Pg .quo 80 false (g14 t) v2) fun v3 => bO (mnV v3 (.int .u64 (.ofNat 4294967295))) fun v4 => k (p15 t v4) l2 h2))
 (.seq (.block 4 (.loop (.seq (.seq (.reg fun c t l h k => bO (bin Pg .add 3 false (g13 t) (g12 t)) fun v0 => bO (bin Pg .add 3 true v0 (I 2)) fun v1 => bO (slc Pg 24 (g10 t) (some (g13 t)) (some v1) none) fun v2 => cl c 86 [v2, (g1 t), (g15 t)] t l h fun v3 l3 h3 => bO (G.un .not v3) fun v4 => k (p126 t v4) l3 h3)
 (.cond (.tmp 126) .skip (.exit 4)))
 (.block 5 (.reg fun c t l h k => bO (bin Pg .sub 80 true (g15 t) (.int .u64 (.ofNat 1))) fun v0 => k (p15 t v0) l h)))))
 (.reg fun c t l h k => gn Try.f78 78 22 3 c (p131 t (g15 t)) t l h (fun v0 l0 h0 => bO (ia Pg 24 (g11 t) (g13 t)) fun v1 => jn (fun v2 l2 h2 => k t l2 h2) fun j2 => sto 86 v1 v0 l0 h0 j2 (gn Try.f78 78 22 5 c (p132 (p133 t v1) v0) t l0 h0 j2)))))))
 (.reg fun c t l h k => bO (bin Pg .sub 3 true (g13 t) (I 1)) fun v0 => k (p13 t v0) l h))))))
 (.seq (.reg fun c t l h k => cl c 87 [(g10 t), (g9 t)] t l h fun v0 l0 h0 => cl c 65 [v0, (.bool false)] t l0 h0 fun v1 l1 h1 => bO (fld Pg 26 v1 0) fun v2 => k (p5 (p4 t (g11 t)) v2) l1 h1)
 .ret)))))))))
def kp83 : List Nat := [0, 1, 2, 6, 7]
def rc83 : RC := (.seq (.reg fun c t l h k => k (p7 (p6 t (.int .u32 (.ofNat 0))) (.int .u32 (.ofNat 0))) l h)
 (.seq (.reg fun c t l h k => bO (bin Pg .sub 86 false (g0 t) (g1 t)) fun v0 => bO (bin Pg .sub 86 false v0 (g2 t)) fun v1 => k (p6 t v1) l h)
 (.seq (.reg fun c t l h k => bO (G.un .xor (g0 t)) fun v0 => bO (bin Pg .and 86 false v0 (g1 t)) fun v1 => bO (bin Pg .xor 86 false (g0 t) (g1 t)) fun v2 => bO (G.un .xor v2) fun v3 => bO (bin Pg .and 86 false v3 (g6 t)) fun v4 => bO (bin Pg .or 86 false v1 v4) fun v5 => bO (bin Pg .shr 86 true v5 (.int .u64 (.ofNat 31))) fun v6 => k (p7 t v6) l h)
 .ret)))
def kp84 : List Nat := [0, 2]
def rc84 : RC := (.seq (.reg fun c t l h k => k (p2 t (I 0)) l h)
 (.seq (.reg fun c t l h k => cl c 89 [(g0 t)] t l h fun v0 l0 h0 => bO (bin Pg .sub 3 true (I 32) v0) fun v1 => k (p2 t v1) l0 h0)
 .ret))
def kp85 : List Nat := [0, 1, 4, 5, 6, 7, 8, 13, 14, 15, 16]
def rc85 : RC := (.seq (.reg fun c t l h k => k (p4 t .nils) l h)
 (.seq (.reg fun c t l h k => bO (len (Pg.underlying 24) (g0 t)) fun v0 => bO (bin Pg .add 3 true v0 (I 1)) fun v1 => gn Try.f85 85 1 3 c (p11 (p11 t v1) v1) t l h (fun v2 l2 h2 => k (p5 t v2) l2 h2))
 (.seq (.seq (.reg fun c t l h k => bO (len (Pg.underlying 24) (g0 t)) fun v0 => k (p15 (p14 (p13 t (g0 t)) v0) (I 0)) l h)
 (.block 0 (.loop (.seq (.reg fun c t l h k => bO (bin Pg .lss 3 false (g15 t) (g14 t)) fun v0 => k (p16 t v0) l h)
 (.seq (.cond (.tmp 16) .skip (.exit 0))
 (.seq (.block 1 (.seq (.reg fun c t l h k => bO (ia Pg 24 (g13 t) (g15 t)) fun v0 => bO (ld Pg 86 v0 l h) fun v1 => k (p7 (p6 t (g15 t)) v1) l h)
 (.seq (.reg fun c t l h k => gn Try.f85 85 5 1 c (p20 t (g7 t)) t l h (fun v0 l0 h0 => bO (bin Pg .shl 80 false v0 (g1 t)) fun v1 => k (p8 t v1) l0 h0))
 (.seq (.reg fun c t l h k => bO (ia Pg 24 (g5 t) (g6 t)) fun v0 => bO (ld Pg 86 v0 l h) fun v1 => gn Try.f85 85 6 5 c (p28 t (g8 t)) t l h (fun v2 l2 h2 => bO (bin Pg .or 86 false v1 v2) fun v3 => bO (ia Pg 24 (g5 t) (g6 t)) fun v4 => jn (fun v5 l5 h5 => k t l5 h5) fun j5 => sto 86 v4 v3 l2 h2 j5 (gn Try.f85 85 6 8 c (p30 (p31 t v4) v3) t l2 h2 j5)))
 (.reg fun c t l h k => bO (bin Pg .add 3 true (g6 t) (I 1)) fun v0 => bO (bin Pg .shr 80 true (g8 t) (.int .u64 (.ofNat 32))) fun v1 => gn Try.f85 85 7 5 c (p36 t v1) t l h (fun v2 l2 h2 => bO (ia Pg 24 (g5 t) v0) fun v3 => jn (fun v4 l4 h4 => k t l4 h4) fun j4 => sto 86 v3 v2 l2 h2 j4 (gn Try.f85 85 7 7 c (p37 (p38 t v3) v2) t l2 h2 j4)))))))
 (.reg fun c t l h k => bO (bin Pg .add 3 true (g15 t) (I 1)) fun v0 => k (p15 t v0) l h)))))))
 (.seq (.reg fun c t l h k => k (p4 t (g5 t)) l h)
 .ret))))
def kp86 : List Nat := [0, 1, 2, 6, 7, 8, 9, 23]
def rc86 : RC := (.seq (.reg fun c t l h k => k (p6 t (.bool false)) l h)
 (.seq (.reg fun c t l h k => cl c 68 [(g1 t)] t l h fun v0 l0 h0 => cl c 64 [v0, (g2 t), (.int .u64 (.ofNat 0))] t l0 h0 fun v1 l1 h1 => cl c 65 [v1, (.bool false)] t l1 h1 fun v2 l2 h2 => bO (fld Pg 26 v2 0) fun v3 => k (p7 t v3) l2 h2)
 (.seq (.reg fun c t l h k => cl c 68 [(g0 t)] t l h fun v0 l0 h0 => cl c 65 [v0, (.bool false)] t l0 h0 fun v1 l1 h1 => bO (fld Pg 26 v1 0) fun v2 => k (p8 t v2) l1 h1)
 (.seq (.seq (.reg fun c t l h k => cl c 72 [(g7 t), (g8 t)] t l h fun v0 l0 h0 => bO (bin Pg .gtr 3 true v0 (I 0)) fun v1 => k (p23 t v1) l0 h0)
 (.cond (.tmp 23) (.seq (.reg fun c t l h k => k (p6 t (.bool false)) l h)
 .ret) .skip))
 (.seq (.reg fun c t l h k => cl c 73 [(g8 t), (g7 t)] t l h fun v0 l0 h0 => k (p9 t v0) l0 h0)
 (.seq (.reg fun c t l h k => gn Try.f86 86 6 1 c (p27 t (g0 t)) t l h (fun v0 l0 h0 => k t l0 h0))
 (.seq (.reg fun c t l h k => gn Try.f86 86 7 2 c (p29 (p28 t (g0 t)) (g9 t)) t l h (fun v0 l0 h0 => k t l0 h0))
 (.seq (.reg fun c t l h k => k (p6 t (.bool true)) l h)
 .ret))))))))
def kp87 : List Nat := [0, 1, 4, 5, 6, 7, 8, 12, 13, 14, 15, 34]
def rc87 : RC := (.seq (.reg fun c t l h k => k (p4 t .nils) l h)
 (.seq (.reg fun c t l h k => bO (len (Pg.underlying 24) (g0 t)) fun v0 => gn Try.f87 87 1 2 c (p10 (p10 t v0) v0) t l h (fun v1 l1 h1 => k (p5 t v1) l1 h1))
 (.seq (.seq (.reg fun c t l h k => bO (len (Pg.underlying 24) (g0 t)) fun v0 => k (p14 (p13 (p12 t (g0 t)) v0) (I 0)) l h)
 (.block 0 (.loop (.seq (.reg fun c t l h k => bO (bin Pg .lss 3 false (g14 t) (g13 t)) fun v0 => k (p15 t v0) l h)
 (.seq (.cond (.tmp 15) .skip (.exit 0))
 (.seq (.block 1 (.seq (.reg fun c t l h k => bO (ia Pg 24 (g12 t) (g14 t)) fun v0 => bO (ld Pg 86 v0 l h) fun v1 => k (p7 (p6 t (g14 t)) v1) l h)
 (.seq (.reg fun c t l h k => gn Try.f87 87 5 1 c (p19 t (g7 t)) t l h (fun v0 l0 h0 => bO (bin Pg .shl 80 true v0 (.int .u64 (.ofNat 32))) fun v1 => bO (bin Pg .shr 80 false v1 (g1 t)) fun v2 => k (p8 t v2) l0 h0))
 (.seq (.reg fun c t l h k => bO (ia Pg 24 (g5 t) (g6 t)) fun v0 => bO (ld Pg 86 v0 l h) fun v1 => bO (bin Pg .shr 80 true (g8 t) (.int .u64 (.ofNat 32))) fun v2 => gn Try.f87 87 6 6 c (p29 t v2) t l h (fun v3 l3 h3 => bO (bin Pg .or 86 false v1 v3) fun v4 => bO (ia Pg 24 (g5 t) (g6 t)) fun v5 => jn (fun v6 l6 h6 => k t l6 h6) fun j6 => sto 86 v5 v4 l3 h3 j6 (gn Try.f87 87 6 9 c (p31 (p32 t v5) v4) t l3 h3 j6)))
 (.seq (.reg fun c t l h k => bO (bin Pg .gtr 3 true (g6 t) (I 0)) fun v0 => k (p34 t v0) l h)
 (.cond (.tmp 34) (.reg fun c t l h k => bO (bin Pg .sub 3 true (g6 t) (I 1)) fun v0 => bO (ia Pg 24 (g5 t) v0) fun v1 => bO (ld Pg 86 v1 l h) fun v2 => gn Try.f87 87 8 6 c (p40 t (g8 t)) t l h (fun v3 l3 h3 => bO (bin Pg .or 86 false v2 v3) fun v4 => bO (ia Pg 24 (g5 t) v0) fun v5 => jn (fun v6 l6 h6 => k t l6 h6) fun j6 => sto 86 v5 v4 l3 h3 j6 (gn Try.f87 87 8 9 c (p42 (p43 t v5) v4) t l3 h3 j6))) .skip))))))
 (.reg fun c t l h k => bO (bin Pg .add 3 true (g14 t) (I 1)) fun v0 => k (p14 t v0) l h)))))))
 (.seq (.reg fun c t l h k => k (p4 t (g5 t)) l h)
 .ret))))
def kp89 : List Nat := [0, 2, 4, 8]
def rc89 : RC := (.seq (.reg fun c t l h k => k (p2 t (I 0)) l h)
 (.seq (.seq (.reg fun c t l h k => bO (bin Pg .geq 86 true (g0 t) (.int .u32 (.ofNat 65536))) fun v0 => k (p4 t v0) l h)
 (.cond (.tmp 4) (.seq (.reg fun c t l h k => bO (bin Pg .shr 86 true (g0 t) (.int .u64 (.ofNat 16))) fun v0 => k (p0 t v0) l h)
 (.reg fun c t l h k => k (p2 t (I 16)) l h)) .skip))
 (.seq (.seq (.reg fun c t l h k => bO (bin Pg .geq 86 true (g0 t) (.int .u32 (.ofNat 256))) fun v0 => k (p8 t v0) l h)
 (.cond (.tmp 8) (.seq (.reg fun c t l h k => bO (bin Pg .shr 86 true (g0 t) (.int .u64 (.ofNat 8))) fun v0 => k (p0 t v0) l h)
 (.reg fun c t l h k => bO (bin Pg .add 3 true (g2 t) (I 8)) fun v0 => k (p2 t v0) l h)) .skip))
 (.seq (.reg fun c t l h k => gn Try.f89 89 7 2 c (p14 t (g0 t)) t l h (fun v0 l0 h0 => bO (idx Pg 9 (.str ⟨256, 1013866857139168856493015739252390649739422828853819106890363778118420553376247557433637691341895324351018602695588957474325319502760499485336098898398377509666851054660423406800006203933793007272033180812049178612605246075062580585469430410618860250057463399279570354286669047577758927328864388992123306212451509403152394148136105363817402562688186708175358218852349079190158732807302672745370040257219644697201681238697346923541678507645485296520536209706771857694240900605172937619415410180424934769249448772944216470541052485265558808433676546390051204254346932932316488017972311616136051587427851453983453479168⟩) v0) fun v1 => gn Try.f89 89 7 4 c (p16 t v1) t l0 h0 (fun v2 l2 h2 => bO (bin Pg .add 3 false (g2 t) v2) fun v3 => k (p2 t v3) l2 h2)))
 .ret))))
def tblL : List (Nat × Fc) := [(3, ⟨rc3, Try.f3.results.toList⟩), (13, ⟨rc13, Try.f13.results.toList⟩), (14, ⟨rc14, Try.f14.results.toList⟩), (15, ⟨rc15, Try.f15.results.toList⟩), (16, ⟨rc16, Try.f16.results.toList⟩), (17, ⟨rc17, Try.f17.results.toList⟩), (18, ⟨rc18, Try.f18.results.toList⟩), (19, ⟨rc19, Try.f19.results.toList⟩), (20, ⟨rc20, Try.f20.results.toList⟩), (21, ⟨rc21, Try.f21.results.toList⟩), (22, ⟨rc22, Try.f22.results.toList⟩), (23, ⟨rc23, Try.f23.results.toList⟩), (25, ⟨rc25, Try.f25.results.toList⟩), (26, ⟨rc26, Try.f26.results.toList⟩), (27, ⟨rc27, Try.f27.results.toList⟩), (28, ⟨rc28, Try.f28.results.toList⟩), (31, ⟨rc31, Try.f31.results.toList⟩), (32, ⟨rc32, Try.f32.results.toList⟩), (34, ⟨rc34, Try.f34.results.toList⟩), (36, ⟨rc36, Try.f36.results.toList⟩), (37, ⟨rc37, Try.f37.results.toList⟩), (64, ⟨rc64, Try.f64.results.toList⟩), (65, ⟨rc65, Try.f65.results.toList⟩), (66, ⟨rc66, Try.f66.results.toList⟩), (67, ⟨rc67, Try.f67.results.toList⟩), (68, ⟨rc68, Try.f68.results.toList⟩), (69, ⟨rc69, Try.f69.results.toList⟩), (71, ⟨rc71, Try.f71.results.toList⟩), (72, ⟨rc72, Try.f72.results.toList⟩), (73, ⟨rc73, Try.f73.results.toList⟩), (74, ⟨rc74, Try.f74.results.toList⟩), (75, ⟨rc75, Try.f75.results.toList⟩), (76, ⟨rc76, Try.f76.results.toList⟩), (78, ⟨rc78, Try.f78.results.toList⟩), (83, ⟨rc83, Try.f83.results.toList⟩), (84, ⟨rc84, Try.f84.results.toList⟩), (85, ⟨rc85, Try.f85.results.toList⟩), (86, ⟨rc86, Try.f86.results.toList⟩), (87, ⟨rc87, Try.f87.results.toList⟩), (89, ⟨rc89, Try.f89.results.toList⟩)]
def tbl (f : Nat) : Option Fc := lkL tblL f
end
end Go.AM.S
end

section
namespace Go.AM.S
open Go Go.AM Go.Proofs
set_option maxRecDepth 100000
theorem ok3 : FOk Pg Cg 3 ⟨rc3, Try.f3.results.toList⟩ := fok (kp := kp3) rfl Try.func3 (by kernel_rfl) (by kernel_rfl) (by kernel_rfl)
theorem ok16 : FOk Pg Cg 16 ⟨rc16, Try.f16.results.toList⟩ := fok (kp := kp16) rfl Try.func16 (by kernel_rfl) (by kernel_rfl) (by kernel_rfl)
theorem ok20 : FOk Pg Cg 20 ⟨rc20, Try.f20.results.toList⟩ := fok (kp := kp20) rfl Try.func20 (by kernel_rfl) (by kernel_rfl) (by kernel_rfl)
theorem ok25 : FOk Pg Cg 25 ⟨rc25, Try.f25.results.toList⟩ := fok (kp := kp25) rfl Try.func25 (by kernel_rfl) (by kernel_rfl) (by kernel_rfl)
theorem ok31 : FOk Pg Cg 31 ⟨rc31, Try.f31.results.toList⟩ := fok (kp := kp31) rfl Try.func31 (by kernel_rfl) (by kernel_rfl) (by kernel_rfl)
theorem ok37 : FOk Pg Cg 37 ⟨rc37, Try.f37.results.toList⟩ := fok (kp := kp37) rfl Try.func37 (by kernel_rfl) (by kernel_rfl) (by kernel_rfl)
theorem ok67 : FOk Pg Cg 67 ⟨rc67, Try.f67.results.toList⟩ := fok (kp := kp67) rfl Try.func67 (by kernel_rfl) (by kernel_rfl) (by kernel_rfl)
theorem ok72 : FOk Pg Cg 72 ⟨rc72, Try.f72.results.toList⟩ := fok (kp := kp72) rfl Try.func72 (by kernel_rfl) (by kernel_rfl) (by kernel_rfl)
theorem ok76 : FOk Pg Cg 76 ⟨rc76, Try.f76.results.toList⟩ := fok (kp := kp76) rfl Try.func76 (by kernel_rfl) (by kernel_rfl) (by kernel_rfl)
theorem ok85 : FOk Pg Cg 85 ⟨rc85, Try.f85.results.toList⟩ := fok (kp := kp85) rfl Try.func85 (by kernel_rfl) (by kernel_rfl) (by kernel_rfl)
end Go.AM.S
end

section
namespace Go.AM.S
open Go Go.AM Go.Proofs
set_option maxRecDepth 100000
theorem ok13 : FOk Pg Cg 13 ⟨rc13, Try.f13.results.toList⟩ := fok (kp := kp13) rfl Try.func13 (by kernel_rfl) (by kernel_rfl) (by kernel_rfl)
theorem ok17 : FOk Pg Cg 17 ⟨rc17, Try.f17.results.toList⟩ := fok (kp := kp17) rfl Try.func17 (by kernel_rfl) (by kernel_rfl) (by kernel_rfl)
theorem ok21 : FOk Pg Cg 21 ⟨rc21, Try.f21.results.toList⟩ := fok (kp := kp21) rfl Try.func21 (by kernel_rfl) (by kernel_rfl) (by kernel_rfl)
theorem ok26 : FOk Pg Cg 26 ⟨rc26, Try.f26.results.toList⟩ := fok (kp := kp26) rfl Try.func26 (by kernel_rfl) (by kernel_rfl) (by kernel_rfl)
theorem ok32 : FOk Pg Cg 32 ⟨rc32, Try.f32.results.toList⟩ := fok (kp := kp32) rfl Try.func32 (by kernel_rfl) (by kernel_rfl) (by kernel_rfl)
theorem ok64 : FOk Pg Cg 64 ⟨rc64, Try.f64.results.toList⟩ := fok (kp := kp64) rfl Try.func64 (by kernel_rfl) (by kernel_rfl) (by kernel_rfl)
theorem ok68 : FOk Pg Cg 68 ⟨rc68, Try.f68.results.toList⟩ := fok (kp := kp68) rfl Try.func68 (by kernel_rfl) (by kernel_rfl) (by kernel_rfl)
theorem ok73 : FOk Pg Cg 73 ⟨rc73, Try.f73.results.toList⟩ := fok (kp := kp73) rfl Try.func73 (by kernel_rfl) (by kernel_rfl) (by kernel_rfl)
theorem ok78 : FOk Pg Cg 78 ⟨rc78, Try.f78.results.toList⟩ := fok (kp := kp78) rfl Try.func78 (by kernel_rfl) (by kernel_rfl) (by kernel_rfl)
theorem ok86 : FOk Pg Cg 86 ⟨rc86, Try.f86.results.toList⟩ := fok (kp := kp86) rfl Try.func86 (by kernel_rfl) (by kernel_rfl) (by kernel_rfl)
end Go.AM.S
end

section
namespace Go.AM.S
open Go Go.AM Go.Proofs
set_option maxRecDepth 100000
theorem ok14 : FOk Pg Cg 14 ⟨rc14, Try.f14.results.toList⟩ := fok (kp := kp14) rfl Try.func14 (by kernel_rfl) (by kernel_rfl) (by kernel_rfl)
theorem ok18 : FOk Pg Cg 18 ⟨rc18, Try.f18.results.toList⟩ := fok (kp := kp18) rfl Try.func18 (by kernel_rfl) (by kernel_rfl) (by kernel_rfl)
theorem ok22 : FOk Pg Cg 22 ⟨rc22, Try.f22.results.toList⟩ := fok (kp := kp22) rfl Try.func22 (by kernel_rfl) (by kernel_rfl) (by kernel_rfl)
theorem ok27 : FOk Pg Cg 27 ⟨rc27, Try.f27.results.toList⟩ := fok (kp := kp27) rfl Try.func27 (by kernel_rfl) (by kernel_rfl) (by kernel_rfl)
theorem ok34 : FOk Pg Cg 34 ⟨rc34, Try.f34.results.toList⟩ := fok (kp := kp34) rfl Try.func34 (by kernel_rfl) (by kernel_rfl) (by kernel_rfl)
theorem ok65 : FOk Pg Cg 65 ⟨rc65, Try.f65.results.toList⟩ := fok (kp := kp65) rfl Try.func65 (by kernel_rfl) (by kernel_rfl) (by kernel_rfl)
theorem ok69 : FOk Pg Cg 69 ⟨rc69, Try.f69.results.toList⟩ := fok (kp := kp69) rfl Try.func69 (by kernel_rfl) (by kernel_rfl) (by kernel_rfl)
theorem ok74 : FOk Pg Cg 74 ⟨rc74, Try.f74.results.toList⟩ := fok (kp := kp74) rfl Try.func74 (by kernel_rfl) (by kernel_rfl) (by kernel_rfl)
theorem ok83 : FOk Pg Cg 83 ⟨rc83, Try.f83.results.toList⟩ := fok (kp := kp83) rfl Try.func83 (by kernel_rfl) (by kernel_rfl) (by kernel_rfl)
theorem ok87 : FOk Pg Cg 87 ⟨rc87, Try.f87.results.toList⟩ := fok (kp := kp87) rfl Try.func87 (by kernel_rfl) (by kernel_rfl) (by kernel_rfl)
end Go.AM.S
end

section
namespace Go.AM.S
open Go Go.AM Go.Proofs
set_option maxRecDepth 100000
theorem ok15 : FOk Pg Cg 15 ⟨rc15, Try.f15.results.toList⟩ := fok (kp := kp15) rfl Try.func15 (by kernel_rfl) (by kernel_rfl) (by kernel_rfl)
theorem ok19 : FOk Pg Cg 19 ⟨rc19, Try.f19.results.toList⟩ := fok (kp := kp19) rfl Try.func19 (by kernel_rfl) (by kernel_rfl) (by kernel_rfl)
theorem ok23 : FOk Pg Cg 23 ⟨rc23, Try.f23.results.toList⟩ := fok (kp := kp23) rfl Try.func23 (by kernel_rfl) (by kernel_rfl) (by kernel_rfl)
theorem ok28 : FOk Pg Cg 28 ⟨rc28, Try.f28.results.toList⟩ := fok (kp := kp28) rfl Try.func28 (by kernel_rfl) (by kernel_rfl) (by kernel_rfl)
theorem ok36 : FOk Pg Cg 36 ⟨rc36, Try.f36.results.toList⟩ := fok (kp := kp36) rfl Try.func36 (by kernel_rfl) (by kernel_rfl) (by kernel_rfl)
theorem ok66 : FOk Pg Cg 66 ⟨rc66, Try.f66.results.toList⟩ := fok (kp := kp66) rfl Try.func66 (by kernel_rfl) (by kernel_rfl) (by kernel_rfl)
theorem ok71 : FOk Pg Cg 71 ⟨rc71, Try.f71.results.toList⟩ := fok (kp := kp71) rfl Try.func71 (by kernel_rfl) (by kernel_rfl) (by kernel_rfl)
theorem ok75 : FOk Pg Cg 75 ⟨rc75, Try.f75.results.toList⟩ := fok (kp := kp75) rfl Try.func75 (by kernel_rfl) (by kernel_rfl) (by kernel_rfl)
theorem ok84 : FOk Pg Cg 84 ⟨rc84, Try.f84.results.toList⟩ := fok (kp := kp84) rfl Try.func84 (by kernel_rfl) (by kernel_rfl) (by kernel_rfl)
theorem ok89 : FOk Pg Cg 89 ⟨rc89, Try.f89.results.toList⟩ := fok (kp := kp89) rfl Try.func89 (by kernel_rfl) (by kernel_rfl) (by kernel_rfl)
end Go.AM.S
end

section
namespace Go.AM.S
open Go Go.AM Go.Proofs
set_option maxRecDepth 100000
theorem tbl_ok : ∀ p ∈ tblL, FOk Pg Cg p.1 p.2 := by
  unfold tblL
  simp only [List.forall_mem_cons, List.not_mem_nil, false_imp_iff, implies_true, and_true]
  exact ⟨ok3, ok13, ok14, ok15, ok16, ok17, ok18, ok19, ok20, ok21, ok22, ok23, ok25, ok26, ok27, ok28, ok31, ok32, ok34, ok36, ok37, ok64, ok65, ok66, ok67, ok68, ok69, ok71, ok72, ok73, ok74, ok75, ok76, ok78, ok83, ok84, ok85, ok86, ok87, ok89⟩
theorem use_ok : tblL.map (·.1) = cUse := rfl
theorem seat_eq (kn : Kn) (n : Nat) : S.fn Pg kn tbl n = fnV Pg Cg kn n := by
  refine fn_eq (fun f fc h => ⟨?_, ?_⟩) (fun f h => ?_) n
  · have := lkL_mem h
    show cUse.contains f = true
    rw [← use_ok, List.contains_iff_mem]
    exact List.mem_map.2 ⟨(f, fc), this, rfl⟩
  · exact tbl_ok _ (lkL_mem h)
  · have := lkL_none h
    show cUse.contains f = false
    rw [← use_ok]
    cases hb : (tblL.map (·.1)).contains f with
    | false => rfl
    | true => exact absurd (List.contains_iff_mem.1 hb) this
end Go.AM.S
end

section
namespace Go.AM.S
open Go Go.AM Go.Proofs
set_option maxRecDepth 100000
theorem prog_ok : progOk Pg Cg = true := by kernel_rfl
end Go.AM.S
end
