/- Part 3 of the proof: what it says stands at its theorems. -/
import Derived.Test.YtooliddjiiilfaaProg
import Derived.Test.YtooliddjiiilfaaNpA2
import Derived.ChangeSame
import Derived.KernelRfl
set_option linter.unusedVariables false
set_option linter.unusedSimpArgs false
set_option linter.unusedSectionVars false
section
namespace Go.AM.S
open _root_.Go.AM.G (R)
open Go Go.AM Go.Proofs
set_option maxRecDepth 100000
noncomputable abbrev Pg : Program := Try.prog
def lkD {α : Type} (d : α) (l : List (Nat × α)) (i : Nat) : α := (lkL l i).getD d
def cArr : List Nat := [24, 51]
def cUse : List Nat := [5, 13, 15, 18, 21, 25, 27, 29, 31, 33, 35, 37, 64, 65, 68, 69, 71, 72, 73, 77, 78, 83, 84, 85, 86, 87, 89]
def cGlob : List (Nat × List Nat) := [(18, [65, 85]), (64, [36]), (68, [7]), (85, [12])]
def cPairs : List (Nat × List (Nat × List (Nat × Nat))) := [(37, [(2, [(1, 2)]), (13, [(1, 2)])])]
def cPairsH : List (Nat × List (Nat × List (Nat × Nat))) := [(5, [(26, [(0, 7)])]), (25, [(2, [(4, 6)]), (4, [(4, 6)]), (5, [(4, 6)])]), (27, [(1, [(0, 2)])]), (37, [(2, [(1, 2)]), (8, [(2, 3)]), (13, [(1, 2)])])]
def Cg : Cfg := { isArr := fun t => cArr.contains t, use := fun f => cUse.contains f, glob := fun f t => (lkD [] cGlob f).contains t, pairs := fun f i => lkD [] (lkD [] cPairs f) i, pairsH := fun f i => lkD [] (lkD [] cPairsH f) i }
noncomputable section
def I (n : Nat) : V := .int .i64 (.ofNat n)
def gl (f : Tm → V) (tm : Tm) : V := Tr.rec (motive := fun _ => V) .dead (fun _ l _ _ _ => f l) tm
def gr (f : Tm → V) (tm : Tm) : V := Tr.rec (motive := fun _ => V) .dead (fun _ _ r _ _ => f r) tm
def pl (f : Tm → V → Tm) (tm : Tm) (w : V) : Tm := Tr.rec (motive := fun _ => Tm) (.nd none (f .lf w) .lf) (fun v l r _ _ => .nd v (f l w) r) tm
def pr (f : Tm → V → Tm) (tm : Tm) (w : V) : Tm := Tr.rec (motive := fun _ => Tm) (.nd none .lf (f .lf w)) (fun v l r _ _ => .nd v l (f r w)) tm
def gn (F : Func) (f id i : Nat) (call : CallF) := gen Pg Cg call (Cg.glob f) (opA F id i)
def gD (F : Func) (f id i : Nat) (call : CallF) := genD Pg Cg call (Cg.glob f) (opA F id i)
def sD (F : Func) (f id : Nat) (call : CallF) := stopD Pg Cg call (Cg.glob f) (rgA F id) (Cg.pairs f id) (Cg.pairsH f id)
def sto (t : Nat) (a x : V) (loc : Lo) (hp : Hp) (j : V → Lo → Hp → R) (slow : R) : R := G.onPtr a (fun r off => G.onRef r (fun s g => stL Pg t s g off x loc (fun loc => j (.tuple []) loc hp)) (fun _ => slow)) (fun _ => none) none
def jE (c : List (Nat × V)) (f : List (Nat × V) → R) : R := f c
def jF (c : List Foot) (f : List Foot → R) : R := f c
def g0 (tm : Tm) : V := Tr.rec (motive := fun _ => V) .dead (fun v _ _ _ _ => Option.rec (motive := fun _ => V) .dead (fun a => a) v) tm
def g1 : Tm → V := gl g0
def g2 : Tm → V := gr g0
def g3 : Tm → V := gl g1
def g4 : Tm → V := gr g1
def g5 : Tm → V := gl g2
def g6 : Tm → V := gr g2
def g7 : Tm → V := gl g3
def g8 : Tm → V := gr g3
def g9 : Tm → V := gl g4
def g10 : Tm → V := gr g4
def g11 : Tm → V := gl g5
def g12 : Tm → V := gr g5
def g13 : Tm → V := gl g6
def g14 : Tm → V := gr g6
def g15 : Tm → V := gl g7
def g16 : Tm → V := gr g7
def g17 : Tm → V := gl g8
def g20 : Tm → V := gr g9
def g21 : Tm → V := gl g10
def g22 : Tm → V := gr g10
def g28 : Tm → V := gr g13
def g29 : Tm → V := gl g14
def g30 : Tm → V := gr g14
def g34 : Tm → V := gr g16
def g35 : Tm → V := gl g17
def g41 : Tm → V := gl g20
def g42 : Tm → V := gr g20
def g57 : Tm → V := gl g28
def g70 : Tm → V := gr g34
def g71 : Tm → V := gl g35
def p0 (tm : Tm) (w : V) : Tm := Tr.rec (motive := fun _ => Tm) (.nd (some w) .lf .lf) (fun _ l r _ _ => .nd (some w) l r) tm
def p1 : Tm → V → Tm := pl p0
def p2 : Tm → V → Tm := pr p0
def p3 : Tm → V → Tm := pl p1
def p4 : Tm → V → Tm := pr p1
def p5 : Tm → V → Tm := pl p2
def p6 : Tm → V → Tm := pr p2
def p7 : Tm → V → Tm := pl p3
def p8 : Tm → V → Tm := pr p3
def p9 : Tm → V → Tm := pl p4
def p10 : Tm → V → Tm := pr p4
def p11 : Tm → V → Tm := pl p5
def p12 : Tm → V → Tm := pr p5
def p13 : Tm → V → Tm := pl p6
def p14 : Tm → V → Tm := pr p6
def p15 : Tm → V → Tm := pl p7
def p16 : Tm → V → Tm := pr p7
def p17 : Tm → V → Tm := pl p8
def p18 : Tm → V → Tm := pr p8
def p19 : Tm → V → Tm := pl p9
def p20 : Tm → V → Tm := pr p9
def p21 : Tm → V → Tm := pl p10
def p22 : Tm → V → Tm := pr p10
def p23 : Tm → V → Tm := pl p11
def p24 : Tm → V → Tm := pr p11
def p25 : Tm → V → Tm := pl p12
def p26 : Tm → V → Tm := pr p12
def p27 : Tm → V → Tm := pl p13
def p28 : Tm → V → Tm := pr p13
def p29 : Tm → V → Tm := pl p14
def p30 : Tm → V → Tm := pr p14
def p31 : Tm → V → Tm := pl p15
def p32 : Tm → V → Tm := pr p15
def p33 : Tm → V → Tm := pl p16
def p34 : Tm → V → Tm := pr p16
def p35 : Tm → V → Tm := pl p17
def p36 : Tm → V → Tm := pr p17
def p37 : Tm → V → Tm := pl p18
def p38 : Tm → V → Tm := pr p18
def p39 : Tm → V → Tm := pl p19
def p40 : Tm → V → Tm := pr p19
def p41 : Tm → V → Tm := pl p20
def p42 : Tm → V → Tm := pr p20
def p43 : Tm → V → Tm := pl p21
def p44 : Tm → V → Tm := pr p21
def p45 : Tm → V → Tm := pl p22
def p46 : Tm → V → Tm := pr p22
def p48 : Tm → V → Tm := pr p23
def p50 : Tm → V → Tm := pr p24
def p51 : Tm → V → Tm := pl p25
def p52 : Tm → V → Tm := pr p25
def p54 : Tm → V → Tm := pr p26
def p55 : Tm → V → Tm := pl p27
def p56 : Tm → V → Tm := pr p27
def p57 : Tm → V → Tm := pl p28
def p58 : Tm → V → Tm := pr p28
def p59 : Tm → V → Tm := pl p29
def p60 : Tm → V → Tm := pr p29
def p61 : Tm → V → Tm := pl p30
def p62 : Tm → V → Tm := pr p30
def p63 : Tm → V → Tm := pl p31
def p64 : Tm → V → Tm := pr p31
def p65 : Tm → V → Tm := pl p32
def p66 : Tm → V → Tm := pr p32
def p67 : Tm → V → Tm := pl p33
def p68 : Tm → V → Tm := pr p33
def p69 : Tm → V → Tm := pl p34
def p70 : Tm → V → Tm := pr p34
def p71 : Tm → V → Tm := pl p35
def p72 : Tm → V → Tm := pr p35
def p75 : Tm → V → Tm := pl p37
def p76 : Tm → V → Tm := pr p37
def p77 : Tm → V → Tm := pl p38
def p82 : Tm → V → Tm := pr p40
def p83 : Tm → V → Tm := pl p41
def p84 : Tm → V → Tm := pr p41
def p86 : Tm → V → Tm := pr p42
def p87 : Tm → V → Tm := pl p43
def p88 : Tm → V → Tm := pr p43
def p97 : Tm → V → Tm := pl p48
def p105 : Tm → V → Tm := pl p52
def p112 : Tm → V → Tm := pr p55
def p126 : Tm → V → Tm := pr p62
def p131 : Tm → V → Tm := pl p65
def p132 : Tm → V → Tm := pr p65
def p133 : Tm → V → Tm := pl p66
def kp5 : List Nat := [0, 1, 4, 5, 6, 7, 8, 9, 10, 11, 12, 14, 17, 23, 43, 51, 52, 60, 61, 68, 86]
def rc5 : RC := (.seq (.reg fun c t l h k => k (p4 t (.bool false)) l h)
 (.seq (.seq (.reg fun c t l h k => cl c 13 [] t l h fun v0 l0 h0 => bO (G.un .not v0) fun v1 => k (p14 t v1) l0 h0)
 (.cond (.tmp 14) (.seq (.reg fun c t l h k => k (p4 t (.bool false)) l h)
 .ret) .skip))
 (.seq (.seq (.reg fun c t l h k => bO (len (Pg.underlying 51) (g0 t)) fun v0 => bO (bin Pg .gtr 3 true v0 (I 200)) fun v1 => k (p17 t v1) l h)
 (.cond (.tmp 17) (.seq (.reg fun c t l h k => k (p4 t (.bool true)) l h)
 .ret) .skip))
 (.seq (.reg fun c t l h k => cl c 21 [(I 0)] t l h fun v0 l0 h0 => cl c 21 [(I 10)] t l0 h0 fun v1 l1 h1 => al Pg 26 5 l1 fun v2 l2 => al Pg 26 6 l2 fun v3 l3 => jn (fun v4 l4 h4 => jn (fun v5 l5 h5 => k (p6 (p5 t v2) v3) l5 h5) fun j5 => sto 26 v3 v1 l4 h4 j5 (gn Try.f5 5 5 5 c (p19 (p6 t v3) v1) t l4 h4 j5)) fun j4 => sto 26 v2 v0 l3 h1 j4 (gn Try.f5 5 5 4 c (p18 (p5 t v2) v0) t l3 h1 j4))
 (.seq (.reg fun c t l h k => k (p7 t (.str ⟨0, 0⟩)) l h)
 (.seq (.seq (.reg fun c t l h k => k (p8 t (I 0)) l h)
 (.block 0 (.loop (.seq (.seq (.reg fun c t l h k => bO (len (Pg.underlying 51) (g0 t)) fun v0 => bO (bin Pg .lss 3 false (g8 t) v0) fun v1 => k (p23 t v1) l h)
 (.cond (.tmp 23) .skip (.exit 0)))
 (.seq (.block 1 (.seq (.reg fun c t l h k => bO (ia Pg 51 (g0 t) (g8 t)) fun v0 => bO (ld Pg 5 v0 l h) fun v1 => bO (bin Pg .rem 5 true v1 (.int .u8 (.ofNat 10))) fun v2 => k (p9 t v2) l h)
 (.seq (.reg fun c t l h k => bO (ld Pg 26 (g5 t) l h) fun v0 => bO (ld Pg 26 (g6 t) l h) fun v1 => cl c 29 [v0, v1] t l h fun v2 l2 h2 => gn Try.f5 5 11 4 c (p34 t (g9 t)) t l2 h2 (fun v3 l3 h3 => cl c 21 [v3] t l3 h3 fun v4 l4 h4 => cl c 25 [v2, v4] t l4 h4 fun v5 l5 h5 => jn (fun v6 l6 h6 => k t l6 h6) fun j6 => sto 26 (g5 t) v5 l5 h5 j6 (gn Try.f5 5 11 7 c (p37 (p5 t (g5 t)) v5) t l5 h5 j6)))
 (.seq (.reg fun c t l h k => bO (bin Pg .neq 9 true (g7 t) (.str ⟨0, 0⟩)) fun v0 => jn (fun v1 l1 h1 => jn (fun v2 l2 h2 => bO (pick v0 (.bool true) v2) fun v3 => k (p43 t v3) l2 h2) fun j2 => brB (wv v0 false) (j2 (.tuple []) l1 h1) (bO (bin Pg .gtr 5 true v1 (.int .u8 (.ofNat 0))) fun v3 => j2 v3 l1 h1)) fun j1 => brB (wv v0 false) (j1 (.tuple []) l h) (j1 (g9 t) l h))
 (.cond (.tmp 43) (.reg fun c t l h k => bO (bin Pg .add 5 true (g9 t) (.int .u8 (.ofNat 1))) fun v0 => bO (slc Pg 9 (.str ⟨10, 270211885617516653982000⟩) (some (g9 t)) (some v0) none) fun v1 => bO (bin Pg .add 9 false (g7 t) v1) fun v2 => k (p7 t v2) l h) .skip)))))
 (.reg fun c t l h k => bO (bin Pg .add 3 true (g8 t) (I 1)) fun v0 => k (p8 t v0) l h))))))
 (.seq (.seq (.reg fun c t l h k => bO (bin Pg .eql 9 true (g7 t) (.str ⟨0, 0⟩)) fun v0 => k (p51 t v0) l h)
 (.cond (.tmp 51) (.reg fun c t l h k => k (p7 t (.str ⟨1, 48⟩)) l h) (.seq (.reg fun c t l h k => k (p52 t (g1 t)) l h)
 (.cond (.tmp 52) (.reg fun c t l h k => bO (ld Pg 26 (g5 t) l h) fun v0 => cl c 31 [v0] t l h fun v1 l1 h1 => bO (bin Pg .add 9 true (.str ⟨1, 45⟩) (g7 t)) fun v2 => jn (fun v3 l3 h3 => k (p7 t v2) l3 h3) fun j3 => sto 26 (g5 t) v1 l1 h1 j3 (gn Try.f5 5 17 4 c (p54 (p5 t (g5 t)) v1) t l1 h1 j3)) .skip))))
 (.seq (.seq (.reg fun c t l h k => bO (ld Pg 26 (g5 t) l h) fun v0 => cl c 18 [v0] t l h fun v1 l1 h1 => bO (bin Pg .neq 9 false v1 (g7 t)) fun v2 => k (p60 t v2) l1 h1)
 (.cond (.tmp 60) (.seq (.reg fun c t l h k => k (p4 t (.bool false)) l h)
 .ret) .skip))
 (.seq (.seq (.reg fun c t l h k => k (p61 t (g1 t)) l h)
 (.cond (.tmp 61) (.reg fun c t l h k => bO (ld Pg 26 (g5 t) l h) fun v0 => cl c 31 [v0] t l h fun v1 l1 h1 => jn (fun v2 l2 h2 => k t l2 h2) fun j2 => sto 26 (g5 t) v1 l1 h1 j2 (gn Try.f5 5 21 2 c (p63 (p5 t (g5 t)) v1) t l1 h1 j2)) .skip))
 (.seq (.seq (.reg fun c t l h k => bO (len (Pg.underlying 51) (g0 t)) fun v0 => bO (bin Pg .sub 3 true v0 (I 1)) fun v1 => k (p10 t v1) l h)
 (.block 2 (.loop (.seq (.seq (.reg fun c t l h k => bO (bin Pg .geq 3 true (g10 t) (I 0)) fun v0 => k (p68 t v0) l h)
 (.cond (.tmp 68) .skip (.exit 2)))
 (.seq (.block 3 (.seq (.reg fun c t l h k => bO (ld Pg 26 (g5 t) l h) fun v0 => bO (ld Pg 26 (g6 t) l h) fun v1 => cl c 37 [v0, v1] t l h fun v2 l2 h2 => bO (ext v2 0) fun v3 => bO (ext v2 1) fun v4 => al Pg 26 11 l2 fun v5 l5 => al Pg 26 12 l5 fun v6 l6 => jn (fun v7 l7 h7 => jn (fun v8 l8 h8 => k (p12 (p11 t v5) v6) l8 h8) fun j8 => sto 26 v6 v4 l7 h7 j8 (gn Try.f5 5 25 9 c (p76 (p12 t v6) v4) t l7 h7 j8)) fun j7 => sto 26 v5 v3 l6 h2 j7 (gn Try.f5 5 25 8 c (p75 (p11 t v5) v3) t l6 h2 j7))
 (.seq (.seq (.reg fun c t l h k => bO (ld Pg 26 (g12 t) l h) fun v0 => bO (ia Pg 51 (g0 t) (g10 t)) fun v1 => bO (ld Pg 5 v1 l h) fun v2 => bO (bin Pg .rem 5 true v2 (.int .u8 (.ofNat 10))) fun v3 => jE ((82, v3) :: (81, v2) :: (80, v1) :: (79, (g10 t)) :: (78, (g0 t)) :: (77, v0) :: []) fun e4 => jF (ft0 :: (ldF v1) :: ft0 :: ft0 :: ft0 :: (ldF (g12 t)) :: []) fun q4 => gD Try.f5 5 26 6 c (p82 t v3) l h (fun v4 f4 l4 h4 => jE ((83, v4) :: e4) fun e5 => jF (f4 :: q4) fun q5 => clD c 21 [v4] l4 h4 (fun v5 f5 l5 h5 => jE ((84, v5) :: e5) fun e6 => jF (f5 :: q5) fun q6 => clD c 33 [v0, v5] l5 h5 (fun v6 f6 l6 h6 => bO (bin Pg .neq 3 true v6 (I 0)) fun v7 => finD (rgA Try.f5 26).toList [] [(0, 7)] (ft0 :: f6 :: q6) (k (p86 t v7) l6 h6)) (sD Try.f5 5 26 c 8 (some 85) e6 q6 t l5 h5)) (sD Try.f5 5 26 c 7 (some 84) e5 q5 t l4 h4)) (sD Try.f5 5 26 c 6 (some 83) e4 q4 t l h))
 (.cond (.tmp 86) (.seq (.reg fun c t l h k => k (p4 t (.bool false)) l h)
 .ret) .skip))
 (.reg fun c t l h k => bO (ld Pg 26 (g11 t) l h) fun v0 => jn (fun v1 l1 h1 => k t l1 h1) fun j1 => sto 26 (g5 t) v0 l h j1 (gn Try.f5 5 28 1 c (p87 (p5 t (g5 t)) v0) t l h j1)))))
 (.reg fun c t l h k => bO (bin Pg .sub 3 true (g10 t) (I 1)) fun v0 => k (p10 t v0) l h))))))
 (.seq (.reg fun c t l h k => bO (ld Pg 26 (g5 t) l h) fun v0 => cl c 35 [v0] t l h fun v1 l1 h1 => bO (bin Pg .eql 3 true v1 (I 0)) fun v2 => k (p4 t v2) l1 h1)
 .ret)))))))))))
def kp13 : List Nat := [0, 1, 2, 3, 4, 6, 7]
def rc13 : RC := (.seq (.reg fun c t l h k => k (p0 t (.bool false)) l h)
 (.seq (.reg fun c t l h k => cl c 21 [(.int .i64 (.negSucc 6))] t l h fun v0 l0 h0 => cl c 21 [(I 2)] t l0 h0 fun v1 l1 h1 => cl c 37 [v0, v1] t l1 h1 fun v2 l2 h2 => bO (ext v2 0) fun v3 => bO (ext v2 1) fun v4 => al Pg 26 1 l2 fun v5 l5 => al Pg 26 2 l5 fun v6 l6 => jn (fun v7 l7 h7 => jn (fun v8 l8 h8 => k (p2 (p1 t v5) v6) l8 h8) fun j8 => sto 26 v6 v4 l7 h7 j8 (gn Try.f13 13 1 9 c (p13 (p2 t v6) v4) t l7 h7 j8)) fun j7 => sto 26 v5 v3 l6 h2 j7 (gn Try.f13 13 1 8 c (p12 (p1 t v5) v3) t l6 h2 j7))
 (.seq (.reg fun c t l h k => cl c 21 [(.int .i64 (.negSucc 6))] t l h fun v0 l0 h0 => cl c 21 [(.int .i64 (.negSucc 1))] t l0 h0 fun v1 l1 h1 => cl c 37 [v0, v1] t l1 h1 fun v2 l2 h2 => bO (ext v2 0) fun v3 => bO (ext v2 1) fun v4 => al Pg 26 3 l2 fun v5 l5 => al Pg 26 4 l5 fun v6 l6 => jn (fun v7 l7 h7 => jn (fun v8 l8 h8 => k (p4 (p3 t v5) v6) l8 h8) fun j8 => sto 26 v6 v4 l7 h7 j8 (gn Try.f13 13 2 9 c (p19 (p4 t v6) v4) t l7 h7 j8)) fun j7 => sto 26 v5 v3 l6 h2 j7 (gn Try.f13 13 2 8 c (p18 (p3 t v5) v3) t l6 h2 j7))
 (.seq (.reg fun c t l h k => cl c 15 [(.str ⟨2, 12333⟩)] t l h fun v0 l0 h0 => bO (ext v0 0) fun v1 => bO (ext v0 1) fun v2 => al Pg 26 5 l0 fun v3 l3 => jn (fun v4 l4 h4 => k (p6 t v2) l4 h4) fun j4 => sto 26 v3 v1 l3 h0 j4 (gn Try.f13 13 3 5 c (p22 (p5 t v3) v1) t l3 h0 j4))
 (.seq (.reg fun c t l h k => al Pg 26 7 l fun v0 l0 => k (p7 t v0) l0 h)
 (.seq (.reg fun c t l h k => bO (ld Pg 26 (g1 t) l h) fun v0 => cl c 18 [v0] t l h fun v1 l1 h1 => bO (bin Pg .eql 9 true v1 (.str ⟨2, 13357⟩)) fun v2 => jn (fun v3 l3 h3 => jn (fun v4 l4 h4 => jn (fun v5 l5 h5 => bO (pick v2 v5 (.bool false)) fun v6 => jn (fun v7 l7 h7 => jn (fun v8 l8 h8 => jn (fun v9 l9 h9 => bO (pick v6 v9 (.bool false)) fun v10 => jn (fun v11 l11 h11 => jn (fun v12 l12 h12 => jn (fun v13 l13 h13 => bO (pick v10 v13 (.bool false)) fun v14 => jn (fun v15 l15 h15 => jn (fun v16 l16 h16 => bO (pick v14 v16 (.bool false)) fun v17 => jn (fun v18 l18 h18 => jn (fun v19 l19 h19 => jn (fun v20 l20 h20 => bO (pick v17 v20 (.bool false)) fun v21 => k (p0 t v21) l20 h20) fun j20 => brB (wv v17 true) (j20 (.tuple []) l19 h19) (bO (bin Pg .eql 9 true v19 (.str ⟨1, 48⟩)) fun v21 => j20 v21 l19 h19)) fun j19 => brB (wv v17 true) (j19 (.tuple []) l18 h18) (cl c 18 [v18] t l18 h18 fun v20 l20 h20 => j19 v20 l20 h20)) fun j18 => brB (wv v17 true) (j18 (.tuple []) l16 h16) (bO (ld Pg 26 (g7 t) l16 h16) fun v19 => j18 v19 l16 h16)) fun j16 => brB (wv v14 true) (j16 (.tuple []) l15 h15) (bO (G.un .not v15) fun v17 => j16 v17 l15 h15)) fun j15 => brB (wv v14 true) (j15 (.tuple []) l13 h13) (j15 (g6 t) l13 h13)) fun j13 => brB (wv v10 true) (j13 (.tuple []) l12 h12) (bO (bin Pg .eql 9 true v12 (.str ⟨1, 49⟩)) fun v14 => j13 v14 l12 h12)) fun j12 => brB (wv v10 true) (j12 (.tuple []) l11 h11) (cl c 18 [v11] t l11 h11 fun v13 l13 h13 => j12 v13 l13 h13)) fun j11 => brB (wv v10 true) (j11 (.tuple []) l9 h9) (bO (ld Pg 26 (g4 t) l9 h9) fun v12 => j11 v12 l9 h9)) fun j9 => brB (wv v6 true) (j9 (.tuple []) l8 h8) (bO (bin Pg .eql 9 true v8 (.str ⟨1, 52⟩)) fun v10 => j9 v10 l8 h8)) fun j8 => brB (wv v6 true) (j8 (.tuple []) l7 h7) (cl c 18 [v7] t l7 h7 fun v9 l9 h9 => j8 v9 l9 h9)) fun j7 => brB (wv v6 true) (j7 (.tuple []) l5 h5) (bO (ld Pg 26 (g3 t) l5 h5) fun v8 => j7 v8 l5 h5)) fun j5 => brB (wv v2 true) (j5 (.tuple []) l4 h4) (bO (bin Pg .eql 9 true v4 (.str ⟨1, 49⟩)) fun v6 => j5 v6 l4 h4)) fun j4 => brB (wv v2 true) (j4 (.tuple []) l3 h3) (cl c 18 [v3] t l3 h3 fun v5 l5 h5 => j4 v5 l5 h5)) fun j3 => brB (wv v2 true) (j3 (.tuple []) l1 h1) (bO (ld Pg 26 (g2 t) l1 h1) fun v4 => j3 v4 l1 h1))
 .ret))))))
def kp15 : List Nat := [0, 2, 3, 4, 5, 6, 7, 8, 9, 10, 11, 21, 38, 41, 42, 43, 51, 69, 70, 71, 72]
def rc15 : RC := (.seq (.reg fun c t l h k => al Pg 26 2 l fun v0 l0 => k (p3 (p2 t v0) (.bool false)) l0 h)
 (.seq (.reg fun c t l h k => bO (len (Pg.underlying 9) (g0 t)) fun v0 => bO (bin Pg .gtr 3 true v0 (I 0)) fun v1 => jn (fun v2 l2 h2 => jn (fun v3 l3 h3 => jn (fun v4 l4 h4 => bO (pick v1 v4 (.bool false)) fun v5 => k (p4 t v5) l4 h4) fun j4 => brB (wv v1 true) (j4 (.tuple []) l3 h3) (bO (bin Pg .eql 5 true v3 (.int .u8 (.ofNat 45))) fun v5 => j4 v5 l3 h3)) fun j3 => brB (wv v1 true) (j3 (.tuple []) l2 h2) (bO (idx Pg 9 v2 (I 0)) fun v4 => j3 v4 l2 h2)) fun j2 => brB (wv v1 true) (j2 (.tuple []) l h) (j2 (g0 t) l h))
 (.seq (.reg fun c t l h k => k (p5 t (g0 t)) l h)
 (.seq (.seq (.reg fun c t l h k => k (p21 t (g4 t)) l h)
 (.cond (.tmp 21) (.reg fun c t l h k => bO (slc Pg 9 (g0 t) (some (I 1)) none none) fun v0 => k (p5 t v0) l h) .skip))
 (.seq (.seq (.reg fun c t l h k => bO (bin Pg .eql 9 true (g5 t) (.str ⟨0, 0⟩)) fun v0 => jn (fun v1 l1 h1 => jn (fun v2 l2 h2 => jn (fun v3 l3 h3 => jn (fun v4 l4 h4 => jn (fun v5 l5 h5 => jn (fun v6 l6 h6 => jn (fun v7 l7 h7 => jn (fun v8 l8 h8 => jn (fun v9 l9 h9 => jn (fun v10 l10 h10 => jn (fun v11 l11 h11 => bO (pick v0 (.bool true) v11) fun v12 => k (p38 t v12) l11 h11) fun j11 => brB (wv v0 false) (j11 (.tuple []) l10 h10) (bO (pick v4 v10 (.bool false)) fun v12 => j11 v12 l10 h10)) fun j10 => brB (wv v4 true) (j10 (.tuple []) l9 h9) (bO (pick v8 (.bool true) v9) fun v11 => j10 v11 l9 h9)) fun j9 => brB (wv v8 false) (j9 (.tuple []) l8 h8) (j9 (g4 t) l8 h8)) fun j8 => brB (wv v4 true) (j8 (.tuple []) l7 h7) (j8 v7 l7 h7)) fun j7 => brB (wv v4 true) (j7 (.tuple []) l6 h6) (bO (bin Pg .gtr 3 true v6 (I 1)) fun v8 => j7 v8 l6 h6)) fun j6 => brB (wv v4 true) (j6 (.tuple []) l5 h5) (bO (len (Pg.underlying 9) v5) fun v7 => j6 v7 l5 h5)) fun j5 => brB (wv v4 true) (j5 (.tuple []) l4 h4) (j5 (g5 t) l4 h4)) fun j4 => brB (wv v0 false) (j4 (.tuple []) l3 h3) (j4 v3 l3 h3)) fun j3 => brB (wv v0 false) (j3 (.tuple []) l2 h2) (bO (bin Pg .eql 5 true v2 (.int .u8 (.ofNat 48))) fun v4 => j3 v4 l2 h2)) fun j2 => brB (wv v0 false) (j2 (.tuple []) l1 h1) (bO (idx Pg 9 v1 (I 0)) fun v3 => j2 v3 l1 h1)) fun j1 => brB (wv v0 false) (j1 (.tuple []) l h) (j1 (g5 t) l h))
 (.cond (.tmp 38) (.seq (.reg fun c t l h k => gn Try.f15 15 6 0 c t t l h (fun v0 l0 h0 => jn (fun v1 l1 h1 => k (p3 t (.bool false)) l1 h1) fun j1 => sto 26 (g2 t) v0 l0 h0 j1 (gn Try.f15 15 6 1 c (p39 (p2 t (g2 t)) v0) t l0 h0 j1)))
 .ret) .skip))
 (.seq (.reg fun c t l h k => k (p6 t .nils) l h)
 (.seq (.reg fun c t l h k => k (p8 (p7 t (.int .u64 (.ofNat 0))) (I 0)) l h)
 (.seq (.seq (.reg fun c t l h k => gn Try.f15 15 9 1 c (p40 t (g5 t)) t l h (fun v0 l0 h0 => k (p41 t v0) l0 h0))
 (.block 0 (.loop (.seq (.reg fun c t l h k => gn Try.f15 15 10 0 c (p41 t (g41 t)) t l h (fun v0 l0 h0 => bO (ext v0 0) fun v1 => k (p43 (p42 t v0) v1) l0 h0))
 (.seq (.cond (.tmp 43) .skip (.exit 0))
 (.block 1 (.seq (.reg fun c t l h k => bO (ext (g42 t) 1) fun v0 => bO (ext (g42 t) 2) fun v1 => k (p10 (p9 t v0) v1) l h)
 (.seq (.seq (.reg fun c t l h k => bO (bin Pg .lss 21 true (g10 t) (.int .i32 (.ofNat 48))) fun v0 => jn (fun v1 l1 h1 => jn (fun v2 l2 h2 => bO (pick v0 (.bool true) v2) fun v3 => k (p51 t v3) l2 h2) fun j2 => brB (wv v0 false) (j2 (.tuple []) l1 h1) (bO (bin Pg .gtr 21 true v1 (.int .i32 (.ofNat 57))) fun v3 => j2 v3 l1 h1)) fun j1 => brB (wv v0 false) (j1 (.tuple []) l h) (j1 (g10 t) l h))
 (.cond (.tmp 51) (.seq (.reg fun c t l h k => gn Try.f15 15 13 0 c t t l h (fun v0 l0 h0 => jn (fun v1 l1 h1 => k (p3 t (.bool false)) l1 h1) fun j1 => sto 26 (g2 t) v0 l0 h0 j1 (gn Try.f15 15 13 1 c (p52 (p2 t (g2 t)) v0) t l0 h0 j1)))
 .ret) .skip))
 (.seq (.reg fun c t l h k => bO (bin Pg .mul 80 true (.int .u64 (.ofNat 10)) (g7 t)) fun v0 => bO (bin Pg .sub 21 true (g10 t) (.int .i32 (.ofNat 48))) fun v1 => gn Try.f15 15 14 4 c (p56 t v1) t l h (fun v2 l2 h2 => bO (bin Pg .add 80 false v0 v2) fun v3 => k (p7 t v3) l2 h2))
 (.seq (.reg fun c t l h k => bO (bin Pg .add 3 true (g8 t) (I 1)) fun v0 => k (p8 t v0) l h)
 (.seq (.reg fun c t l h k => bO (bin Pg .eql 3 true (g8 t) (I 9)) fun v0 => jn (fun v1 l1 h1 => jn (fun v2 l2 h2 => jn (fun v3 l3 h3 => jn (fun v4 l4 h4 => jn (fun v5 l5 h5 => bO (pick v0 (.bool true) v5) fun v6 => k (p69 t v6) l5 h5) fun j5 => brB (wv v0 false) (j5 (.tuple []) l4 h4) (bO (bin Pg .eql 3 false v1 v4) fun v6 => j5 v6 l4 h4)) fun j4 => brB (wv v0 false) (j4 (.tuple []) l3 h3) (bO (bin Pg .sub 3 true v3 (I 1)) fun v5 => j4 v5 l3 h3)) fun j3 => brB (wv v0 false) (j3 (.tuple []) l2 h2) (bO (len (Pg.underlying 9) v2) fun v4 => j3 v4 l2 h2)) fun j2 => brB (wv v0 false) (j2 (.tuple []) l1 h1) (j2 (g5 t) l1 h1)) fun j1 => brB (wv v0 false) (j1 (.tuple []) l h) (j1 (g9 t) l h))
 (.cond (.tmp 69) (.seq (.reg fun c t l h k => k (p11 t (.int .u64 (.ofNat 1))) l h)
 (.seq (.seq (.reg fun c t l h k => k (p71 (p70 t (g8 t)) (I 0)) l h)
 (.block 2 (.loop (.seq (.reg fun c t l h k => bO (bin Pg .lss 3 false (g71 t) (g70 t)) fun v0 => k (p72 t v0) l h)
 (.seq (.cond (.tmp 72) .skip (.exit 2))
 (.seq (.block 3 (.reg fun c t l h k => bO (bin Pg .mul 80 true (g11 t) (.int .u64 (.ofNat 10))) fun v0 => k (p11 t v0) l h))
 (.reg fun c t l h k => bO (bin Pg .add 3 true (g71 t) (I 1)) fun v0 => k (p71 t v0) l h)))))))
 (.seq (.reg fun c t l h k => cl c 64 [(g6 t), (g11 t), (g7 t)] t l h fun v0 l0 h0 => k (p6 t v0) l0 h0)
 (.reg fun c t l h k => k (p8 (p7 t (.int .u64 (.ofNat 0))) (I 0)) l h)))) .skip))))))))))))
 (.seq (.reg fun c t l h k => cl c 65 [(g6 t), (g4 t)] t l h fun v0 l0 h0 => jn (fun v1 l1 h1 => k (p3 t (.bool true)) l1 h1) fun j1 => sto 26 (g2 t) v0 l0 h0 j1 (gn Try.f15 15 24 3 c (p82 (p2 t (g2 t)) v0) t l0 h0 j1))
 .ret)))))))))
def kp18 : List Nat := [0, 1, 2, 3, 4, 5, 6, 10, 16, 21, 51, 57, 58, 75, 82]
def rc18 : RC := (.seq (.reg fun c t l h k => gn Try.f18 18 0 0 c (p0 t (g0 t)) t l h (fun v0 l0 h0 => k (p2 (p1 t v0) (.str ⟨0, 0⟩)) l0 h0))
 (.seq (.seq (.reg fun c t l h k => bO (fa Pg 26 (g1 t) 0) fun v0 => bO (ld Pg 24 v0 l h) fun v1 => bO (len (Pg.underlying 24) v1) fun v2 => bO (bin Pg .eql 3 true v2 (I 0)) fun v3 => k (p10 t v3) l h)
 (.cond (.tmp 10) (.seq (.reg fun c t l h k => k (p2 t (.str ⟨1, 48⟩)) l h)
 .ret) .skip))
 (.seq (.reg fun c t l h k => k (p3 t .nils) l h)
 (.seq (.reg fun c t l h k => bO (fa Pg 26 (g1 t) 0) fun v0 => bO (ld Pg 24 v0 l h) fun v1 => cl c 68 [v1] t l h fun v2 l2 h2 => k (p4 t v2) l2 h2)
 (.seq (.block 0 (.loop (.seq (.seq (.reg fun c t l h k => bO (len (Pg.underlying 24) (g4 t)) fun v0 => bO (bin Pg .gtr 3 true v0 (I 0)) fun v1 => k (p16 t v1) l h)
 (.cond (.tmp 16) .skip (.exit 0)))
 (.block 1 (.seq (.reg fun c t l h k => k (p5 t (.int .u64 (.ofNat 0))) l h)
 (.seq (.seq (.reg fun c t l h k => bO (len (Pg.underlying 24) (g4 t)) fun v0 => bO (bin Pg .sub 3 true v0 (I 1)) fun v1 => k (p6 t v1) l h)
 (.block 2 (.loop (.seq (.seq (.reg fun c t l h k => bO (bin Pg .geq 3 true (g6 t) (I 0)) fun v0 => k (p21 t v0) l h)
 (.cond (.tmp 21) .skip (.exit 2)))
 (.seq (.block 3 (.seq (.reg fun c t l h k => bO (bin Pg .shl 80 true (g5 t) (.int .u64 (.ofNat 32))) fun v0 => bO (ia Pg 24 (g4 t) (g6 t)) fun v1 => bO (ld Pg 86 v1 l h) fun v2 => gn Try.f18 18 10 6 c (p29 t v2) t l h (fun v3 l3 h3 => bO (bin Pg .or 80 false v0 v3) fun v4 => k (p5 t v4) l3 h3))
 (.seq (.reg fun c t l h k => bO (bin Pg .quo 80 true (g5 t) (.int .u64 (.ofNat 1000000000))) fun v0 => gn Try.f18 18 11 4 c (p35 t v0) t l h (fun v1 l1 h1 => bO (ia Pg 24 (g4 t) (g6 t)) fun v2 => jn (fun v3 l3 h3 => k t l3 h3) fun j3 => sto 86 v2 v1 l1 h1 j3 (gn Try.f18 18 11 6 c (p36 (p37 t v2) v1) t l1 h1 j3)))
 (.reg fun c t l h k => bO (bin Pg .rem 80 true (g5 t) (.int .u64 (.ofNat 1000000000))) fun v0 => k (p5 t v0) l h))))
 (.reg fun c t l h k => bO (bin Pg .sub 3 true (g6 t) (I 1)) fun v0 => k (p6 t v0) l h))))))
 (.seq (.block 4 (.loop (.seq (.seq (.reg fun c t l h k => bO (len (Pg.underlying 24) (g4 t)) fun v0 => bO (bin Pg .gtr 3 true v0 (I 0)) fun v1 => jn (fun v2 l2 h2 => jn (fun v3 l3 h3 => jn (fun v4 l4 h4 => jn (fun v5 l5 h5 => jn (fun v6 l6 h6 => jn (fun v7 l7 h7 => jn (fun v8 l8 h8 => bO (pick v1 v8 (.bool false)) fun v9 => k (p51 t v9) l8 h8) fun j8 => brB (wv v1 true) (j8 (.tuple []) l7 h7) (bO (bin Pg .eql 86 true v7 (.int .u32 (.ofNat 0))) fun v9 => j8 v9 l7 h7)) fun j7 => brB (wv v1 true) (j7 (.tuple []) l6 h6) (bO (ld Pg 86 v6 l6 h6) fun v8 => j7 v8 l6 h6)) fun j6 => brB (wv v1 true) (j6 (.tuple []) l5 h5) (bO (ia Pg 24 v2 v5) fun v7 => j6 v7 l5 h5)) fun j5 => brB (wv v1 true) (j5 (.tuple []) l4 h4) (bO (bin Pg .sub 3 true v4 (I 1)) fun v6 => j5 v6 l4 h4)) fun j4 => brB (wv v1 true) (j4 (.tuple []) l3 h3) (bO (len (Pg.underlying 24) v3) fun v5 => j4 v5 l3 h3)) fun j3 => brB (wv v1 true) (j3 (.tuple []) l2 h2) (j3 (g4 t) l2 h2)) fun j2 => brB (wv v1 true) (j2 (.tuple []) l h) (j2 (g4 t) l h))
 (.cond (.tmp 51) .skip (.exit 4)))
 (.block 5 (.reg fun c t l h k => bO (len (Pg.underlying 24) (g4 t)) fun v0 => bO (bin Pg .sub 3 true v0 (I 1)) fun v1 => bO (slc Pg 24 (g4 t) none (some v1) none) fun v2 => k (p4 t v2) l h)))))
 (.seq (.reg fun c t l h k => k (p57 t (I 0)) l h)
 (.block 6 (.loop (.seq (.reg fun c t l h k => bO (bin Pg .lss 3 true (g57 t) (I 9)) fun v0 => k (p58 t v0) l h)
 (.seq (.cond (.tmp 58) .skip (.exit 6))
 (.seq (.block 7 (.seq (.reg fun c t l h k => bO (bin Pg .rem 80 true (g5 t) (.int .u64 (.ofNat 10))) fun v0 => bO (bin Pg .add 80 true (.int .u64 (.ofNat 48)) v0) fun v1 => gn Try.f18 18 17 4 c (p62 t v1) t l h (fun v2 l2 h2 => gn Try.f18 18 17 5 c (p63 t v2) t l2 h2 (fun v3 l3 h3 => gn Try.f18 18 17 6 c (p64 (p59 t (g3 t)) v3) t l3 h3 (fun v4 l4 h4 => k (p3 t v4) l4 h4))))
 (.reg fun c t l h k => bO (bin Pg .quo 80 true (g5 t) (.int .u64 (.ofNat 10))) fun v0 => k (p5 t v0) l h)))
 (.reg fun c t l h k => bO (bin Pg .add 3 true (g57 t) (I 1)) fun v0 => k (p57 t v0) l h))))))))))))))
 (.seq (.block 8 (.loop (.seq (.seq (.reg fun c t l h k => bO (len (Pg.underlying 51) (g3 t)) fun v0 => bO (bin Pg .sub 3 true v0 (I 1)) fun v1 => bO (ia Pg 51 (g3 t) v1) fun v2 => bO (ld Pg 5 v2 l h) fun v3 => bO (bin Pg .eql 5 true v3 (.int .u8 (.ofNat 48))) fun v4 => k (p75 t v4) l h)
 (.cond (.tmp 75) .skip (.exit 8)))
 (.block 9 (.reg fun c t l h k => bO (len (Pg.underlying 51) (g3 t)) fun v0 => bO (bin Pg .sub 3 true v0 (I 1)) fun v1 => bO (slc Pg 51 (g3 t) none (some v1) none) fun v2 => k (p3 t v2) l h)))))
 (.seq (.seq (.reg fun c t l h k => bO (fa Pg 26 (g1 t) 1) fun v0 => bO (ld Pg 4 v0 l h) fun v1 => k (p82 t v1) l h)
 (.cond (.tmp 82) (.reg fun c t l h k => gn Try.f18 18 23 1 c t t l h (fun v0 l0 h0 => gn Try.f18 18 23 2 c (p84 (p83 t (g3 t)) v0) t l0 h0 (fun v1 l1 h1 => k (p3 t v1) l1 h1))) .skip))
 (.seq (.reg fun c t l h k => cl c 69 [(g3 t)] t l h fun v0 l0 h0 => k t l0 h0)
 (.seq (.reg fun c t l h k => gn Try.f18 18 25 1 c (p88 t (g3 t)) t l h (fun v0 l0 h0 => k (p2 t v0) l0 h0))
 .ret)))))))))
def kp21 : List Nat := [0, 2, 3, 7]
def rc21 : RC := (.seq (.reg fun c t l h k => al Pg 26 2 l fun v0 l0 => k (p2 t v0) l0 h)
 (.seq (.reg fun c t l h k => gn Try.f21 21 1 1 c (p4 t (g0 t)) t l h (fun v0 l0 h0 => k (p3 t v0) l0 h0))
 (.seq (.seq (.reg fun c t l h k => bO (bin Pg .lss 2 true (g0 t) (I 0)) fun v0 => k (p7 t v0) l h)
 (.cond (.tmp 7) (.reg fun c t l h k => bO (G.un .neg (g3 t)) fun v0 => k (p3 t v0) l h) .skip))
 (.seq (.reg fun c t l h k => gn Try.f21 21 4 1 c (p10 t (g3 t)) t l h (fun v0 l0 h0 => bO (bin Pg .shr 80 true (g3 t) (.int .u64 (.ofNat 32))) fun v1 => gn Try.f21 21 4 4 c (p13 t v1) t l0 h0 (fun v2 l2 h2 => gn Try.f21 21 4 5 c (p14 (p11 t v0) v2) t l2 h2 (fun v3 l3 h3 => bO (bin Pg .lss 2 true (g0 t) (I 0)) fun v4 => cl c 65 [v3, v4] t l3 h3 fun v5 l5 h5 => jn (fun v6 l6 h6 => k t l6 h6) fun j6 => sto 26 (g2 t) v5 l5 h5 j6 (gn Try.f21 21 4 9 c (p18 (p2 t (g2 t)) v5) t l5 h5 j6)))))
 .ret))))
def kp25 : List Nat := [0, 1, 2, 3, 4, 5, 19]
def rc25 : RC := (.seq (.reg fun c t l h k => gn Try.f25 25 0 0 c (p0 t (g0 t)) t l h (fun v0 l0 h0 => gn Try.f25 25 0 1 c (p1 t (g1 t)) t l0 h0 (fun v1 l1 h1 => al Pg 26 4 l1 fun v2 l2 => k (p4 (p3 (p2 t v0) v1) v2) l2 h1)))
 (.seq (.block 0 (.seq (.reg fun c t l h k => bO (fa Pg 26 (g2 t) 1) fun v0 => bO (ld Pg 4 v0 l h) fun v1 => bO (fa Pg 26 (g3 t) 1) fun v2 => bO (ld Pg 4 v2 l h) fun v3 => bO (bin Pg .eql 4 false v1 v3) fun v4 => k (p5 t v4) l h)
 (.cond (.tmp 5) (.seq (.reg fun c t l h k => bO (fa Pg 26 (g2 t) 0) fun v0 => bO (ld Pg 24 v0 l h) fun v1 => bO (fa Pg 26 (g3 t) 0) fun v2 => bO (ld Pg 24 v2 l h) fun v3 => jE ((14, v3) :: (13, v2) :: (12, v1) :: (11, v0) :: []) fun e4 => jF ((ldF v2) :: ft0 :: (ldF v0) :: ft0 :: []) fun q4 => clD c 71 [v1, v3] l h (fun v4 f4 l4 h4 => bO (fa Pg 26 (g2 t) 1) fun v5 => bO (ld Pg 4 v5 l4 h4) fun v6 => jE ((17, v6) :: (16, v5) :: (15, v4) :: e4) fun e7 => jF ((ldF v5) :: ft0 :: f4 :: q4) fun q7 => clD c 65 [v4, v6] l4 h4 (fun v7 f7 l7 h7 => jE ((18, v7) :: e7) fun e8 => jF (f7 :: q7) fun q8 => gD Try.f25 25 2 8 c (p18 (p4 t (g4 t)) v7) l7 h7 (fun v8 f8 l8 h8 => finD (rgA Try.f25 2).toList [] [(4, 6)] (f8 :: q8) (k t l8 h8)) (sD Try.f25 25 2 c 8 none e8 q8 t l7 h7)) (sD Try.f25 25 2 c 7 (some 18) e7 q7 t l4 h4)) (sD Try.f25 25 2 c 4 (some 15) e4 q4 t l h))
 .ret) (.seq (.reg fun c t l h k => bO (fa Pg 26 (g2 t) 0) fun v0 => bO (ld Pg 24 v0 l h) fun v1 => bO (fa Pg 26 (g3 t) 0) fun v2 => bO (ld Pg 24 v2 l h) fun v3 => cl c 72 [v1, v3] t l h fun v4 l4 h4 => bO (bin Pg .geq 3 true v4 (I 0)) fun v5 => k (p19 t v5) l4 h4)
 (.cond (.tmp 19) (.seq (.reg fun c t l h k => bO (fa Pg 26 (g2 t) 0) fun v0 => bO (ld Pg 24 v0 l h) fun v1 => bO (fa Pg 26 (g3 t) 0) fun v2 => bO (ld Pg 24 v2 l h) fun v3 => jE ((29, v3) :: (28, v2) :: (27, v1) :: (26, v0) :: []) fun e4 => jF ((ldF v2) :: ft0 :: (ldF v0) :: ft0 :: []) fun q4 => clD c 73 [v1, v3] l h (fun v4 f4 l4 h4 => bO (fa Pg 26 (g2 t) 1) fun v5 => bO (ld Pg 4 v5 l4 h4) fun v6 => jE ((32, v6) :: (31, v5) :: (30, v4) :: e4) fun e7 => jF ((ldF v5) :: ft0 :: f4 :: q4) fun q7 => clD c 65 [v4, v6] l4 h4 (fun v7 f7 l7 h7 => jE ((33, v7) :: e7) fun e8 => jF (f7 :: q7) fun q8 => gD Try.f25 25 4 8 c (p33 (p4 t (g4 t)) v7) l7 h7 (fun v8 f8 l8 h8 => finD (rgA Try.f25 4).toList [] [(4, 6)] (f8 :: q8) (k t l8 h8)) (sD Try.f25 25 4 c 8 none e8 q8 t l7 h7)) (sD Try.f25 25 4 c 7 (some 33) e7 q7 t l4 h4)) (sD Try.f25 25 4 c 4 (some 30) e4 q4 t l h))
 .ret) .skip)))))
 (.seq (.reg fun c t l h k => bO (fa Pg 26 (g3 t) 0) fun v0 => bO (ld Pg 24 v0 l h) fun v1 => bO (fa Pg 26 (g2 t) 0) fun v2 => bO (ld Pg 24 v2 l h) fun v3 => jE ((37, v3) :: (36, v2) :: (35, v1) :: (34, v0) :: []) fun e4 => jF ((ldF v2) :: ft0 :: (ldF v0) :: ft0 :: []) fun q4 => clD c 73 [v1, v3] l h (fun v4 f4 l4 h4 => bO (fa Pg 26 (g3 t) 1) fun v5 => bO (ld Pg 4 v5 l4 h4) fun v6 => jE ((40, v6) :: (39, v5) :: (38, v4) :: e4) fun e7 => jF ((ldF v5) :: ft0 :: f4 :: q4) fun q7 => clD c 65 [v4, v6] l4 h4 (fun v7 f7 l7 h7 => jE ((41, v7) :: e7) fun e8 => jF (f7 :: q7) fun q8 => gD Try.f25 25 5 8 c (p41 (p4 t (g4 t)) v7) l7 h7 (fun v8 f8 l8 h8 => finD (rgA Try.f25 5).toList [] [(4, 6)] (f8 :: q8) (k t l8 h8)) (sD Try.f25 25 5 c 8 none e8 q8 t l7 h7)) (sD Try.f25 25 5 c 7 (some 41) e7 q7 t l4 h4)) (sD Try.f25 25 5 c 4 (some 38) e4 q4 t l h))
 .ret)))
def kp27 : List Nat := [0, 1, 2, 3, 4]
def rc27 : RC := (.seq (.reg fun c t l h k => gn Try.f27 27 0 0 c (p0 t (g0 t)) t l h (fun v0 l0 h0 => gn Try.f27 27 0 1 c (p1 t (g1 t)) t l0 h0 (fun v1 l1 h1 => al Pg 26 4 l1 fun v2 l2 => k (p4 (p3 (p2 t v0) v1) v2) l2 h1)))
 (.seq (.reg fun c t l h k => bO (ld Pg 26 (g2 t) l h) fun v0 => bO (ld Pg 26 (g3 t) l h) fun v1 => jE ((6, v1) :: (5, v0) :: []) fun e2 => jF ((ldF (g3 t)) :: (ldF (g2 t)) :: []) fun q2 => clD c 31 [v1] l h (fun v2 f2 l2 h2 => jE ((7, v2) :: e2) fun e3 => jF (f2 :: q2) fun q3 => clD c 25 [v0, v2] l2 h2 (fun v3 f3 l3 h3 => jE ((8, v3) :: e3) fun e4 => jF (f3 :: q3) fun q4 => gD Try.f27 27 1 4 c (p8 (p4 t (g4 t)) v3) l3 h3 (fun v4 f4 l4 h4 => finD (rgA Try.f27 1).toList [] [(0, 2)] (f4 :: q4) (k t l4 h4)) (sD Try.f27 27 1 c 4 none e4 q4 t l3 h3)) (sD Try.f27 27 1 c 3 (some 8) e3 q3 t l2 h2)) (sD Try.f27 27 1 c 2 (some 7) e2 q2 t l h))
 .ret))
def kp29 : List Nat := [0, 1, 2, 3, 4, 5, 6, 7, 8, 9, 10, 20, 21, 22, 23, 28, 29, 30, 31]
def rc29 : RC := (.seq (.reg fun c t l h k => gn Try.f29 29 0 0 c (p0 t (g0 t)) t l h (fun v0 l0 h0 => gn Try.f29 29 0 1 c (p1 t (g1 t)) t l0 h0 (fun v1 l1 h1 => al Pg 26 4 l1 fun v2 l2 => k (p4 (p3 (p2 t v0) v1) v2) l2 h1)))
 (.seq (.reg fun c t l h k => bO (fa Pg 26 (g2 t) 0) fun v0 => bO (ld Pg 24 v0 l h) fun v1 => bO (len (Pg.underlying 24) v1) fun v2 => bO (fa Pg 26 (g3 t) 0) fun v3 => bO (ld Pg 24 v3 l h) fun v4 => bO (len (Pg.underlying 24) v4) fun v5 => bO (bin Pg .add 3 false v2 v5) fun v6 => gn Try.f29 29 1 7 c (p17 (p17 t v6) v6) t l h (fun v7 l7 h7 => k (p5 t v7) l7 h7))
 (.seq (.seq (.reg fun c t l h k => bO (fa Pg 26 (g2 t) 0) fun v0 => bO (ld Pg 24 v0 l h) fun v1 => bO (len (Pg.underlying 24) v1) fun v2 => k (p22 (p21 (p20 t v1) v2) (I 0)) l h)
 (.block 0 (.loop (.seq (.reg fun c t l h k => bO (bin Pg .lss 3 false (g22 t) (g21 t)) fun v0 => k (p23 t v0) l h)
 (.seq (.cond (.tmp 23) .skip (.exit 0))
 (.seq (.block 1 (.seq (.reg fun c t l h k => bO (ia Pg 24 (g20 t) (g22 t)) fun v0 => bO (ld Pg 86 v0 l h) fun v1 => k (p7 (p6 t (g22 t)) v1) l h)
 (.seq (.reg fun c t l h k => k (p8 t (.int .u64 (.ofNat 0))) l h)
 (.seq (.seq (.reg fun c t l h k => bO (fa Pg 26 (g3 t) 0) fun v0 => bO (ld Pg 24 v0 l h) fun v1 => bO (len (Pg.underlying 24) v1) fun v2 => k (p30 (p29 (p28 t v1) v2) (I 0)) l h)
 (.block 2 (.loop (.seq (.reg fun c t l h k => bO (bin Pg .lss 3 false (g30 t) (g29 t)) fun v0 => k (p31 t v0) l h)
 (.seq (.cond (.tmp 31) .skip (.exit 2))
 (.seq (.block 3 (.seq (.reg fun c t l h k => bO (ia Pg 24 (g28 t) (g30 t)) fun v0 => bO (ld Pg 86 v0 l h) fun v1 => k (p10 (p9 t (g30 t)) v1) l h)
 (.seq (.reg fun c t l h k => gn Try.f29 29 9 2 c (p36 t (g7 t)) t l h (fun v0 l0 h0 => gn Try.f29 29 9 4 c (p38 t (g10 t)) t l0 h0 (fun v1 l1 h1 => bO (bin Pg .mul 80 false v0 v1) fun v2 => bO (bin Pg .add 3 false (g6 t) (g9 t)) fun v3 => bO (ia Pg 24 (g5 t) v3) fun v4 => bO (ld Pg 86 v4 l1 h1) fun v5 => gn Try.f29 29 9 12 c (p46 t v5) t l1 h1 (fun v6 l6 h6 => bO (bin Pg .add 80 false v2 v6) fun v7 => bO (bin Pg .add 80 false (g8 t) v7) fun v8 => k (p8 t v8) l6 h6))))
 (.seq (.reg fun c t l h k => bO (bin Pg .add 3 false (g6 t) (g9 t)) fun v0 => gn Try.f29 29 10 5 c (p54 t (g8 t)) t l h (fun v1 l1 h1 => bO (ia Pg 24 (g5 t) v0) fun v2 => jn (fun v3 l3 h3 => k t l3 h3) fun j3 => sto 86 v2 v1 l1 h1 j3 (gn Try.f29 29 10 7 c (p55 (p56 t v2) v1) t l1 h1 j3)))
 (.reg fun c t l h k => bO (bin Pg .shr 80 true (g8 t) (.int .u64 (.ofNat 32))) fun v0 => k (p8 t v0) l h)))))
 (.reg fun c t l h k => bO (bin Pg .add 3 true (g30 t) (I 1)) fun v0 => k (p30 t v0) l h)))))))
 (.reg fun c t l h k => bO (fa Pg 26 (g3 t) 0) fun v0 => bO (ld Pg 24 v0 l h) fun v1 => bO (len (Pg.underlying 24) v1) fun v2 => bO (bin Pg .add 3 false (g6 t) v2) fun v3 => gn Try.f29 29 13 7 c (p66 t (g8 t)) t l h (fun v4 l4 h4 => bO (ia Pg 24 (g5 t) v3) fun v5 => jn (fun v6 l6 h6 => k t l6 h6) fun j6 => sto 86 v5 v4 l4 h4 j6 (gn Try.f29 29 13 9 c (p67 (p68 t v5) v4) t l4 h4 j6)))))))
 (.reg fun c t l h k => bO (bin Pg .add 3 true (g22 t) (I 1)) fun v0 => k (p22 t v0) l h)))))))
 (.seq (.reg fun c t l h k => bO (fa Pg 26 (g2 t) 1) fun v0 => bO (ld Pg 4 v0 l h) fun v1 => bO (fa Pg 26 (g3 t) 1) fun v2 => bO (ld Pg 4 v2 l h) fun v3 => bO (bin Pg .neq 4 false v1 v3) fun v4 => cl c 65 [(g5 t), v4] t l h fun v5 l5 h5 => jn (fun v6 l6 h6 => k t l6 h6) fun j6 => sto 26 (g4 t) v5 l5 h5 j6 (gn Try.f29 29 15 7 c (p76 (p4 t (g4 t)) v5) t l5 h5 j6))
 .ret))))
def kp31 : List Nat := [0, 1, 2]
def rc31 : RC := (.seq (.reg fun c t l h k => gn Try.f31 31 0 0 c (p0 t (g0 t)) t l h (fun v0 l0 h0 => al Pg 26 2 l0 fun v1 l1 => k (p2 (p1 t v0) v1) l1 h0))
 (.seq (.reg fun c t l h k => bO (fa Pg 26 (g1 t) 0) fun v0 => bO (ld Pg 24 v0 l h) fun v1 => bO (fa Pg 26 (g1 t) 1) fun v2 => bO (ld Pg 4 v2 l h) fun v3 => bO (G.un .not v3) fun v4 => cl c 65 [v1, v4] t l h fun v5 l5 h5 => jn (fun v6 l6 h6 => k t l6 h6) fun j6 => sto 26 (g2 t) v5 l5 h5 j6 (gn Try.f31 31 1 6 c (p8 (p2 t (g2 t)) v5) t l5 h5 j6))
 .ret))
def kp33 : List Nat := [0, 1, 2, 3, 4, 5, 16]
def rc33 : RC := (.seq (.reg fun c t l h k => gn Try.f33 33 0 0 c (p0 t (g0 t)) t l h (fun v0 l0 h0 => gn Try.f33 33 0 1 c (p1 t (g1 t)) t l0 h0 (fun v1 l1 h1 => k (p4 (p3 (p2 t v0) v1) (I 0)) l1 h1)))
 (.seq (.block 0 (.seq (.reg fun c t l h k => bO (fa Pg 26 (g2 t) 1) fun v0 => bO (ld Pg 4 v0 l h) fun v1 => bO (fa Pg 26 (g3 t) 1) fun v2 => bO (ld Pg 4 v2 l h) fun v3 => bO (bin Pg .neq 4 false v1 v3) fun v4 => k (p5 t v4) l h)
 (.cond (.tmp 5) (.seq (.reg fun c t l h k => bO (fa Pg 26 (g2 t) 1) fun v0 => bO (ld Pg 4 v0 l h) fun v1 => cl c 77 [v1] t l h fun v2 l2 h2 => bO (bin Pg .mul 3 true (I 2) v2) fun v3 => bO (bin Pg .sub 3 true (I 1) v3) fun v4 => k (p4 t v4) l2 h2)
 .ret) (.seq (.reg fun c t l h k => bO (fa Pg 26 (g2 t) 1) fun v0 => bO (ld Pg 4 v0 l h) fun v1 => k (p16 t v1) l h)
 (.cond (.tmp 16) (.seq (.reg fun c t l h k => bO (fa Pg 26 (g3 t) 0) fun v0 => bO (ld Pg 24 v0 l h) fun v1 => bO (fa Pg 26 (g2 t) 0) fun v2 => bO (ld Pg 24 v2 l h) fun v3 => cl c 72 [v1, v3] t l h fun v4 l4 h4 => k (p4 t v4) l4 h4)
 .ret) .skip)))))
 (.seq (.reg fun c t l h k => bO (fa Pg 26 (g2 t) 0) fun v0 => bO (ld Pg 24 v0 l h) fun v1 => bO (fa Pg 26 (g3 t) 0) fun v2 => bO (ld Pg 24 v2 l h) fun v3 => cl c 72 [v1, v3] t l h fun v4 l4 h4 => k (p4 t v4) l4 h4)
 .ret)))
def kp35 : List Nat := [0, 1, 2]
def rc35 : RC := (.seq (.reg fun c t l h k => gn Try.f35 35 0 0 c (p0 t (g0 t)) t l h (fun v0 l0 h0 => k (p2 (p1 t v0) (I 0)) l0 h0))
 (.seq (.reg fun c t l h k => bO (ld Pg 26 (g1 t) l h) fun v0 => gn Try.f35 35 1 1 c t t l h (fun v1 l1 h1 => cl c 33 [v0, v1] t l1 h1 fun v2 l2 h2 => k (p2 t v2) l2 h2))
 .ret))
def kp37 : List Nat := [0, 1, 2, 3, 4, 5, 6, 7, 8, 9, 10, 14, 26, 51, 59]
def rc37 : RC := (.seq (.reg fun c t l h k => gn Try.f37 37 0 0 c (p0 t (g0 t)) t l h (fun v0 l0 h0 => gn Try.f37 37 0 1 c (p1 t (g1 t)) t l0 h0 (fun v1 l1 h1 => al Pg 26 4 l1 fun v2 l2 => al Pg 26 5 l2 fun v3 l3 => k (p5 (p4 (p3 (p2 t v0) v1) v2) v3) l3 h1)))
 (.seq (.seq (.reg fun c t l h k => bO (fa Pg 26 (g3 t) 0) fun v0 => bO (ld Pg 24 v0 l h) fun v1 => bO (len (Pg.underlying 24) v1) fun v2 => bO (bin Pg .eql 3 true v2 (I 0)) fun v3 => k (p14 t v3) l h)
 (.cond (.tmp 14) (.seq (.reg fun c t l h k => gD Try.f37 37 2 0 c t l h (fun v0 f0 l0 h0 => bO (ld Pg 26 (g2 t) l0 h0) fun v1 => jE ((16, v1) :: (15, v0) :: []) fun e2 => jF ((ldF (g2 t)) :: f0 :: []) fun q2 => gD Try.f37 37 2 2 c (p15 (p4 t (g4 t)) v0) l0 h0 (fun v2 f2 l2 h2 => jF (f2 :: q2) fun q3 => gD Try.f37 37 2 3 c (p16 (p5 t (g5 t)) v1) l2 h2 (fun v3 f3 l3 h3 => finD (rgA Try.f37 2).toList [(1, 2)] [(1, 2)] (f3 :: q3) (k t l3 h3)) (sD Try.f37 37 2 c 3 none e2 q3 t l2 h2)) (sD Try.f37 37 2 c 2 none e2 q2 t l0 h0)) (sD Try.f37 37 2 c 0 (some 15) [] [] t l h))
 .ret) .skip))
 (.seq (.reg fun c t l h k => gn Try.f37 37 3 0 c t t l h (fun v0 l0 h0 => bO (fa Pg 26 (g2 t) 0) fun v1 => bO (ld Pg 24 v1 l0 h0) fun v2 => cl c 65 [v2, (.bool false)] t l0 h0 fun v3 l3 h3 => al Pg 26 6 l3 fun v4 l4 => al Pg 26 7 l4 fun v5 l5 => jn (fun v6 l6 h6 => jn (fun v7 l7 h7 => k (p7 (p6 t v4) v5) l7 h7) fun j7 => sto 26 v5 v3 l6 h6 j7 (gn Try.f37 37 3 7 c (p20 (p7 t v5) v3) t l6 h6 j7)) fun j6 => sto 26 v4 v0 l5 h3 j6 (gn Try.f37 37 3 6 c (p17 (p6 t v4) v0) t l5 h3 j6)))
 (.seq (.seq (.reg fun c t l h k => bO (fa Pg 26 (g2 t) 0) fun v0 => bO (ld Pg 24 v0 l h) fun v1 => bO (fa Pg 26 (g3 t) 0) fun v2 => bO (ld Pg 24 v2 l h) fun v3 => cl c 72 [v1, v3] t l h fun v4 l4 h4 => bO (bin Pg .geq 3 true v4 (I 0)) fun v5 => k (p26 t v5) l4 h4)
 (.cond (.tmp 26) (.seq (.reg fun c t l h k => bO (fa Pg 26 (g2 t) 0) fun v0 => bO (ld Pg 24 v0 l h) fun v1 => bO (fa Pg 26 (g3 t) 0) fun v2 => bO (ld Pg 24 v2 l h) fun v3 => cl c 78 [v1, v3] t l h fun v4 l4 h4 => bO (ext v4 0) fun v5 => bO (ext v4 1) fun v6 => k (p9 (p8 t v5) v6) l4 h4)
 (.reg fun c t l h k => bO (fa Pg 26 (g2 t) 1) fun v0 => bO (ld Pg 4 v0 l h) fun v1 => bO (fa Pg 26 (g3 t) 1) fun v2 => bO (ld Pg 4 v2 l h) fun v3 => bO (bin Pg .neq 4 false v1 v3) fun v4 => cl c 65 [(g8 t), v4] t l h fun v5 l5 h5 => cl c 65 [(g9 t), (.bool false)] t l5 h5 fun v6 l6 h6 => jn (fun v7 l7 h7 => jn (fun v8 l8 h8 => k t l8 h8) fun j8 => sto 26 (g7 t) v6 l7 h7 j8 (gn Try.f37 37 6 10 c (p43 (p7 t (g7 t)) v6) t l7 h7 j8)) fun j7 => sto 26 (g6 t) v5 l6 h6 j7 (gn Try.f37 37 6 9 c (p41 (p6 t (g6 t)) v5) t l6 h6 j7))) .skip))
 (.seq (.seq (.reg fun c t l h k => bO (fa Pg 26 (g2 t) 1) fun v0 => bO (ld Pg 4 v0 l h) fun v1 => jn (fun v2 l2 h2 => jn (fun v3 l3 h3 => jn (fun v4 l4 h4 => jn (fun v5 l5 h5 => bO (pick v1 v5 (.bool false)) fun v6 => k (p51 t v6) l5 h5) fun j5 => brB (wv v1 true) (j5 (.tuple []) l4 h4) (bO (bin Pg .gtr 3 true v4 (I 0)) fun v6 => j5 v6 l4 h4)) fun j4 => brB (wv v1 true) (j4 (.tuple []) l3 h3) (bO (len (Pg.underlying 24) v3) fun v5 => j4 v5 l3 h3)) fun j3 => brB (wv v1 true) (j3 (.tuple []) l2 h2) (bO (ld Pg 24 v2 l2 h2) fun v4 => j3 v4 l2 h2)) fun j2 => brB (wv v1 true) (j2 (.tuple []) l h) (bO (fa Pg 26 (g7 t) 0) fun v3 => j2 v3 l h))
 (.cond (.tmp 51) (.seq (.reg fun c t l h k => bO (fa Pg 26 (g3 t) 0) fun v0 => bO (ld Pg 24 v0 l h) fun v1 => jE ((53, v1) :: (52, v0) :: []) fun e2 => jF ((ldF v0) :: ft0 :: []) fun q2 => clD c 65 [v1, (.bool false)] l h (fun v2 f2 l2 h2 => bO (ld Pg 26 (g7 t) l2 h2) fun v3 => jE ((55, v3) :: (54, v2) :: e2) fun e4 => jF ((ldF (g7 t)) :: f2 :: q2) fun q4 => clD c 27 [v2, v3] l2 h2 (fun v4 f4 l4 h4 => jE ((56, v4) :: e4) fun e5 => jF (f4 :: q4) fun q5 => gD Try.f37 37 8 5 c (p56 (p7 t (g7 t)) v4) l4 h4 (fun v5 f5 l5 h5 => finD (rgA Try.f37 8).toList [] [(2, 3)] (f5 :: q5) (k t l5 h5)) (sD Try.f37 37 8 c 5 none e5 q5 t l4 h4)) (sD Try.f37 37 8 c 4 (some 56) e4 q4 t l2 h2)) (sD Try.f37 37 8 c 2 (some 54) e2 q2 t l h))
 (.seq (.reg fun c t l h k => cl c 21 [(I 1)] t l h fun v0 l0 h0 => al Pg 26 10 l0 fun v1 l1 => jn (fun v2 l2 h2 => k (p10 t v1) l2 h2) fun j2 => sto 26 v1 v0 l1 h0 j2 (gn Try.f37 37 9 2 c (p57 (p10 t v1) v0) t l1 h0 j2))
 (.seq (.seq (.reg fun c t l h k => bO (fa Pg 26 (g3 t) 1) fun v0 => bO (ld Pg 4 v0 l h) fun v1 => k (p59 t v1) l h)
 (.cond (.tmp 59) (.reg fun c t l h k => cl c 21 [(.int .i64 (.negSucc 0))] t l h fun v0 l0 h0 => jn (fun v1 l1 h1 => k t l1 h1) fun j1 => sto 26 (g10 t) v0 l0 h0 j1 (gn Try.f37 37 11 1 c (p60 (p10 t (g10 t)) v0) t l0 h0 j1)) .skip))
 (.reg fun c t l h k => bO (ld Pg 26 (g6 t) l h) fun v0 => bO (ld Pg 26 (g10 t) l h) fun v1 => cl c 27 [v0, v1] t l h fun v2 l2 h2 => jn (fun v3 l3 h3 => k t l3 h3) fun j3 => sto 26 (g6 t) v2 l2 h2 j3 (gn Try.f37 37 12 3 c (p63 (p6 t (g6 t)) v2) t l2 h2 j3))))) .skip))
 (.seq (.reg fun c t l h k => bO (ld Pg 26 (g6 t) l h) fun v0 => bO (ld Pg 26 (g7 t) l h) fun v1 => jE ((65, v1) :: (64, v0) :: []) fun e2 => jF ((ldF (g7 t)) :: (ldF (g6 t)) :: []) fun q2 => gD Try.f37 37 13 2 c (p64 (p4 t (g4 t)) v0) l h (fun v2 f2 l2 h2 => jF (f2 :: q2) fun q3 => gD Try.f37 37 13 3 c (p65 (p5 t (g5 t)) v1) l2 h2 (fun v3 f3 l3 h3 => finD (rgA Try.f37 13).toList [(1, 2)] [(1, 2)] (f3 :: q3) (k t l3 h3)) (sD Try.f37 37 13 c 3 none e2 q3 t l2 h2)) (sD Try.f37 37 13 c 2 none e2 q2 t l h))
 .ret))))))
def kp64 : List Nat := [0, 1, 2, 6, 7, 8, 9, 10, 11, 12, 31]
def rc64 : RC := (.seq (.reg fun c t l h k => k (p6 t .nils) l h)
 (.seq (.seq (.reg fun c t l h k => bO (len (Pg.underlying 24) (g0 t)) fun v0 => k (p11 (p10 (p9 t (g0 t)) v0) (I 0)) l h)
 (.block 0 (.loop (.seq (.reg fun c t l h k => bO (bin Pg .lss 3 false (g11 t) (g10 t)) fun v0 => k (p12 t v0) l h)
 (.seq (.cond (.tmp 12) .skip (.exit 0))
 (.seq (.block 1 (.seq (.reg fun c t l h k => bO (ia Pg 24 (g9 t) (g11 t)) fun v0 => bO (ld Pg 86 v0 l h) fun v1 => k (p8 (p7 t (g11 t)) v1) l h)
 (.seq (.reg fun c t l h k => gn Try.f64 64 4 2 c (p17 t (g8 t)) t l h (fun v0 l0 h0 => bO (bin Pg .mul 80 false v0 (g1 t)) fun v1 => bO (bin Pg .add 80 false (g2 t) v1) fun v2 => k (p2 t v2) l0 h0))
 (.seq (.reg fun c t l h k => gn Try.f64 64 5 3 c (p24 t (g2 t)) t l h (fun v0 l0 h0 => bO (ia Pg 24 (g0 t) (g7 t)) fun v1 => jn (fun v2 l2 h2 => k t l2 h2) fun j2 => sto 86 v1 v0 l0 h0 j2 (gn Try.f64 64 5 5 c (p25 (p26 t v1) v0) t l0 h0 j2)))
 (.reg fun c t l h k => bO (bin Pg .shr 80 true (g2 t) (.int .u64 (.ofNat 32))) fun v0 => k (p2 t v0) l h)))))
 (.reg fun c t l h k => bO (bin Pg .add 3 true (g11 t) (I 1)) fun v0 => k (p11 t v0) l h)))))))
 (.seq (.seq (.reg fun c t l h k => bO (bin Pg .gtr 80 true (g2 t) (.int .u64 (.ofNat 0))) fun v0 => k (p31 t v0) l h)
 (.cond (.tmp 31) (.reg fun c t l h k => gn Try.f64 64 9 2 c (p33 t (g2 t)) t l h (fun v0 l0 h0 => gn Try.f64 64 9 3 c (p34 t v0) t l0 h0 (fun v1 l1 h1 => gn Try.f64 64 9 4 c (p35 (p32 t (g0 t)) v1) t l1 h1 (fun v2 l2 h2 => k (p0 t v2) l2 h2)))) .skip))
 (.seq (.reg fun c t l h k => k (p6 t (g0 t)) l h)
 .ret))))
def kp65 : List Nat := [0, 1, 4, 16]
def rc65 : RC := (.seq (.reg fun c t l h k => al Pg 26 4 l fun v0 l0 => k (p4 t v0) l0 h)
 (.seq (.block 0 (.loop (.seq (.seq (.reg fun c t l h k => bO (len (Pg.underlying 24) (g0 t)) fun v0 => bO (bin Pg .gtr 3 true v0 (I 0)) fun v1 => jn (fun v2 l2 h2 => jn (fun v3 l3 h3 => jn (fun v4 l4 h4 => jn (fun v5 l5 h5 => jn (fun v6 l6 h6 => jn (fun v7 l7 h7 => jn (fun v8 l8 h8 => bO (pick v1 v8 (.bool false)) fun v9 => k (p16 t v9) l8 h8) fun j8 => brB (wv v1 true) (j8 (.tuple []) l7 h7) (bO (bin Pg .eql 86 true v7 (.int .u32 (.ofNat 0))) fun v9 => j8 v9 l7 h7)) fun j7 => brB (wv v1 true) (j7 (.tuple []) l6 h6) (bO (ld Pg 86 v6 l6 h6) fun v8 => j7 v8 l6 h6)) fun j6 => brB (wv v1 true) (j6 (.tuple []) l5 h5) (bO (ia Pg 24 v2 v5) fun v7 => j6 v7 l5 h5)) fun j5 => brB (wv v1 true) (j5 (.tuple []) l4 h4) (bO (bin Pg .sub 3 true v4 (I 1)) fun v6 => j5 v6 l4 h4)) fun j4 => brB (wv v1 true) (j4 (.tuple []) l3 h3) (bO (len (Pg.underlying 24) v3) fun v5 => j4 v5 l3 h3)) fun j3 => brB (wv v1 true) (j3 (.tuple []) l2 h2) (j3 (g0 t) l2 h2)) fun j2 => brB (wv v1 true) (j2 (.tuple []) l h) (j2 (g0 t) l h))
 (.cond (.tmp 16) .skip (.exit 0)))
 (.block 1 (.reg fun c t l h k => bO (len (Pg.underlying 24) (g0 t)) fun v0 => bO (bin Pg .sub 3 true v0 (I 1)) fun v1 => bO (slc Pg 24 (g0 t) none (some v1) none) fun v2 => k (p0 t v2) l h)))))
 (.seq (.reg fun c t l h k => jn (fun v0 l0 h0 => jn (fun v1 l1 h1 => jn (fun v2 l2 h2 => bO (pick (g1 t) v2 (.bool false)) fun v3 => gn Try.f65 65 3 7 c (p28 (p22 t (g0 t)) v3) t l2 h2 (fun v4 l4 h4 => jn (fun v5 l5 h5 => k t l5 h5) fun j5 => sto 26 (g4 t) v4 l4 h4 j5 (gn Try.f65 65 3 8 c (p29 (p4 t (g4 t)) v4) t l4 h4 j5))) fun j2 => brB (wv (g1 t) true) (j2 (.tuple []) l1 h1) (bO (bin Pg .gtr 3 true v1 (I 0)) fun v3 => j2 v3 l1 h1)) fun j1 => brB (wv (g1 t) true) (j1 (.tuple []) l0 h0) (bO (len (Pg.underlying 24) v0) fun v2 => j1 v2 l0 h0)) fun j0 => brB (wv (g1 t) true) (j0 (.tuple []) l h) (j0 (g0 t) l h))
 .ret)))
def kp68 : List Nat := [0, 2, 4]
def rc68 : RC := (.seq (.reg fun c t l h k => k (p2 t .nils) l h)
 (.seq (.seq (.reg fun c t l h k => bO (bin Pg .eql 24 true (g0 t) .nils) fun v0 => k (p4 t v0) l h)
 (.cond (.tmp 4) (.seq (.reg fun c t l h k => k (p2 t .nils) l h)
 .ret) .skip))
 (.seq (.reg fun c t l h k => gn Try.f68 68 3 0 c t t l h (fun v0 l0 h0 => gn Try.f68 68 3 2 c (p6 (p5 t v0) (g0 t)) t l0 h0 (fun v1 l1 h1 => k (p2 t v1) l1 h1)))
 .ret)))
def kp69 : List Nat := [0, 2, 3, 9]
def rc69 : RC := (.seq (.reg fun c t l h k => bO (len (Pg.underlying 51) (g0 t)) fun v0 => bO (bin Pg .sub 3 true v0 (I 1)) fun v1 => k (p3 (p2 t (I 0)) v1) l h)
 (.block 0 (.loop (.seq (.seq (.reg fun c t l h k => bO (bin Pg .lss 3 false (g2 t) (g3 t)) fun v0 => k (p9 t v0) l h)
 (.cond (.tmp 9) .skip (.exit 0)))
 (.seq (.block 1 (.reg fun c t l h k => bO (ia Pg 51 (g0 t) (g3 t)) fun v0 => bO (ld Pg 5 v0 l h) fun v1 => bO (ia Pg 51 (g0 t) (g2 t)) fun v2 => bO (ld Pg 5 v2 l h) fun v3 => bO (ia Pg 51 (g0 t) (g2 t)) fun v4 => jE ((26, v4) :: (25, v3) :: (24, v2) :: (23, (g2 t)) :: (22, (g0 t)) :: (21, v1) :: (20, v0) :: (19, (g3 t)) :: (18, (g0 t)) :: (17, (g3 t)) :: (16, (g0 t)) :: (15, (g2 t)) :: (14, (g0 t)) :: []) fun e5 => jF (ft0 :: (ldF v2) :: ft0 :: ft0 :: ft0 :: (ldF v0) :: ft0 :: ft0 :: ft0 :: ft0 :: ft0 :: ft0 :: ft0 :: []) fun q5 => gD Try.f69 69 3 13 c (p21 (p26 t v4) v1) l h (fun v5 f5 l5 h5 => bO (ia Pg 51 (g0 t) (g3 t)) fun v6 => jE ((27, v6) :: e5) fun e7 => jF (ft0 :: f5 :: q5) fun q7 => gD Try.f69 69 3 15 c (p25 (p27 t v6) v3) l5 h5 (fun v7 f7 l7 h7 => finD (rgA Try.f69 3).toList [] [] (f7 :: q7) (k t l7 h7)) (sD Try.f69 69 3 c 15 none e7 q7 t l5 h5)) (sD Try.f69 69 3 c 13 none e5 q5 t l h)))
 (.reg fun c t l h k => bO (bin Pg .add 3 true (g2 t) (I 1)) fun v0 => bO (bin Pg .sub 3 true (g3 t) (I 1)) fun v1 => k (p3 (p2 t v0) v1) l h))))))
def kp71 : List Nat := [0, 1, 4, 5, 6, 7, 13, 14, 15, 20, 31]
def rc71 : RC := (.seq (.reg fun c t l h k => k (p4 t .nils) l h)
 (.seq (.reg fun c t l h k => k (p5 t .nils) l h)
 (.seq (.reg fun c t l h k => k (p6 t (.int .u64 (.ofNat 0))) l h)
 (.seq (.seq (.reg fun c t l h k => bO (len (Pg.underlying 24) (g0 t)) fun v0 => bO (len (Pg.underlying 24) (g1 t)) fun v1 => bO (mxV v0 v1) fun v2 => bO (bin Pg .add 3 true v2 (I 1)) fun v3 => k (p14 (p13 t v3) (I 0)) l h)
 (.block 0 (.loop (.seq (.reg fun c t l h k => bO (bin Pg .lss 3 false (g14 t) (g13 t)) fun v0 => k (p15 t v0) l h)
 (.seq (.cond (.tmp 15) .skip (.exit 0))
 (.seq (.block 1 (.seq (.reg fun c t l h k => k (p7 t (g14 t)) l h)
 (.seq (.seq (.reg fun c t l h k => bO (len (Pg.underlying 24) (g0 t)) fun v0 => bO (bin Pg .lss 3 false (g7 t) v0) fun v1 => k (p20 t v1) l h)
 (.cond (.tmp 20) (.reg fun c t l h k => bO (ia Pg 24 (g0 t) (g7 t)) fun v0 => bO (ld Pg 86 v0 l h) fun v1 => gn Try.f71 71 7 5 c (p25 t v1) t l h (fun v2 l2 h2 => bO (bin Pg .add 80 false (g6 t) v2) fun v3 => k (p6 t v3) l2 h2)) .skip))
 (.seq (.seq (.reg fun c t l h k => bO (len (Pg.underlying 24) (g1 t)) fun v0 => bO (bin Pg .lss 3 false (g7 t) v0) fun v1 => k (p31 t v1) l h)
 (.cond (.tmp 31) (.reg fun c t l h k => bO (ia Pg 24 (g1 t) (g7 t)) fun v0 => bO (ld Pg 86 v0 l h) fun v1 => gn Try.f71 71 9 5 c (p36 t v1) t l h (fun v2 l2 h2 => bO (bin Pg .add 80 false (g6 t) v2) fun v3 => k (p6 t v3) l2 h2)) .skip))
 (.seq (.reg fun c t l h k => gn Try.f71 71 10 2 c (p40 t (g6 t)) t l h (fun v0 l0 h0 => gn Try.f71 71 10 3 c (p41 t v0) t l0 h0 (fun v1 l1 h1 => gn Try.f71 71 10 4 c (p42 (p39 t (g5 t)) v1) t l1 h1 (fun v2 l2 h2 => k (p5 t v2) l2 h2))))
 (.reg fun c t l h k => bO (bin Pg .shr 80 true (g6 t) (.int .u64 (.ofNat 32))) fun v0 => k (p6 t v0) l h))))))
 (.reg fun c t l h k => bO (bin Pg .add 3 true (g14 t) (I 1)) fun v0 => k (p14 t v0) l h)))))))
 (.seq (.reg fun c t l h k => k (p4 t (g5 t)) l h)
 .ret)))))
def kp72 : List Nat := [0, 1, 4, 5, 10, 22, 25, 35]
def rc72 : RC := (.seq (.reg fun c t l h k => k (p4 t (I 0)) l h)
 (.seq (.seq (.reg fun c t l h k => bO (len (Pg.underlying 24) (g0 t)) fun v0 => bO (len (Pg.underlying 24) (g1 t)) fun v1 => bO (bin Pg .neq 3 false v0 v1) fun v2 => k (p10 t v2) l h)
 (.cond (.tmp 10) (.seq (.reg fun c t l h k => bO (len (Pg.underlying 24) (g0 t)) fun v0 => bO (len (Pg.underlying 24) (g1 t)) fun v1 => bO (bin Pg .sub 3 false v0 v1) fun v2 => bO (mxV v2 (.int .i64 (.negSucc 0))) fun v3 => bO (mnV v3 (I 1)) fun v4 => k (p4 t v4) l h)
 .ret) .skip))
 (.seq (.seq (.reg fun c t l h k => bO (len (Pg.underlying 24) (g0 t)) fun v0 => bO (bin Pg .sub 3 true v0 (I 1)) fun v1 => k (p5 t v1) l h)
 (.block 0 (.loop (.seq (.seq (.reg fun c t l h k => bO (bin Pg .geq 3 true (g5 t) (I 0)) fun v0 => k (p22 t v0) l h)
 (.cond (.tmp 22) .skip (.exit 0)))
 (.seq (.block 1 (.block 2 (.seq (.reg fun c t l h k => bO (ia Pg 24 (g0 t) (g5 t)) fun v0 => bO (ld Pg 86 v0 l h) fun v1 => bO (ia Pg 24 (g1 t) (g5 t)) fun v2 => bO (ld Pg 86 v2 l h) fun v3 => bO (bin Pg .lss 86 false v1 v3) fun v4 => k (p25 t v4) l h)
 (.cond (.tmp 25) (.seq (.reg fun c t l h k => k (p4 t (.int .i64 (.negSucc 0))) l h)
 .ret) (.seq (.reg fun c t l h k => bO (ia Pg 24 (g0 t) (g5 t)) fun v0 => bO (ld Pg 86 v0 l h) fun v1 => bO (ia Pg 24 (g1 t) (g5 t)) fun v2 => bO (ld Pg 86 v2 l h) fun v3 => bO (bin Pg .gtr 86 false v1 v3) fun v4 => k (p35 t v4) l h)
 (.cond (.tmp 35) (.seq (.reg fun c t l h k => k (p4 t (I 1)) l h)
 .ret) .skip))))))
 (.reg fun c t l h k => bO (bin Pg .sub 3 true (g5 t) (I 1)) fun v0 => k (p5 t v0) l h))))))
 (.seq (.reg fun c t l h k => k (p4 t (I 0)) l h)
 .ret))))
def kp73 : List Nat := [0, 1, 4, 5, 6, 7, 8, 9, 10, 11, 12, 13, 20]
def rc73 : RC := (.seq (.reg fun c t l h k => k (p4 t .nils) l h)
 (.seq (.reg fun c t l h k => k (p5 t .nils) l h)
 (.seq (.reg fun c t l h k => k (p6 t (.int .u32 (.ofNat 0))) l h)
 (.seq (.seq (.reg fun c t l h k => bO (len (Pg.underlying 24) (g0 t)) fun v0 => k (p12 (p11 (p10 t (g0 t)) v0) (I 0)) l h)
 (.block 0 (.loop (.seq (.reg fun c t l h k => bO (bin Pg .lss 3 false (g12 t) (g11 t)) fun v0 => k (p13 t v0) l h)
 (.seq (.cond (.tmp 13) .skip (.exit 0))
 (.seq (.block 1 (.seq (.reg fun c t l h k => bO (ia Pg 24 (g10 t) (g12 t)) fun v0 => bO (ld Pg 86 v0 l h) fun v1 => k (p8 (p7 t (g12 t)) v1) l h)
 (.seq (.reg fun c t l h k => k (p9 t (.int .u32 (.ofNat 0))) l h)
 (.seq (.seq (.reg fun c t l h k => bO (len (Pg.underlying 24) (g1 t)) fun v0 => bO (bin Pg .lss 3 false (g7 t) v0) fun v1 => k (p20 t v1) l h)
 (.cond (.tmp 20) (.reg fun c t l h k => bO (ia Pg 24 (g1 t) (g7 t)) fun v0 => bO (ld Pg 86 v0 l h) fun v1 => k (p9 t v1) l h) .skip))
 (.seq (.reg fun c t l h k => cl c 83 [(g8 t), (g9 t), (g6 t)] t l h fun v0 l0 h0 => bO (ext v0 0) fun v1 => bO (ext v0 1) fun v2 => k (p6 (p8 t v1) v2) l0 h0)
 (.reg fun c t l h k => gn Try.f73 73 10 2 c (p33 t (g8 t)) t l h (fun v0 l0 h0 => gn Try.f73 73 10 3 c (p34 (p32 t (g5 t)) v0) t l0 h0 (fun v1 l1 h1 => k (p5 t v1) l1 h1))))))))
 (.reg fun c t l h k => bO (bin Pg .add 3 true (g12 t) (I 1)) fun v0 => k (p12 t v0) l h)))))))
 (.seq (.reg fun c t l h k => k (p4 t (g5 t)) l h)
 .ret)))))
def kp77 : List Nat := [0, 2, 3]
def rc77 : RC := (.seq (.reg fun c t l h k => k (p2 t (I 0)) l h)
 (.seq (.seq (.reg fun c t l h k => k (p3 t (g0 t)) l h)
 (.cond (.tmp 3) (.seq (.reg fun c t l h k => k (p2 t (I 1)) l h)
 .ret) .skip))
 (.seq (.reg fun c t l h k => k (p2 t (I 0)) l h)
 .ret)))
def kp78 : List Nat := [0, 1, 4, 5, 6, 7, 8, 9, 10, 11, 12, 13, 14, 15, 18, 26, 88, 126]
def rc78 : RC := (.seq (.reg fun c t l h k => k (p5 (p4 t .nils) .nils) l h)
 (.seq (.seq (.reg fun c t l h k => bO (len (Pg.underlying 24) (g1 t)) fun v0 => bO (bin Pg .eql 3 true v0 (I 1)) fun v1 => k (p18 t v1) l h)
 (.cond (.tmp 18) (.seq (.reg fun c t l h k => bO (len (Pg.underlying 24) (g0 t)) fun v0 => gn Try.f78 78 2 2 c (p20 (p20 t v0) v0) t l h (fun v1 l1 h1 => k (p7 (p6 t v1) (.int .u64 (.ofNat 0))) l1 h1))
 (.seq (.seq (.reg fun c t l h k => bO (len (Pg.underlying 24) (g0 t)) fun v0 => bO (bin Pg .sub 3 true v0 (I 1)) fun v1 => k (p8 t v1) l h)
 (.block 0 (.loop (.seq (.seq (.reg fun c t l h k => bO (bin Pg .geq 3 true (g8 t) (I 0)) fun v0 => k (p26 t v0) l h)
 (.cond (.tmp 26) .skip (.exit 0)))
 (.seq (.block 1 (.seq (.reg fun c t l h k => bO (bin Pg .shl 80 true (g7 t) (.int .u64 (.ofNat 32))) fun v0 => bO (ia Pg 24 (g0 t) (g8 t)) fun v1 => bO (ld Pg 86 v1 l h) fun v2 => gn Try.f78 78 6 6 c (p34 t v2) t l h (fun v3 l3 h3 => bO (bin Pg .or 80 false v0 v3) fun v4 => k (p7 t v4) l3 h3))
 (.seq (.reg fun c t l h k => bO (ia Pg 24 (g1 t) (I 0)) fun v0 => bO (ld Pg 86 v0 l h) fun v1 => gn Try.f78 78 7 6 c (p42 t v1) t l h (fun v2 l2 h2 => bO (bin Pg .quo 80 false (g7 t) v2) fun v3 => gn Try.f78 78 7 8 c (p44 t v3) t l2 h2 (fun v4 l4 h4 => bO (ia Pg 24 (g6 t) (g8 t)) fun v5 => jn (fun v6 l6 h6 => k t l6 h6) fun j6 => sto 86 v5 v4 l4 h4 j6 (gn Try.f78 78 7 10 c (p45 (p46 t v5) v4) t l4 h4 j6))))
 (.reg fun c t l h k => bO (ia Pg 24 (g1 t) (I 0)) fun v0 => bO (ld Pg 86 v0 l h) fun v1 => gn Try.f78 78 8 4 c (p50 t v1) t l h (fun v2 l2 h2 => bO (bin Pg .rem 80 false (g7 t) v2) fun v3 => k (p7 t v3) l2 h2)))))
 (.reg fun c t l h k => bO (bin Pg .sub 3 true (g8 t) (I 1)) fun v0 => k (p8 t v0) l h))))))
 (.seq (.reg fun c t l h k => gn Try.f78 78 9 2 c (p54 t (g7 t)) t l h (fun v0 l0 h0 => gn Try.f78 78 9 3 c (p55 t v0) t l0 h0 (fun v1 l1 h1 => cl c 65 [v1, (.bool false)] t l1 h1 fun v2 l2 h2 => bO (fld Pg 26 v2 0) fun v3 => k (p5 (p4 t (g6 t)) v3) l2 h2)))
 .ret))) .skip))
 (.seq (.reg fun c t l h k => bO (len (Pg.underlying 24) (g1 t)) fun v0 => bO (bin Pg .sub 3 true v0 (I 1)) fun v1 => bO (ia Pg 24 (g1 t) v1) fun v2 => bO (ld Pg 86 v2 l h) fun v3 => cl c 84 [v3] t l h fun v4 l4 h4 => gn Try.f78 78 10 7 c (p65 t v4) t l4 h4 (fun v5 l5 h5 => k (p9 t v5) l5 h5))
 (.seq (.reg fun c t l h k => cl c 85 [(g1 t), (g9 t)] t l h fun v0 l0 h0 => bO (len (Pg.underlying 24) (g1 t)) fun v1 => bO (slc Pg 24 v0 none (some v1) none) fun v2 => k (p1 t v2) l0 h0)
 (.seq (.reg fun c t l h k => cl c 85 [(g0 t), (g9 t)] t l h fun v0 l0 h0 => k (p10 t v0) l0 h0)
 (.seq (.reg fun c t l h k => bO (len (Pg.underlying 24) (g0 t)) fun v0 => gn Try.f78 78 13 2 c (p77 (p77 t v0) v0) t l h (fun v1 l1 h1 => k (p11 t v1) l1 h1))
 (.seq (.reg fun c t l h k => bO (len (Pg.underlying 24) (g1 t)) fun v0 => bO (bin Pg .sub 3 true v0 (I 1)) fun v1 => k (p12 t v1) l h)
 (.seq (.seq (.reg fun c t l h k => bO (len (Pg.underlying 24) (g0 t)) fun v0 => bO (len (Pg.underlying 24) (g1 t)) fun v1 => bO (bin Pg .sub 3 false v0 v1) fun v2 => k (p13 t v2) l h)
 (.block 2 (.loop (.seq (.seq (.reg fun c t l h k => bO (bin Pg .geq 3 true (g13 t) (I 0)) fun v0 => k (p88 t v0) l h)
 (.cond (.tmp 88) .skip (.exit 2)))
 (.seq (.block 3 (.seq (.reg fun c t l h k => bO (bin Pg .add 3 false (g13 t) (g12 t)) fun v0 => bO (bin Pg .add 3 true v0 (I 1)) fun v1 => bO (ia Pg 24 (g10 t) v1) fun v2 => bO (ld Pg 86 v2 l h) fun v3 => jE ((97, v3) :: (96, v2) :: (95, v1) :: (94, v0) :: (93, (g12 t)) :: (92, (g13 t)) :: (91, (g10 t)) :: []) fun e4 => jF ((ldF v2) :: ft0 :: ft0 :: ft0 :: ft0 :: ft0 :: ft0 :: []) fun q4 => gD Try.f78 78 18 7 c (p97 t v3) l h (fun v4 f4 l4 h4 => bO (bin Pg .shl 80 true v4 (.int .u64 (.ofNat 32))) fun v5 => bO (bin Pg .add 3 false (g13 t) (g12 t)) fun v6 => bO (ia Pg 24 (g10 t) v6) fun v7 => bO (ld Pg 86 v7 l4 h4) fun v8 => jE ((105, v8) :: (104, v7) :: (103, v6) :: (102, (g12 t)) :: (101, (g13 t)) :: (100, (g10 t)) :: (99, v5) :: (98, v4) :: e4) fun e9 => jF ((ldF v7) :: ft0 :: ft0 :: ft0 :: ft0 :: ft0 :: ft0 :: f4 :: q4) fun q9 => gD Try.f78 78 18 15 c (p105 t v8) l4 h4 (fun v9 f9 l9 h9 => bO (bin Pg .or 80 false v5 v9) fun v10 => finD (rgA Try.f78 18).toList [] [] (ft0 :: ft0 :: f9 :: q9) (k (p14 t v10) l9 h9)) (sD Try.f78 78 18 c 15 (some 106) e9 q9 t l4 h4)) (sD Try.f78 78 18 c 7 (some 98) e4 q4 t l h))
 (.seq (.reg fun c t l h k => bO (ia Pg 24 (g1 t) (g12 t)) fun v0 => bO (ld Pg 86 v0 l h) fun v1 => gn Try.f78 78 19 5 c (p112 t v1) t l h (fun v2 l2 h2 => bO (bin Pg .quo 80 false (g14 t) v2) fun v3 => bO (mnV v3 (.int .u64 (.ofNat 4294967295))) fun v4 => k (p15 t v4) l2 h2))
 (.seq (.block 4 (.loop (.seq (.seq (.reg fun c t l h k => bO (bin Pg .add 3 false (g13 t) (g12 t)) fun v0 => bO (bin Pg .add 3 true v0 (I 2)) fun v1 => bO (slc Pg 24 (g10 t) (some (g13 t)) (some v1) none) fun v2 => cl c 86 [v2, (g1 t), (g15 t)] t l h fun v3 l3 h3 => bO (G.un .not v3) fun v4 => k (p126 t v4) l3 h3)
 (.cond (.tmp 126) .skip (.exit 4)))
 (.block 5 (.reg fun c t l h k => bO (bin Pg .sub 80 true (g15 t) (.int .u64 (.ofNat 1))) fun v0 => k (p15 t v0) l h)))))
 (.reg fun c t l h k => gn Try.f78 78 22 3 c (p131 t (g15 t)) t l h (fun v0 l0 h0 => bO (ia Pg 24 (g11 t) (g13 t)) fun v1 => jn (fun v2 l2 h2 => k t l2 h2) fun j2 => sto 86 v1 v0 l0 h0 j2 (gn Try.f78 78 22 5 c (p132 (p133 t v1) v0) t l0 h0 j2)))))))
 (.reg fun c t l h k => bO (bin Pg .sub 3 true (g13 t) (I 1)) fun v0 => k (p13 t v0) l h))))))
 (.seq (.reg fun c t l h k => cl c 87 [(g10 t), (g9 t)] t l h fun v0 l0 h0 => cl c 65 [v0, (.bool false)] t l0 h0 fun v1 l1 h1 => bO (fld Pg 26 v1 0) fun v2 => k (p5 (p4 t (g11 t)) v2) l1 h1)
 .ret)))))))))
def kp83 : List Nat := [0, 1, 2, 6, 7]
def rc83 : RC := (.seq (.reg fun c t l h k => k (p7 (p6 t (.int .u32 (.ofNat 0))) (.int .u32 (.ofNat 0))) l h)
 (.seq (.reg fun c t l h k => bO (bin Pg .sub 86 false (g0 t) (g1 t)) fun v0 => bO (bin Pg .sub 86 false v0 (g2 t)) fun v1 => k (p6 t v1) l h)
 (.seq (.reg fun c t l h k => bO (G.un .xor (g0 t)) fun v0 => bO (bin Pg .and 86 false v0 (g1 t)) fun v1 => bO (bin Pg .xor 86 false (g0 t) (g1 t)) fun v2 => bO (G.un .xor v2) fun v3 => bO (bin Pg .and 86 false v3 (g6 t)) fun v4 => bO (bin Pg .or 86 false v1 v4) fun v5 => bO (bin Pg .shr 86 true v5 (.int .u64 (.ofNat 31))) fun v6 => k (p7 t v6) l h)
 .ret)))
def kp84 : List Nat := [0, 2]
def rc84 : RC := (.seq (.reg fun c t l h k => k (p2 t (I 0)) l h)
 (.seq (.reg fun c t l h k => cl c 89 [(g0 t)] t l h fun v0 l0 h0 => bO (bin Pg .sub 3 true (I 32) v0) fun v1 => k (p2 t v1) l0 h0)
 .ret))
def kp85 : List Nat := [0, 1, 4, 5, 6, 7, 8, 13, 14, 15, 16]
def rc85 : RC := (.seq (.reg fun c t l h k => k (p4 t .nils) l h)
 (.seq (.reg fun c t l h k => bO (len (Pg.underlying 24) (g0 t)) fun v0 => bO (bin Pg .add 3 true v0 (I 1)) fun v1 => gn Try.f85 85 1 3 c (p11 (p11 t v1) v1) t l h (fun v2 l2 h2 => k (p5 t v2) l2 h2))
 (.seq (.seq (.reg fun c t l h k => bO (len (Pg.underlying 24) (g0 t)) fun v0 => k (p15 (p14 (p13 t (g0 t)) v0) (I 0)) l h)
 (.block 0 (.loop (.seq (.reg fun c t l h k => bO (bin Pg .lss 3 false (g15 t) (g14 t)) fun v0 => k (p16 t v0) l h)
 (.seq (.cond (.tmp 16) .skip (.exit 0))
 (.seq (.block 1 (.seq (.reg fun c t l h k => bO (ia Pg 24 (g13 t) (g15 t)) fun v0 => bO (ld Pg 86 v0 l h) fun v1 => k (p7 (p6 t (g15 t)) v1) l h)
 (.seq (.reg fun c t l h k => gn Try.f85 85 5 1 c (p20 t (g7 t)) t l h (fun v0 l0 h0 => bO (bin Pg .shl 80 false v0 (g1 t)) fun v1 => k (p8 t v1) l0 h0))
 (.seq (.reg fun c t l h k => bO (ia Pg 24 (g5 t) (g6 t)) fun v0 => bO (ld Pg 86 v0 l h) fun v1 => gn Try.f85 85 6 5 c (p28 t (g8 t)) t l h (fun v2 l2 h2 => bO (bin Pg .or 86 false v1 v2) fun v3 => bO (ia Pg 24 (g5 t) (g6 t)) fun v4 => jn (fun v5 l5 h5 => k t l5 h5) fun j5 => sto 86 v4 v3 l2 h2 j5 (gn Try.f85 85 6 8 c (p30 (p31 t v4) v3) t l2 h2 j5)))
 (.reg fun c t l h k => bO (bin Pg .add 3 true (g6 t) (I 1)) fun v0 => bO (bin Pg .shr 80 true (g8 t) (.int .u64 (.ofNat 32))) fun v1 => gn Try.f85 85 7 5 c (p36 t v1) t l h (fun v2 l2 h2 => bO (ia Pg 24 (g5 t) v0) fun v3 => jn (fun v4 l4 h4 => k t l4 h4) fun j4 => sto 86 v3 v2 l2 h2 j4 (gn Try.f85 85 7 7 c (p37 (p38 t v3) v2) t l2 h2 j4)))))))
 (.reg fun c t l h k => bO (bin Pg .add 3 true (g15 t) (I 1)) fun v0 => k (p15 t v0) l h)))))))
 (.seq (.reg fun c t l h k => k (p4 t (g5 t)) l h)
 .ret))))
def kp86 : List Nat := [0, 1, 2, 6, 7, 8, 9, 23]
def rc86 : RC := (.seq (.reg fun c t l h k => k (p6 t (.bool false)) l h)
 (.seq (.reg fun c t l h k => cl c 68 [(g1 t)] t l h fun v0 l0 h0 => cl c 64 [v0, (g2 t), (.int .u64 (.ofNat 0))] t l0 h0 fun v1 l1 h1 => cl c 65 [v1, (.bool false)] t l1 h1 fun v2 l2 h2 => bO (fld Pg 26 v2 0) fun v3 => k (p7 t v3) l2 h2)
 (.seq (.reg fun c t l h k => cl c 68 [(g0 t)] t l h fun v0 l0 h0 => cl c 65 [v0, (.bool false)] t l0 h0 fun v1 l1 h1 => bO (fld Pg 26 v1 0) fun v2 => k (p8 t v2) l1 h1)
 (.seq (.seq (.reg fun c t l h k => cl c 72 [(g7 t), (g8 t)] t l h fun v0 l0 h0 => bO (bin Pg .gtr 3 true v0 (I 0)) fun v1 => k (p23 t v1) l0 h0)
 (.cond (.tmp 23) (.seq (.reg fun c t l h k => k (p6 t (.bool false)) l h)
 .ret) .skip))
 (.seq (.reg fun c t l h k => cl c 73 [(g8 t), (g7 t)] t l h fun v0 l0 h0 => k (p9 t v0) l0 h0)
 (.seq (.reg fun c t l h k => gn Try.f86 86 6 1 c (p27 t (g0 t)) t l h (fun v0 l0 h0 => k t l0 h0))
 (.seq (.reg fun c t l h k => gn Try.f86 86 7 2 c (p29 (p28 t (g0 t)) (g9 t)) t l h (fun v0 l0 h0 => k t l0 h0))
 (.seq (.reg fun c t l h k => k (p6 t (.bool true)) l h)
 .ret))))))))
def kp87 : List Nat := [0, 1, 4, 5, 6, 7, 8, 12, 13, 14, 15, 34]
def rc87 : RC := (.seq (.reg fun c t l h k => k (p4 t .nils) l h)
 (.seq (.reg fun c t l h k => bO (len (Pg.underlying 24) (g0 t)) fun v0 => gn Try.f87 87 1 2 c (p10 (p10 t v0) v0) t l h (fun v1 l1 h1 => k (p5 t v1) l1 h1))
 (.seq (.seq (.reg fun c t l h k => bO (len (Pg.underlying 24) (g0 t)) fun v0 => k (p14 (p13 (p12 t (g0 t)) v0) (I 0)) l h)
 (.block 0 (.loop (.seq (.reg fun c t l h k => bO (bin Pg .lss 3 false (g14 t) (g13 t)) fun v0 => k (p15 t v0) l h)
 (.seq (.cond (.tmp 15) .skip (.exit 0))
 (.seq (.block 1 (.seq (.reg fun c t l h k => bO (ia Pg 24 (g12 t) (g14 t)) fun v0 => bO (ld Pg 86 v0 l h) fun v1 => k (p7 (p6 t (g14 t)) v1) l h)
 (.seq (.reg fun c t l h k => gn Try.f87 87 5 1 c (p19 t (g7 t)) t l h (fun v0 l0 h0 => bO (bin Pg .shl 80 true v0 (.int .u64 (.ofNat 32))) fun v1 => bO (bin Pg .shr 80 false v1 (g1 t)) fun v2 => k (p8 t v2) l0 h0))
 (.seq (.reg fun c t l h k => bO (ia Pg 24 (g5 t) (g6 t)) fun v0 => bO (ld Pg 86 v0 l h) fun v1 => bO (bin Pg .shr 80 true (g8 t) (.int .u64 (.ofNat 32))) fun v2 => gn Try.f87 87 6 6 c (p29 t v2) t l h (fun v3 l3 h3 => bO (bin Pg .or 86 false v1 v3) fun v4 => bO (ia Pg 24 (g5 t) (g6 t)) fun v5 => jn (fun v6 l6 h6 => k t l6 h6) fun j6 => sto 86 v5 v4 l3 h3 j6 (gn Try.f87 87 6 9 c (p31 (p32 t v5) v4) t l3 h3 j6)))
 (.seq (.reg fun c t l h k => bO (bin Pg .gtr 3 true (g6 t) (I 0)) fun v0 => k (p34 t v0) l h)
 (.cond (.tmp 34) (.reg fun c t l h k => bO (bin Pg .sub 3 true (g6 t) (I 1)) fun v0 => bO (ia Pg 24 (g5 t) v0) fun v1 => bO (ld Pg 86 v1 l h) fun v2 => gn Try.f87 87 8 6 c (p40 t (g8 t)) t l h (fun v3 l3 h3 => bO (bin Pg .or 86 false v2 v3) fun v4 => bO (ia Pg 24 (g5 t) v0) fun v5 => jn (fun v6 l6 h6 => k t l6 h6) fun j6 => sto 86 v5 v4 l3 h3 j6 (gn Try.f87 87 8 9 c (p42 (p43 t v5) v4) t l3 h3 j6))) .skip))))))
 (.reg fun c t l h k => bO (bin Pg .add 3 true (g14 t) (I 1)) fun v0 => k (p14 t v0) l h)))))))
 (.seq (.reg fun c t l h k => k (p4 t (g5 t)) l h)
 .ret))))
def kp89 : List Nat := [0, 2, 4, 8]
def rc89 : RC := (.seq (.reg fun c t l h k => k (p2 t (I 0)) l h)
 (.seq (.seq (.reg fun c t l h k => bO (bin Pg .geq 86 true (g0 t) (.int .u32 (.ofNat 65536))) fun v0 => k (p4 t v0) l h)
 (.cond (.tmp 4) (.seq (.reg fun c t l h k => bO (bin Pg .shr 86 true (g0 t) (.int .u64 (.ofNat 16))) fun v0 => k (p0 t v0) l h)
 (.reg fun c t l h k => k (p2 t (I 16)) l h)) .skip))
 (.seq (.seq (.reg fun c t l h k => bO (bin Pg .geq 86 true (g0 t) (.int .u32 (.ofNat 256))) fun v0 => k (p8 t v0) l h)
 (.cond (.tmp 8) (.seq (.reg fun c t l h k => bO (bin Pg .shr 86 true (g0 t) (.int .u64 (.ofNat 8))) fun v0 => k (p0 t v0) l h)
 (.reg fun c t l h k => bO (bin Pg .add 3 true (g2 t) (I 8)) fun v0 => k (p2 t v0) l h)) .skip))
 (.seq (.reg fun c t l h k => gn Try.f89 89 7 2 c (p14 t (g0 t)) t l h (fun v0 l0 h0 => bO (idx Pg 9 (.str ⟨256, 1013866857139168856493015739252390649739422828853819106890363778118420553376247557433637691341895324351018602695588957474325319502760499485336098898398377509666851054660423406800006203933793007272033180812049178612605246075062580585469430410618860250057463399279570354286669047577758927328864388992123306212451509403152394148136105363817402562688186708175358218852349079190158732807302672745370040257219644697201681238697346923541678507645485296520536209706771857694240900605172937619415410180424934769249448772944216470541052485265558808433676546390051204254346932932316488017972311616136051587427851453983453479168⟩) v0) fun v1 => gn Try.f89 89 7 4 c (p16 t v1) t l0 h0 (fun v2 l2 h2 => bO (bin Pg .add 3 false (g2 t) v2) fun v3 => k (p2 t v3) l2 h2)))
 .ret))))
def tblL : List (Nat × Fc) := [(5, ⟨rc5, Try.f5.results.toList⟩), (13, ⟨rc13, Try.f13.results.toList⟩), (15, ⟨rc15, Try.f15.results.toList⟩), (18, ⟨rc18, Try.f18.results.toList⟩), (21, ⟨rc21, Try.f21.results.toList⟩), (25, ⟨rc25, Try.f25.results.toList⟩), (27, ⟨rc27, Try.f27.results.toList⟩), (29, ⟨rc29, Try.f29.results.toList⟩), (31, ⟨rc31, Try.f31.results.toList⟩), (33, ⟨rc33, Try.f33.results.toList⟩), (35, ⟨rc35, Try.f35.results.toList⟩), (37, ⟨rc37, Try.f37.results.toList⟩), (64, ⟨rc64, Try.f64.results.toList⟩), (65, ⟨rc65, Try.f65.results.toList⟩), (68, ⟨rc68, Try.f68.results.toList⟩), (69, ⟨rc69, Try.f69.results.toList⟩), (71, ⟨rc71, Try.f71.results.toList⟩), (72, ⟨rc72, Try.f72.results.toList⟩), (73, ⟨rc73, Try.f73.results.toList⟩), (77, ⟨rc77, Try.f77.results.toList⟩), (78, ⟨rc78, Try.f78.results.toList⟩), (83, ⟨rc83, Try.f83.results.toList⟩), (84, ⟨rc84, Try.f84.results.toList⟩), (85, ⟨rc85, Try.f85.results.toList⟩), (86, ⟨rc86, Try.f86.results.toList⟩), (87, ⟨rc87, Try.f87.results.toList⟩), (89, ⟨rc89, Try.f89.results.toList⟩)]
def tbl (f : Nat) : Option Fc := lkL tblL f
end
end Go.AM.S
end
section
namespace Go.AM
open Go Go.ChangeShapes Go.WideShapes
structure Stays (W W' : World) : Prop where
 os : W'.os = W.os
 output : W'.output = W.output
 size : W.heap.size ≤ W'.heap.size
 heap : ∀ i, i < W.heap.size → W'.heap[i]? = W.heap[i]?
theorem Stays.kept {W W' : World} (h : Stays W W') (may : MemPlace → Prop) : W.keptBut W' may := by
 refine ⟨h.os, h.output, fun i hi => ?_⟩
 rw [h.heap i hi]
 cases hq : W.heap[i]? with
 | none => simp
 | some o =>
  cases o <;> simp
theorem Stays.frozen {W W' : World} (h : Stays W W') {a : Addr} (ha : a.block < W.heap.size) : W'.frozen? a = W.frozen? a := by
 unfold World.frozen?
 rw [h.heap _ ha]
def noHp : Hp := ⟨[], none, 0⟩
def topCtx [Laid] : Ctx := { gl := fun _ => none, lc := fun _ _ => none, shut := Laid.cells, ext := fun _ => none, text := fun _ => none }
theorem post_of_stays {H : Type} {enc : TypeId × Value → H} {P : Program} {f : Func} {s : ChangeSpec} {apart fresh handsOn again : Bool} {W W' : World} {args : Array Value} {v : Value} {ds gs : List (DataW H)} {before pa pv : List MemPlace}
  (hW : DataW.Whole enc P f.params.toList s.vars apart W args.toList ds gs before)
  (hres : ∀ (b : Nat) (sp : Nat → Bool) (hd : Bool), DataW.TrodAll enc P W' b sp hd f.resultTypes.toList (v.resultList f.resultTypes.size) (s.fn H (ds ++ gs)).results [])
  (hargs : ∀ sp : Nat → Bool, (∀ p ∈ before, sp p.block = true) → DataW.TrodAll enc P W' 0 sp true f.params.toList args.toList (s.fn H (ds ++ gs)).args pa)
  (hvars : ∀ sp : Nat → Bool, (∀ p ∈ before, sp p.block = true) → DataW.TrodVars enc P W' sp s.vars (s.fn H (ds ++ gs)).vars pv)
  (hps : before = pa ++ pv) (hs : Stays W W')
  (hok : ∀ (j : Nat) (t : TypeId) (r : Value), f.resultTypes[j]? = some t → (v.resultList f.resultTypes.size)[j]? = some r → Value.okWide P W' .any 0 t r) :
  s.post enc P f apart fresh handsOn again W args v W' := by
 have hold : ∀ p ∈ before, (fun b => decide (b < W.heap.size)) p.block = true := fun p hp => by simpa using hW.lt p hp
 have hlt := fun p hp => hW.lt p hp
 refine ⟨ds, gs, before, [], pa, pv, hW, hres _ _ _, hargs _ hold, hvars _ hold, World.keptBut_mono (fun p hp => ⟨hp, ?_⟩) (hs.kept (· ∈ before)), fun _ => ?_⟩
 ·rw [hps, List.mem_append] at hp
  exact Or.inr hp
 ·obtain ⟨_, _, _, _, _, hz, hn⟩ := hW
  refine ⟨hok, _, _, ([] ++ pa) ++ pv, ⟨[] ++ pa, pv, trodAll_append (hargs _ (fun _ _ => rfl)) (hres _ _ _), hvars _ (fun _ _ => rfl), rfl, ?_, ?_⟩, ?_⟩
  ·intro b off hp
   have hp' : MemPlace.cell b off ∈ before := by rw [hps]; simpa using hp
   rw [hs.frozen (hlt _ hp')]
   exact hz b off hp'
  ·intro ha
   have := hn ha
   rw [hps] at this
   simpa using this
  ·intro p hp _
   rw [hps]
   simpa using hp
end Go.AM
end
section
namespace Go.AM.S
open Go Go.AM
open _root_.Go.AM.G (R)
def Ev (p : Nat → Prop) : Prop := ∃ N, ∀ n, N ≤ n → p n
theorem Ev.of {p : Nat → Prop} (h : ∀ n, p n) : Ev p := ⟨0, fun n _ => h n⟩
theorem Ev.mono {p q : Nat → Prop} (h : Ev p) (hq : ∀ n, p n → q n) : Ev q := ⟨h.choose, fun n hn => hq n (h.choose_spec n hn)⟩
theorem Ev.and {p q : Nat → Prop} (h : Ev p) (k : Ev q) : Ev fun n => p n ∧ q n :=
 ⟨max h.choose k.choose, fun n hn => ⟨h.choose_spec n (Nat.le_trans (Nat.le_max_left _ _) hn), k.choose_spec n (Nat.le_trans (Nat.le_max_right _ _) hn)⟩⟩
theorem Ev.next {p : Nat → Prop} (h : Ev p) : Ev fun n => ∃ m, n = m + 1 ∧ p m :=
 ⟨h.choose + 1, fun n hn => ⟨n - 1, by omega, h.choose_spec _ (by omega)⟩⟩
def out1 (e : Ex) (tm : Tm) (loc : Lo) (hp : Hp) (k : K) : R := match e with
 | .normal => k tm loc hp
 | e => some (e, ⟨tm, loc, hp⟩)
section
variable {P : Program} {kn : Kn} {tbl : Nat → Option Fc}
variable (P kn tbl) in
def Ends (c : RC) (s : St) (e : Ex) (s' : St) : Prop := Ev fun n => ∀ k, run (fn P kn tbl n) n c s.tm s.loc s.hp k = out1 e s'.tm s'.loc s'.hp k
variable (P kn tbl) in
def W (c : RC) (s : St) (Q : Ex → St → Prop) : Prop := ∃ e s', Ends P kn tbl c s e s' ∧ Q e s'
variable (P kn tbl) in
def Runs (f : FuncId) (args : List V) (h : Hp) (o : Out) : Prop := Ev fun n => fn P kn tbl n f args h = some o
theorem W.mono {c : RC} {s : St} {Q Q' : Ex → St → Prop} (h : W P kn tbl c s Q) (hq : ∀ e s', Q e s' → Q' e s') : W P kn tbl c s Q' :=
 let ⟨e, s', h1, h2⟩ := h
 ⟨e, s', h1, hq e s' h2⟩
theorem w_skip {s : St} {Q : Ex → St → Prop} (h : Q .normal s) : W P kn tbl .skip s Q := ⟨.normal, s, .of fun n k => rfl, h⟩
theorem w_ret {s : St} {Q : Ex → St → Prop} (h : Q .ret s) : W P kn tbl .ret s Q := ⟨.ret, s, .of fun n k => rfl, h⟩
theorem w_exit {i : Nat} {s : St} {Q : Ex → St → Prop} (h : Q (.exit i) s) : W P kn tbl (.exit i) s Q := ⟨.exit i, s, .of fun n k => rfl, h⟩
theorem w_seq {a b : RC} {s : St} {Q : Ex → St → Prop} (h : W P kn tbl a s (fun e s1 => match e with | .normal => W P kn tbl b s1 Q | e => Q e s1)) : W P kn tbl (.seq a b) s Q := by
 obtain ⟨e, s1, h1, h2⟩ := h
 have plain : ∀ e, e ≠ .normal → Ends P kn tbl a s e s1 → Q e s1 → W P kn tbl (.seq a b) s Q := by
  intro e hne h1 h2
  refine ⟨e, s1, h1.mono fun n h k => ?_, h2⟩
  show run _ n a s.tm s.loc s.hp (fun tm loc hp => run _ n b tm loc hp k) = _
  rw [h]
  cases e <;> first | rfl | exact absurd rfl hne
 cases e with
 | normal =>
  obtain ⟨e2, s2, h3, h4⟩ := h2
  refine ⟨e2, s2, (h1.and h3).mono fun n ⟨h, h'⟩ k => ?_, h4⟩
  show run _ n a s.tm s.loc s.hp (fun tm loc hp => run _ n b tm loc hp k) = _
  rw [h]
  exact h' k
 | exit i => exact plain (.exit i) (by simp) h1 h2
 | ret => exact plain .ret (by simp) h1 h2
 | panic v => exact plain (.panic v) (by simp) h1 h2
theorem w_cond {x : Operand} {a b : RC} {s : St} {Q : Ex → St → Prop} {q : Bool} (hx : lk [] s.tm x = .bool q) (ht : q = true → W P kn tbl a s Q) (hf : q = false → W P kn tbl b s Q) : W P kn tbl (.cond x a b) s Q := by
 cases q with
 | true =>
  obtain ⟨e, s', h1, h2⟩ := ht rfl
  refine ⟨e, s', h1.mono fun n h k => ?_, h2⟩
  show G.onBool (lk [] s.tm x) (fun q => Bool.rec (motive := fun _ => R) (run _ n b s.tm s.loc s.hp k) (run _ n a s.tm s.loc s.hp k) q) none = _
  rw [hx]; exact h k
 | false =>
  obtain ⟨e, s', h1, h2⟩ := hf rfl
  refine ⟨e, s', h1.mono fun n h k => ?_, h2⟩
  show G.onBool (lk [] s.tm x) (fun q => Bool.rec (motive := fun _ => R) (run _ n b s.tm s.loc s.hp k) (run _ n a s.tm s.loc s.hp k) q) none = _
  rw [hx]; exact h k
theorem w_block {id : Nat} {b : RC} {s : St} {Q : Ex → St → Prop} (h : W P kn tbl b s (fun e s1 => match e with | .exit i => if i = id then Q .normal s1 else Q (.exit i) s1 | e => Q e s1)) : W P kn tbl (.block id b) s Q := by
 obtain ⟨e, s1, h1, h2⟩ := h
 have key : ∀ n k, run (fn P kn tbl n) n (.block id b) s.tm s.loc s.hp k = G.onSome (run (fn P kn tbl n) n b s.tm s.loc s.hp done) (fun p => Ex.rec (motive := fun _ => Nat → K → St → R) (fun _ k st => k st.tm st.loc st.hp)
   (fun i id k st => bif Nat.beq i id then k st.tm st.loc st.hp else some (.exit i, st)) (fun _ _ st => some (.ret, st)) (fun v _ _ st => some (.panic v, st)) p.1 id k p.2) none := fun n k => rfl
 cases e with
 | normal => exact ⟨.normal, s1, h1.mono fun n h k => by rw [key, h]; rfl, h2⟩
 | ret => exact ⟨.ret, s1, h1.mono fun n h k => by rw [key, h]; rfl, h2⟩
 | panic v => exact ⟨.panic v, s1, h1.mono fun n h k => by rw [key, h]; rfl, h2⟩
 | exit i =>
  by_cases e : i = id
  ·subst e
   simp only [if_true] at h2
   refine ⟨.normal, s1, h1.mono fun n h k => ?_, h2⟩
   rw [key, h]
   show (bif Nat.beq i i then k s1.tm s1.loc s1.hp else some (.exit i, s1)) = _
   rw [Nat.beq_refl]; rfl
  ·simp only [e, if_false] at h2
   refine ⟨.exit i, s1, h1.mono fun n h k => ?_, h2⟩
   rw [key, h]
   show (bif Nat.beq i id then k s1.tm s1.loc s1.hp else some (.exit i, s1)) = _
   have : Nat.beq i id = false := by
    cases hb : Nat.beq i id with
    | false => rfl
    | true => exact absurd (Nat.eq_of_beq_eq_true hb) e
   rw [this]; rfl
theorem w_loop {b : RC} {Q : Ex → St → Prop} (I : Nat → St → Prop) (hb : ∀ m s, I m s → W P kn tbl b s (fun e s' => match e with | .normal => ∃ m', m' < m ∧ I m' s' | e => Q e s')) :
  ∀ (m : Nat) (s : St), I m s → W P kn tbl (.loop b) s Q := by
 have key : ∀ (m : Nat) (s : St), I m s → ∃ e s', e ≠ .normal ∧ Q e s' ∧ ∃ N c, ∀ n, N ≤ n → ∀ j, c ≤ j →
   (Nat.rec (motive := fun _ => K) (fun _ _ _ => none) (fun _ il tm loc hp => run (fn P kn tbl n) n b tm loc hp il) j : K) s.tm s.loc s.hp = some (e, s') := by
  intro m
  induction m using Nat.strongRecOn with
  | _ m ih =>
   intro s hs
   obtain ⟨e, s1, ⟨N, h1⟩, h2⟩ := hb m s hs
   have plain : e ≠ .normal → Q e s1 → ∃ e s', e ≠ .normal ∧ Q e s' ∧ ∃ N c, ∀ n, N ≤ n → ∀ j, c ≤ j →
     (Nat.rec (motive := fun _ => K) (fun _ _ _ => none) (fun _ il tm loc hp => run (fn P kn tbl n) n b tm loc hp il) j : K) s.tm s.loc s.hp = some (e, s') := by
    intro hne hq
    refine ⟨e, s1, hne, hq, N, 1, fun n hn j hj => ?_⟩
    obtain ⟨j, rfl⟩ : ∃ i, j = i + 1 := ⟨j - 1, by omega⟩
    show run (fn P kn tbl n) n b s.tm s.loc s.hp _ = _
    rw [h1 n hn]
    cases e <;> first | rfl | exact absurd rfl hne
   cases e with
   | normal =>
    obtain ⟨m', hm, hi⟩ := h2
    obtain ⟨e2, s2, hne, hq, N2, c, h3⟩ := ih m' hm s1 hi
    refine ⟨e2, s2, hne, hq, max N N2, c + 1, fun n hn j hj => ?_⟩
    obtain ⟨j, rfl⟩ : ∃ i, j = i + 1 := ⟨j - 1, by omega⟩
    show run (fn P kn tbl n) n b s.tm s.loc s.hp _ = _
    rw [h1 n (by omega)]
    exact h3 n (by omega) j (by omega)
   | exit i => exact plain (by simp) h2
   | ret => exact plain (by simp) h2
   | panic v => exact plain (by simp) h2
 intro m s hs
 obtain ⟨e, s', hne, hq, N, c, h⟩ := key m s hs
 refine ⟨e, s', ⟨max N c, fun n hn k => ?_⟩, hq⟩
 show (Nat.rec (motive := fun _ => K) (fun _ _ _ => none) (fun _ il tm loc hp => run (fn P kn tbl n) n b tm loc hp il) n : K) s.tm s.loc s.hp = _
 rw [h n (by omega) n (by omega)]
 cases e <;> first | rfl | exact absurd rfl hne
theorem w_reg {f : CallF → Tm → Lo → Hp → K → R} {s : St} {Q : Ex → St → Prop} {tm' : Tm} {loc' : Lo} {hp' : Hp} (N : Nat) (h : ∀ n, N ≤ n → ∀ k, f (fn P kn tbl n) s.tm s.loc s.hp k = k tm' loc' hp') (hq : Q .normal ⟨tm', loc', hp'⟩) : W P kn tbl (.reg f) s Q :=
 ⟨.normal, ⟨tm', loc', hp'⟩, ⟨N, fun n hn k => h n hn k⟩, hq⟩
theorem runs_of {f : FuncId} {fc : Fc} {args : List V} {h : Hp} {o : Out} (hk : kn f = none) (ht : tbl f = some fc)
  (hw : W P kn tbl fc.rc ⟨startTm args, .lf, { h with dirty := none }⟩ (fun e s => match e with | .normal => fin P h fc.res s = some o | .ret => fin P h fc.res s = some o | .panic v => o = .panic v (backHp h s.hp [v]) | .exit _ => False)) : Runs P kn tbl f args h o := by
 obtain ⟨e, s, h1, h2⟩ := hw
 refine h1.next.mono fun n ⟨m, hm, h1⟩ => ?_
 subst hm
 show G.onSome (kn f) (fun k => k (fn P kn tbl m) args h) (body P tbl (fn P kn tbl m) m f args h) = _
 rw [hk]
 show body P tbl (fn P kn tbl m) m f args h = _
 unfold body
 rw [ht]
 show G.onSome (run (fn P kn tbl m) m fc.rc (F.startTm args) .lf { h with dirty := none } done) _ none = _
 have := h1 done
 rw [F.e_startTm]
 have h3 : run (fn P kn tbl m) m fc.rc (startTm args) .lf { h with dirty := none } done = out1 e s.tm s.loc s.hp done := this
 rw [h3]
 cases e with
 | normal => exact (finS h fc.res s).trans h2
 | ret => exact (finS h fc.res s).trans h2
 | panic v =>
  rw [h2]
  show some (Out.panic v (F.backHp h s.hp [v])) = _
  rw [F.e_backHp]
 | exit i => exact h2.elim
theorem Runs.at {f : FuncId} {args : List V} {h : Hp} {o : Out} (hr : Runs P kn tbl f args h o) : ∃ n, fn P kn tbl n f args h = some o := ⟨hr.choose, hr.choose_spec _ (Nat.le_refl _)⟩
theorem bO_some (v : V) (f : V → R) : bO (some v) f = f v := rfl
theorem gt_pt (tm : Tm) (j i : Nat) (v : V) : gt (pt tm j v) i = if j = i then v else gt tm i := by rw [gt_eq, pt_eq, gt_eq, aget_aset]
theorem gt_start (args : List V) (i : Nat) : gt (startTm args) i = args.getD i .dead := by
 have key : ∀ (l : List V) (k i : Nat) (t : Tr V), aget V.dead (startFrom k l t) i = if k ≤ i ∧ i < k + l.length then l.getD (i - k) .dead else aget V.dead t i := by
  intro l
  induction l with
  | nil => intro k i t; rw [if_neg (by simp only [List.length_nil]; omega)]; rfl
  | cons v l ih =>
   intro k i t
   simp only [startFrom]
   rw [ih (k + 1) i (aset t k v), aget_aset]
   by_cases h1 : k + 1 ≤ i ∧ i < k + 1 + l.length
   ·rw [if_pos h1, if_pos (by simp; omega)]
    rw [show i - k = (i - (k + 1)) + 1 by omega, List.getD_cons_succ]
   ·rw [if_neg h1]
    by_cases h2 : k = i
    ·subst h2; rw [if_pos rfl, if_pos (by simp)]; simp
    ·rw [if_neg h2, if_neg (by simp; omega)]
 rw [gt_eq]
 unfold startTm
 rw [key args 0 i .lf, aget_lf]
 by_cases h : 0 ≤ i ∧ i < 0 + args.length
 ·rw [if_pos h]; simp
 ·rw [if_neg h, List.getD_eq_getElem?_getD, List.getElem?_eq_none (by omega)]; rfl
theorem cl_val {call : CallF} {f : FuncId} {args : List V} {tm : Tm} {loc : Lo} {hp : Hp} {j : V → Lo → Hp → R} {l : List V} {st : St} {v : V} {h : Hp} (he : exps false ⟨.lf, loc, hp⟩ args = some (l, st)) (hc : call f l st.hp = some (.val v h)) :
  cl call f args tm loc hp j = j v st.loc h := by
 unfold cl
 rw [F.e_exps, he]
 show backO (call f l st.hp) st.loc tm _ = _
 rw [hc]; rfl
end
end Go.AM.S
end
section
namespace Go.AM.S
open Go Go.AM
set_option linter.defProp false
open _root_.Go.AM.G (R)
section
variable {P : Program} {kn : Kn} {tbl : Nat → Option Fc}
variable (P kn tbl) in
def WW (c : RC) (s : St) (N : St → Prop) (X : Nat → St → Prop) (Q : St → Prop) : Prop :=
 W P kn tbl c s (fun e s' => match e with | .normal => N s' | .exit i => X i s' | .ret => Q s' | .panic _ => False)
variable {N : St → Prop} {X : Nat → St → Prop} {Q : St → Prop} {s : St}
theorem ww_mono {c : RC} {N' : St → Prop} {X' : Nat → St → Prop} {Q' : St → Prop} (h : WW P kn tbl c s N X Q) (h1 : ∀ s, N s → N' s) (h2 : ∀ i s, X i s → X' i s) (h3 : ∀ s, Q s → Q' s) : WW P kn tbl c s N' X' Q' := by
 refine W.mono h (fun e s' hq => ?_)
 cases e with
 | normal => exact h1 _ hq
 | exit i => exact h2 _ _ hq
 | ret => exact h3 _ hq
 | panic v => exact hq
theorem ww_skip (h : N s) : WW P kn tbl .skip s N X Q := w_skip h
theorem ww_ret (h : Q s) : WW P kn tbl .ret s N X Q := w_ret h
theorem ww_exit {i : Nat} (h : X i s) : WW P kn tbl (.exit i) s N X Q := w_exit h
theorem ww_seq {a b : RC} (h : WW P kn tbl a s (fun s1 => WW P kn tbl b s1 N X Q) X Q) : WW P kn tbl (.seq a b) s N X Q := by
 refine w_seq (W.mono h (fun e s' hq => ?_))
 cases e with
 | normal => exact hq
 | exit i => exact hq
 | ret => exact hq
 | panic v => exact hq
theorem ww_block {id : Nat} {b : RC} (h : WW P kn tbl b s N (fun i s => if i = id then N s else X i s) Q) : WW P kn tbl (.block id b) s N X Q := by
 refine w_block (W.mono h (fun e s' hq => ?_))
 cases e with
 | normal => exact hq
 | exit i =>
  show if i = id then N s' else X i s'
  exact hq
 | ret => exact hq
 | panic v => exact hq
theorem ww_loop {b : RC} (I : Nat → St → Prop) (hb : ∀ m s, I m s → WW P kn tbl b s (fun s' => ∃ m', m' < m ∧ I m' s') X Q) (m : Nat) (h : I m s) : WW P kn tbl (.loop b) s N X Q := by
 refine w_loop I (fun m s hi => W.mono (hb m s hi) (fun e s' hq => ?_)) m s h
 cases e with
 | normal => exact hq
 | exit i => exact hq
 | ret => exact hq
 | panic v => exact hq
theorem ww_true {t : Nat} {a b : RC} (hx : gt s.tm t = .bool true) (h : WW P kn tbl a s N X Q) : WW P kn tbl (.cond (.tmp t) a b) s N X Q :=
 w_cond (q := true) hx (fun _ => h) (fun e => by cases e)
theorem ww_false {t : Nat} {a b : RC} (hx : gt s.tm t = .bool false) (h : WW P kn tbl b s N X Q) : WW P kn tbl (.cond (.tmp t) a b) s N X Q :=
 w_cond (q := false) hx (fun e => by cases e) (fun _ => h)
theorem ww_reg {f : CallF → Tm → Lo → Hp → K → R} {tm' : Tm} {loc' : Lo} {hp' : Hp} (h : ∀ n k, f (fn P kn tbl n) s.tm s.loc s.hp k = k tm' loc' hp') (hq : N ⟨tm', loc', hp'⟩) : WW P kn tbl (.reg f) s N X Q :=
 w_reg 0 (fun n _ k => h n k) hq
theorem ww_call {p : Nat → Prop} (hp : Ev p) {f : CallF → Tm → Lo → Hp → K → R} {tm' : Tm} {loc' : Lo} {hp' : Hp} (h : ∀ n, p n → ∀ k, f (fn P kn tbl n) s.tm s.loc s.hp k = k tm' loc' hp') (hq : N ⟨tm', loc', hp'⟩) : WW P kn tbl (.reg f) s N X Q :=
 w_reg hp.choose (fun n hn k => h n (hp.choose_spec n hn) k) hq
theorem runs_ex {f : FuncId} {fc : Fc} {args : List V} {h : Hp} {Post : Out → Prop} (hk : kn f = none) (ht : tbl f = some fc)
  (hw : WW P kn tbl fc.rc ⟨startTm args, .lf, { h with dirty := none }⟩ (fun s => ∃ o, fin P h fc.res s = some o ∧ Post o) (fun _ _ => False) (fun s => ∃ o, fin P h fc.res s = some o ∧ Post o)) : ∃ o, Runs P kn tbl f args h o ∧ Post o := by
 obtain ⟨e, s, h1, h2⟩ := hw
 cases e with
 | normal => obtain ⟨o, h3, h4⟩ := h2; exact ⟨o, runs_of hk ht ⟨.normal, s, h1, h3⟩, h4⟩
 | ret => obtain ⟨o, h3, h4⟩ := h2; exact ⟨o, runs_of hk ht ⟨.ret, s, h1, h3⟩, h4⟩
 | exit i => exact h2.elim
 | panic v => exact h2.elim
end
noncomputable def lg (loc : Lo) (d : Nat) : Nat × Row := F.getR (0, .gone) (path d) loc
noncomputable def lp (loc : Lo) (d : Nat) (x : Nat × Row) : Lo := F.putR x (path d) loc
theorem lg_lp (loc : Lo) (j i : Nat) (x : Nat × Row) : lg (lp loc j x) i = if j = i then x else lg loc i := by
 have := aget_aset (0, Row.gone) loc j i x
 unfold lg lp
 rw [F.getR_eq, F.putR_eq, F.getR_eq]
 exact this
theorem lg_lf (i : Nat) : lg .lf i = (0, .gone) := by
 unfold lg
 rw [F.getR_eq]
 exact aget_lf _ _
theorem lg_unfold (loc : Lo) (d : Nat) : F.getR (0, .gone) (path d) loc = lg loc d := rfl
theorem lp_unfold (loc : Lo) (d : Nat) (x : Nat × Row) : F.putR x (path d) loc = lp loc d x := rfl
def nl (k : IntKind) (d : List Nat) : List V := d.map fun x => .int k (.ofNat x)
theorem wrap_i64 {n : Nat} (h : n < 9223372036854775808) : F.wrapI .i64 (.ofNat n) = .ofNat n := by
 show (bif Nat.blt n 9223372036854775808 then Int.ofNat n else _) = _
 rw [show Nat.blt n 9223372036854775808 = true from by rw [Nat.blt_eq]; exact h]; rfl
theorem wrap_u64 {n : Nat} (h : n < 18446744073709551616) : F.wrapI .u64 (.ofNat n) = .ofNat n := by
 show (bif Nat.blt n 18446744073709551616 then Int.ofNat n else _) = _
 rw [show Nat.blt n 18446744073709551616 = true from by rw [Nat.blt_eq]; exact h]; rfl
theorem wrap_u32 {n : Nat} (h : n < 4294967296) : F.wrapI .u32 (.ofNat n) = .ofNat n := by
 show (bif Nat.blt n 4294967296 then Int.ofNat n else _) = _
 rw [show Nat.blt n 4294967296 = true from by rw [Nat.blt_eq]; exact h]; rfl
theorem wrap_i32 {n : Nat} (h : n < 2147483648) : F.wrapI .i32 (.ofNat n) = .ofNat n := by
 show (bif Nat.blt n 2147483648 then Int.ofNat n else _) = _
 rw [show Nat.blt n 2147483648 = true from by rw [Nat.blt_eq]; exact h]; rfl
theorem wrap_u8 {n : Nat} (h : n < 256) : F.wrapI .u8 (.ofNat n) = .ofNat n := by
 show (bif Nat.blt n 256 then Int.ofNat n else _) = _
 rw [show Nat.blt n 256 = true from by rw [Nat.blt_eq]; exact h]; rfl
theorem wrap_u32_mod (n : Nat) : F.wrapI .u32 (.ofNat n) = .ofNat (n % 4294967296) := by
 rw [F.wrapI_eq]
 unfold IntKind.wrap
 rfl
variable {P : Program}
theorem bin_n (op : BinOp) (t : TypeId) (cn : Bool) (k : IntKind) (a b : Int) : bin P op t cn (.int k a) (.int k b) = G.int2 op k a b := by
 show (bif Nat.beq (G.ikNum k) (G.ikNum k) then G.int2 op k a b else _) = _
 rw [Nat.beq_refl]; rfl
theorem i_add (k : IntKind) (a b : Nat) : G.int2 .add k (.ofNat a) (.ofNat b) = some (.int k (F.wrapI k (.ofNat (a + b)))) := rfl
theorem i_mul (k : IntKind) (a b : Nat) : G.int2 .mul k (.ofNat a) (.ofNat b) = some (.int k (F.wrapI k (.ofNat (a * b)))) := rfl
theorem i_sub {k : IntKind} {a b : Nat} (h : b ≤ a) : G.int2 .sub k (.ofNat a) (.ofNat b) = some (.int k (F.wrapI k (.ofNat (a - b)))) := by
 show some (V.int k (F.wrapI k (Int.sub (.ofNat a) (.ofNat b)))) = _
 have : Int.sub (.ofNat a) (.ofNat b) = .ofNat (a - b) := (Int.ofNat_sub h).symm
 rw [this]
theorem i_lss (k : IntKind) (a b : Nat) : G.int2 .lss k (.ofNat a) (.ofNat b) = some (.bool (decide (a < b))) := by
 show some (V.bool (F.ltI (.ofNat a) (.ofNat b))) = _
 rw [F.ltI_eq]; congr 2; simp
theorem i_gtr (k : IntKind) (a b : Nat) : G.int2 .gtr k (.ofNat a) (.ofNat b) = some (.bool (decide (b < a))) := by
 show some (V.bool (F.ltI (.ofNat b) (.ofNat a))) = _
 rw [F.ltI_eq]; congr 2; simp
theorem i_leq (k : IntKind) (a b : Nat) : G.int2 .leq k (.ofNat a) (.ofNat b) = some (.bool (decide (a ≤ b))) := by
 show some (V.bool (!F.ltI (.ofNat b) (.ofNat a))) = _
 rw [F.ltI_eq]; congr 2; rw [Bool.eq_iff_iff]; simp
theorem i_geq (k : IntKind) (a b : Nat) : G.int2 .geq k (.ofNat a) (.ofNat b) = some (.bool (decide (b ≤ a))) := by
 show some (V.bool (!F.ltI (.ofNat a) (.ofNat b))) = _
 rw [F.ltI_eq]; congr 2; rw [Bool.eq_iff_iff]; simp
theorem i_eql (k : IntKind) (a b : Nat) : G.int2 .eql k (.ofNat a) (.ofNat b) = some (.bool (decide (a = b))) := by
 show some (V.bool (F.eqI (.ofNat a) (.ofNat b))) = _
 rw [F.eqI_eq]; congr 2; rw [Bool.eq_iff_iff]; simp [Int.natCast_inj]
theorem i_neq (k : IntKind) (a b : Nat) : G.int2 .neq k (.ofNat a) (.ofNat b) = some (.bool (decide (a ≠ b))) := by
 show some (V.bool (!F.eqI (.ofNat a) (.ofNat b))) = _
 rw [F.eqI_eq]; congr 2; rw [Bool.eq_iff_iff]; simp [Int.natCast_inj]
theorem d_true {p : Prop} [Decidable p] (h : p) : decide p = true := decide_eq_true h
theorem d_false {p : Prop} [Decidable p] (h : ¬ p) : decide p = false := decide_eq_false h
theorem i_quo {k : IntKind} {a b : Nat} (h : b ≠ 0) : G.int2 .quo k (.ofNat a) (.ofNat b) = some (.int k (F.wrapI k (.ofNat (a / b)))) := by
 show (if (Int.ofNat b) = 0 then none else some (V.int k (k.wrap ((Int.ofNat a).tdiv (Int.ofNat b))))) = _
 rw [if_neg (by intro e; exact h (by simpa using e)), F.wrapI_eq]
 rfl
theorem i_rem {k : IntKind} {a b : Nat} (h : b ≠ 0) : G.int2 .rem k (.ofNat a) (.ofNat b) = some (.int k (.ofNat (a % b))) := by
 show (if (Int.ofNat b) = 0 then none else some (V.int k ((Int.ofNat a).tmod (Int.ofNat b)))) = _
 rw [if_neg (by intro e; exact h (by simpa using e))]
 rfl
theorem i_shr {k : IntKind} {a b : Nat} (h : b ≤ k.bits) : G.int2 .shr k (.ofNat a) (.ofNat b) = some (.int k (.ofNat (a / 2 ^ b))) := by
 show (if (Int.ofNat b) < 0 then none else some (V.int k ((Int.ofNat a).fdiv (2 ^ (min (Int.ofNat b).toNat k.bits))))) = _
 rw [if_neg (by simp)]
 have e : min (Int.ofNat b).toNat k.bits = b := Nat.min_eq_left h
 rw [e]
 have e2 : (2 ^ b : Int) = Int.ofNat (2 ^ b) := by simp
 rw [e2]
 have e3 : (Int.ofNat a).fdiv (Int.ofNat (2 ^ b)) = Int.ofNat (a / 2 ^ b) := by
  rw [Int.fdiv_eq_ediv_of_nonneg (Int.ofNat a) (show 0 ≤ Int.ofNat (2 ^ b) from Int.natCast_nonneg _)]; rfl
 rw [e3]
theorem i_shl {k : IntKind} {a b : Nat} (h : b ≤ k.bits) : G.int2 .shl k (.ofNat a) (.ofNat b) = some (.int k (F.wrapI k (.ofNat (a * 2 ^ b)))) := by
 show (if (Int.ofNat b) < 0 then none else some (V.int k (k.wrap ((Int.ofNat a) * (2 ^ (min (Int.ofNat b).toNat k.bits)))))) = _
 rw [if_neg (by simp)]
 have e : min (Int.ofNat b).toNat k.bits = b := Nat.min_eq_left h
 rw [e, F.wrapI_eq]
 congr 3
theorem i_or64 {a b : Nat} (ha : a < 18446744073709551616) (hb : b < 18446744073709551616) : G.int2 .or .u64 (.ofNat a) (.ofNat b) = some (.int .u64 (.ofNat (a ||| b))) := by
 show some (V.int .u64 (IntKind.u64.wrap (BitVec.ofInt 64 (Int.ofNat a) ||| BitVec.ofInt 64 (Int.ofNat b)).toNat)) = _
 have e : (BitVec.ofInt 64 (Int.ofNat a) ||| BitVec.ofInt 64 (Int.ofNat b)).toNat = a ||| b := by
  rw [BitVec.toNat_or]
  show (BitVec.ofInt 64 (a : Int)).toNat ||| (BitVec.ofInt 64 (b : Int)).toNat = _
  rw [BitVec.toNat_ofInt, BitVec.toNat_ofInt]
  congr 1 <;> omega
 rw [e, ← F.wrapI_eq]
 congr 2
 exact wrap_u64 (Nat.or_lt_two_pow (n := 64) ha hb)
theorem i_or32 {a b : Nat} (ha : a < 4294967296) (hb : b < 4294967296) : G.int2 .or .u32 (.ofNat a) (.ofNat b) = some (.int .u32 (.ofNat (a ||| b))) := by
 show some (V.int .u32 (IntKind.u32.wrap (BitVec.ofInt 32 (Int.ofNat a) ||| BitVec.ofInt 32 (Int.ofNat b)).toNat)) = _
 have e : (BitVec.ofInt 32 (Int.ofNat a) ||| BitVec.ofInt 32 (Int.ofNat b)).toNat = a ||| b := by
  rw [BitVec.toNat_or]
  show (BitVec.ofInt 32 (a : Int)).toNat ||| (BitVec.ofInt 32 (b : Int)).toNat = _
  rw [BitVec.toNat_ofInt, BitVec.toNat_ofInt]
  congr 1 <;> omega
 rw [e, ← F.wrapI_eq]
 congr 2
 exact wrap_u32 (Nat.or_lt_two_pow (n := 32) ha hb)
theorem i_shr64 {a b : Nat} (h : b ≤ 64) : G.int2 .shr .u64 (.ofNat a) (.ofNat b) = some (.int .u64 (.ofNat (a / 2 ^ b))) := i_shr h
theorem i_shr32 {a b : Nat} (h : b ≤ 32) : G.int2 .shr .u32 (.ofNat a) (.ofNat b) = some (.int .u32 (.ofNat (a / 2 ^ b))) := i_shr h
theorem i_shl64 {a b : Nat} (h : b ≤ 64) : G.int2 .shl .u64 (.ofNat a) (.ofNat b) = some (.int .u64 (F.wrapI .u64 (.ofNat (a * 2 ^ b)))) := i_shl h
theorem jn_eq {α β : Type} (c : α) (f : α → β) : jn c f = f c := rfl
theorem brB_true (x y : R) : brB (some true) x y = y := rfl
theorem brB_false (x y : R) : brB (some false) x y = x := rfl
theorem pick_true (a b : V) : pick (.bool true) a b = some a := rfl
theorem pick_false (a b : V) : pick (.bool false) a b = some b := rfl
theorem un_not (b : Bool) : G.un .not (.bool b) = some (.bool !b) := rfl
theorem ext_tuple (l : List V) (i : Nat) : ext (.tuple l) i = F.nthR l i := rfl
theorem nth_zero {α : Type} (x : α) (l : List α) : F.nthR (x :: l) 0 = some x := rfl
theorem nth_succ {α : Type} (x : α) (l : List α) (n : Nat) : F.nthR (x :: l) (n + 1) = F.nthR l n := rfl
theorem len_slice (e : TypeId) (tok : Option Ref) (f : Bool) (sz : Nat) (l : List V) : len (some (.slice e)) (.slice tok f sz l) = some (.int .i64 (.ofNat l.length)) := by
 show some (V.int .i64 (.ofNat (F.lenR l))) = _
 rw [F.lenR_eq]
theorem len_arr (e : TypeId) (r : Ref) (o n : Nat) (li : Option Nat) (sz : Nat) (ag : Bool) : len (some (.slice e)) (.arr r o n li sz ag) = some (.int .i64 (.ofNat n)) := rfl
theorem len_nils (e : TypeId) : len (some (.slice e)) .nils = some (.int .i64 (.ofNat 0)) := rfl
theorem len_str (s : Str) : len (some .string) (.str s) = some (.int .i64 (.ofNat s.n)) := rfl
theorem nl_length (k : IntKind) (d : List Nat) : (nl k d).length = d.length := by simp [nl]
theorem nl_nth (k : IntKind) (d : List Nat) (i : Nat) (h : i < d.length) : F.nthR (nl k d) i = some (.int k (.ofNat (d.getD i 0))) := by
 rw [F.nthR_eq]
 simp [nl, List.getElem?_eq_getElem h, List.getD_eq_getElem?_getD]
theorem ia_slice {t e : TypeId} {ag : Bool} (he : F.elemT P t = some e) (hl : F.layE P e = some (1, ag)) (tok : Option Ref) (f : Bool) (k k' : IntKind) (d : List Nat) (i : Nat) (h : i < d.length) :
  ia P t (.slice tok f 1 (nl k d)) (.int k' (.ofNat i)) = some (.iptr [.int k (.ofNat (d.getD i 0))]) := by
 show G.onSome (F.elemT P t) _ none = _
 rw [he]
 show G.onSome (F.layE P e) _ none = _
 rw [hl]
 show (bif Nat.blt i (F.lenR (nl k d)) then G.onSome (F.nthR (nl k d) i) _ none else none) = _
 rw [F.lenR_eq, nl_length, show Nat.blt i d.length = true from by rw [Nat.blt_eq]; exact h, nl_nth k d i h]
 rfl
theorem ia_arr {t e : TypeId} {ag : Bool} (he : F.elemT P t = some e) (hl : F.layE P e = some (1, ag)) (r : Ref) (o n : Nat) (li : Option Nat) (ag' : Bool) (k' : IntKind) (i : Nat) (h : i < n) :
  ia P t (.arr r o n li 1 ag') (.int k' (.ofNat i)) = some (.ptr r (o + i)) := by
 show G.onSome (F.elemT P t) _ none = _
 rw [he]
 show G.onSome (F.layE P e) _ none = _
 rw [hl]
 show (bif Nat.blt i n then some (V.ptr r (Nat.add o (Nat.mul i 1))) else none) = _
 rw [show Nat.blt i n = true from by rw [Nat.blt_eq]; exact h]
 show some (V.ptr r (o + i * 1)) = _
 rw [Nat.mul_one]
theorem ld_iptr {t : TypeId} (hl : F.layE P t = some (1, false)) (v : V) (cs : List V) (l : Lo) (h : Hp) : ld P t (.iptr (v :: cs)) l h = some v := by
 show G.part (F.layE P t) (v :: cs) 0 = _
 rw [hl]; rfl
noncomputable def ldc (P : Program) (t : TypeId) (g o : Nat) (row : Nat × Row) : Option V := G.onCells row.2 (fun _ cs => bif Nat.beq g row.1 then G.part (F.layE P t) cs o else none) none
theorem ld_loc (t : TypeId) (s g o : Nat) (l : Lo) (h : Hp) : ld P t (.ptr (.loc s g) o) l h = ldc P t g o (lg l s) := rfl
theorem ldc_cells {t : TypeId} (hl : F.layE P t = some (1, false)) (g o : Nat) (frz : Bool) (cs : List V) : ldc P t g o (g, .cells frz cs) = F.nthR cs o := by
 show (bif Nat.beq g g then G.part (F.layE P t) cs o else none) = _
 rw [Nat.beq_refl, hl]; rfl
noncomputable def ldg (P : Program) (t : TypeId) (o : Nat) (row : Option Row) : Option V := G.onSome row (fun row => G.onCells row (fun _ cs => G.part (F.layE P t) cs o) none) none
theorem ld_glob (t : TypeId) (r o : Nat) (l : Lo) (h : Hp) : ld P t (.ptr (.glob r) o) l h = ldg P t o (F.nthR h.rows r) := rfl
theorem ldg_cells {t : TypeId} (hl : F.layE P t = some (1, false)) (o : Nat) (frz : Bool) (cs : List V) : ldg P t o (some (.cells frz cs)) = F.nthR cs o := by
 show G.part (F.layE P t) cs o = _
 rw [hl]; rfl
theorem setAt_nl (k : IntKind) (d : List Nat) (i x : Nat) (h : i < d.length) : setAt (nl k d) i [.int k (.ofNat x)] = some (nl k (d.set i x)) := by
 unfold setAt
 simp only [List.length_cons, List.length_nil, nl_length]
 rw [show Nat.ble (i + (0 + 1)) d.length = true from by rw [Nat.ble_eq]; omega]
 simp only [cond_true, nl, Option.some.injEq, ← List.map_take, ← List.map_drop]
 rw [List.set_eq_take_append_cons_drop, if_pos h]
 simp
variable {C : Cfg} {call : CallF} {gl : Nat → Bool} {o : Oper} {t' tm : Tm} {loc : Lo} {hp : Hp} {j : V → Lo → Hp → R}
theorem gen_val {d : Nat} {v : V} {st : St} (hd : o.dst = some d) (h : stepV P C gl ⟨t', loc, hp⟩ o = some (.val v st)) : gen P C call gl o t' tm loc hp j = j v st.loc st.hp := by
 unfold gen
 rw [F.e_oneV]
 unfold oneV
 rw [h]
 simp only [putV, hd]
 show j (gt (aset st.tm d v) d) st.loc st.hp = _
 rw [gt_eq, aget_aset, if_pos rfl]
theorem gen_none {v : V} {st : St} (hd : o.dst = none) (h : stepV P C gl ⟨t', loc, hp⟩ o = some (.val v st)) : gen P C call gl o t' tm loc hp j = j (.tuple []) st.loc st.hp := by
 unfold gen
 rw [F.e_oneV]
 unfold oneV
 rw [h]
 simp only [putV, hd]
 rfl
theorem gen_stuck (h : stepV P C gl ⟨t', loc, hp⟩ o = none) : gen P C call gl o t' tm loc hp j = none := by
 unfold gen
 rw [F.e_oneV]
 unfold oneV
 rw [h]; rfl
theorem rho_gt (s : St) (i : Nat) : s.ρ i = gt s.tm i := by rw [gt_eq]; rfl
theorem opd_gt (s : St) (i : Nat) : AM.opd s.ρ (.tmp i) = gt s.tm i := rho_gt s i
theorem lc_lg (s : St) (i : Nat) : s.lc i = lg s.loc i := by unfold lg; rw [F.getR_eq]; rfl
theorem aset_lp (loc : Lo) (i : Nat) (x : Nat × Row) : aset loc i x = lp loc i x := by unfold lp; rw [F.putR_eq]; rfl
noncomputable def cvt (k : IntKind) (v : V) (f : V → R) : R := G.onInt v (fun _ n => f (.int k (F.wrapI k n))) none
theorem cvt_int (k k' : IntKind) (n : Int) (f : V → R) : cvt k (.int k' n) f = f (.int k (F.wrapI k n)) := rfl
theorem gen_convert {d x : Nat} {s t : TypeId} {ks kd : IntKind} (hd : o.dst = some d) (ho : o.op = .convert s t (.tmp x)) (h1 : P.underlying s = some (.int ks)) (h2 : P.underlying t = some (.int kd)) {k : IntKind} {n : Int} (hv : gt t' x = .int k n) :
  gen P C call gl o t' tm loc hp j = j (.int kd (F.wrapI kd n)) loc hp := by
 refine gen_val (v := .int kd (F.wrapI kd n)) (st := ⟨t', loc, hp⟩) hd ?_
 have hp1 : locV P C gl (⟨t', loc, hp⟩ : St).ρ (⟨t', loc, hp⟩ : St).lc o = some (.int kd (F.wrapI kd n), none) := by
  unfold locV
  simp only [ho, pureV, opd_gt, hv, convV, h1, h2, F.wrapI_eq, Option.map_some]
 unfold stepV
 rw [hp1]; rfl
theorem gen_box {d : Nat} {x : Operand} {t : TypeId} {v : V} (hd : o.dst = some d) (ho : o.op = .box t x) (ha : C.isArr t = false) (hg : gl d = false) (hv : AM.opd (⟨t', loc, hp⟩ : St).ρ x = v) (hl : v.live = true) :
  gen P C call gl o t' tm loc hp j = j (.ptr (.loc d ((lg loc d).1 + 1)) 0) (lp loc d ((lg loc d).1 + 1, .cells false v.cells)) hp := by
 refine gen_val (v := .ptr (.loc d ((lg loc d).1 + 1)) 0) (st := ⟨t', lp loc d ((lg loc d).1 + 1, .cells false v.cells), hp⟩) hd ?_
 have hp1 : locV P C gl (⟨t', loc, hp⟩ : St).ρ (⟨t', loc, hp⟩ : St).lc o = some (.ptr (.loc d ((lg loc d).1 + 1)) 0, some (d, (lg loc d).1 + 1, .cells false v.cells)) := by
  unfold locV
  simp only [ho, hd, ha, hg, hv, hl, lc_lg, cond_false, Bool.false_or, Bool.not_true]
 unfold stepV
 rw [hp1]
 simp only [applyL, aset_lp]
theorem al_eq {t : TypeId} {z : V} {n : Nat} (hz : F.zeroV P t = some z) (hn : F.szOf P t = some n) (hl : z.live = true) (hc : F.lenR z.cells = n) (d : Nat) (loc : Lo) (j : V → Lo → R) :
  al P t d loc j = j (.ptr (.loc d ((lg loc d).1 + 1)) 0) (lp loc d ((lg loc d).1 + 1, .cells false z.cells)) := by
 unfold al
 rw [hz, hn]
 show (bif z.live && Nat.beq (F.lenR z.cells) n then _ else none) = _
 rw [hl, hc, Nat.beq_refl]
 rfl
theorem gen_one {d : Nat} {x : Operand} {t e : TypeId} {k : IntKind} {n : Int} (hd : o.dst = some d) (ho : o.op = .buildSlice t 1 #[(0, x)]) (ha : C.isArr t = true) (hg : gl d = false) (he : elemT P t = some e) (hl : layE P e = some (1, false))
  {k0 : IntKind} {n0 : Int} (hz : zeroV P e = some (.int k0 n0)) (hv : AM.opd (⟨t', loc, hp⟩ : St).ρ x = .int k n) :
  gen P C call gl o t' tm loc hp j = j (.arr (.loc d ((lg loc d).1 + 1)) 0 1 (some 1) 1 false) (lp loc d ((lg loc d).1 + 1, .cells false [.int k n])) hp := by
 refine gen_val (v := .arr (.loc d ((lg loc d).1 + 1)) 0 1 (some 1) 1 false) (st := ⟨t', lp loc d ((lg loc d).1 + 1, .cells false [.int k n]), hp⟩) hd ?_
 have hp1 : locV P C gl (⟨t', loc, hp⟩ : St).ρ (⟨t', loc, hp⟩ : St).lc o = none := by
  unfold locV
  simp only [ho, pureV, he, hl, hz, ha, Bool.not_true, Bool.false_and, cond_false, Option.map_none]
 unfold stepV
 rw [hp1]
 unfold stepG
 simp only [ho, hd, he, hl, hz, opds, List.map_cons, List.map_nil, hv, exps, exp, exp1, V.live, V.noLoc, Bool.and_self, cond_true, ha, hg, addRow, cond_false, lc_lg, aset_lp]
 rfl
theorem gen_one1 {d : Nat} {x : Operand} {t e : TypeId} {k : IntKind} {n : Nat} (hd : o.dst = some d) (ho : o.op = .buildSlice t 1 #[(0, x)]) (ha : C.isArr t = true) (hg : gl d = false) (he : elemT P t = some e) (hl : layE P e = some (1, false))
  {k0 : IntKind} {n0 : Int} (hz : zeroV P e = some (.int k0 n0)) (hv : AM.opd (⟨t', loc, hp⟩ : St).ρ x = .int k (.ofNat n)) :
  gen P C call gl o t' tm loc hp j = j (.arr (.loc d ((lg loc d).1 + 1)) 0 1 (some 1) 1 false) (lp loc d ((lg loc d).1 + 1, .cells false (nl k [n]))) hp := gen_one hd ho ha hg he hl hz hv
theorem gen_make {d : Nat} {x : Nat} {t e : TypeId} {n b : Nat} {k1 k2 : IntKind} (hd : o.dst = some d) (ho : o.op = .makeSlice t (.tmp x) (.tmp x)) (hg : gl d = false) (he : elemT P t = some e) (hl : layE P e = some (1, false)) (hb : (P.info? e).map (·.bytes) = some b)
  (hz : zeroV P e = some (.int k2 (.ofNat 0))) (hv : gt t' x = .int k1 (.ofNat n)) (hn : n * b ≤ 70368744177664) (hn2 : n ≤ 70368744177664) :
  gen P C call gl o t' tm loc hp j = j (.arr (.loc d ((lg loc d).1 + 1)) 0 n (some n) 1 false) (lp loc d ((lg loc d).1 + 1, .cells false (nl k2 (List.replicate n 0)))) hp := by
 have hf : flat (List.replicate n (V.int k2 (.ofNat 0))) = nl k2 (List.replicate n 0) := by
  unfold flat nl
  rw [List.map_replicate]
  clear hv hn hn2
  induction n with
  | zero => rfl
  | succ n ih => rw [List.replicate_succ, List.flatMap_cons, ih]; rfl
 refine gen_val (v := .arr (.loc d ((lg loc d).1 + 1)) 0 n (some n) 1 false) (st := ⟨t', lp loc d ((lg loc d).1 + 1, .cells false (nl k2 (List.replicate n 0))), hp⟩) hd ?_
 have hp1 : locV P C gl (⟨t', loc, hp⟩ : St).ρ (⟨t', loc, hp⟩ : St).lc o = none := by
  unfold locV
  simp only [ho, pureV, Option.map_none]
 unfold stepV
 rw [hp1]
 unfold stepG
 simp only [ho, hd, opd_gt, hv, makeV, he, hl, hb, hz]
 rw [show Nat.ble n n = true from by rw [Nat.ble_eq]; exact Nat.le_refl n, show Nat.ble (n * b) maxBytes = true from by rw [Nat.ble_eq]; exact hn, show Nat.ble n maxBytes = true from by rw [Nat.ble_eq]; exact hn2]
 simp only [V.cells, List.length_cons, List.length_nil, V.live, Bool.and_self, hg, addRow, cond_false, cond_true, lc_lg, aset_lp, hf]
 rfl
def Ar (loc : Lo) (d : Nat) (v : V) (k : IntKind) (l : List Nat) : Prop :=
 (l = [] ∧ v = .nils) ∨ (l ≠ [] ∧ ∃ g, v = .arr (.loc d g) 0 l.length none 1 false ∧ lg loc d = (g, .cells false (nl k l)))
theorem flat_nl (k : IntKind) (l : List Nat) : flat (nl k l) = nl k l := by
 unfold flat nl
 induction l with
 | nil => rfl
 | cons x l ih => rw [List.map_cons, List.flatMap_cons, ih]; rfl
theorem chunk_nl (k : IntKind) (l : List Nat) : chunk 1 false l.length (nl k l) = nl k l := by
 unfold nl
 induction l with
 | nil => rfl
 | cons x l ih =>
  simp only [List.length_cons, List.map_cons, chunk, cond_false, List.headD_cons, List.drop_succ_cons, List.drop_zero, ih]
  rfl
theorem getRow_loc {s g : Nat} {row : Row} {st : St} (h : lg st.loc s = (g, row)) : getRow st (.loc s g) = some row := by
 show (bif Nat.beq (st.lc s).1 g then some (st.lc s).2 else none) = _
 rw [lc_lg, h]
 simp
theorem setRow_loc (st : St) (s g : Nat) (row : Row) : setRow st (.loc s g) row = ⟨st.tm, lp st.loc s (g, row), st.hp⟩ := by
 show (⟨st.tm, aset st.loc s (g, row), st.hp⟩ : St) = _
 rw [aset_lp]
theorem nl_append (k : IntKind) (a b : List Nat) : nl k (a ++ b) = nl k a ++ nl k b := by simp [nl]
theorem noLocL_nl (k : IntKind) (l : List Nat) : V.noLocL (nl k l) = true := by
 unfold nl
 induction l with
 | nil => rfl
 | cons x l ih => simp only [List.map_cons, V.noLocL, V.noLoc, ih, Bool.and_self]
theorem noRefsL_nl (k : IntKind) (l : List Nat) : V.noRefsL (nl k l) = true := by
 unfold nl
 induction l with
 | nil => rfl
 | cons x l ih => simp only [List.map_cons, V.noRefsL, V.noRefs, ih, Bool.and_self]
theorem fits_nl (k : IntKind) (l : List Nat) : (nl k l).all (fun v => Nat.beq v.cells.length 1 && v.cells.all V.cellOk) = true := by
 unfold nl
 induction l with
 | nil => rfl
 | cons x l ih => simp only [List.map_cons, List.all_cons, ih, Bool.and_true]; rfl
theorem gen_convert' {d x : Nat} {s t : TypeId} {ks kd : IntKind} (hd : o.dst = some d) (ho : o.op = .convert s t (.tmp x)) (h1 : P.underlying s = some (.int ks)) (h2 : P.underlying t = some (.int kd)) :
  gen P C call gl o t' tm loc hp j = cvt kd (gt t' x) (fun v => j v loc hp) := by
 have stuck : (∀ k n, gt t' x ≠ .int k n) → gen P C call gl o t' tm loc hp j = none := by
  intro hn
  refine gen_stuck ?_
  have hp1 : locV P C gl (⟨t', loc, hp⟩ : St).ρ (⟨t', loc, hp⟩ : St).lc o = none := by
   unfold locV
   simp only [ho, pureV, opd_gt, convV, h1, h2]
   cases hv : gt t' x <;> first | rfl | exact absurd hv (hn _ _)
  unfold stepV
  rw [hp1]
  unfold stepG
  simp only [ho, hd, convS, h1, h2]
 cases hv : gt t' x with
 | int k n => exact gen_convert hd ho h1 h2 hv
 | _ => rw [stuck (fun k n => by rw [hv]; simp)]; rfl
noncomputable def bx (d : Nat) (v : V) (l : Lo) (f : V → Lo → R) : R := bif v.live then f (.ptr (.loc d ((lg l d).1 + 1)) 0) (lp l d ((lg l d).1 + 1, .cells false v.cells)) else none
theorem bx_live {v : V} (hv : v.live = true) (d : Nat) (l : Lo) (f : V → Lo → R) : bx d v l f = f (.ptr (.loc d ((lg l d).1 + 1)) 0) (lp l d ((lg l d).1 + 1, .cells false v.cells)) := by unfold bx; rw [hv]; rfl
theorem bx_agg (cs : List V) (d : Nat) (l : Lo) (f : V → Lo → R) : bx d (.agg cs) l f = f (.ptr (.loc d ((lg l d).1 + 1)) 0) (lp l d ((lg l d).1 + 1, .cells false cs)) := rfl
theorem gen_box' {d x : Nat} {t : TypeId} (hd : o.dst = some d) (ho : o.op = .box t (.tmp x)) (ha : C.isArr t = false) (hg : gl d = false) :
  gen P C call gl o t' tm loc hp j = bx d (gt t' x) loc (fun v l => j v l hp) := by
 cases hl : (gt t' x).live with
 | true =>
  rw [bx_live hl]
  exact gen_box hd ho ha hg (opd_gt _ _) hl
 | false =>
  unfold bx
  rw [hl]
  refine gen_stuck ?_
  have hp1 : locV P C gl (⟨t', loc, hp⟩ : St).ρ (⟨t', loc, hp⟩ : St).lc o = none := by
   unfold locV
   simp only [ho, hd, ha, hg, opd_gt, hl, cond_false, Bool.false_or, Bool.not_false, cond_true]
  unfold stepV
  rw [hp1]
  unfold stepG
  have hv : gt t' x = .dead := by
   cases h : gt t' x <;> rw [h] at hl <;> first | rfl | simp [V.live] at hl
  simp only [ho, hd, opd_gt, hv, exp, exp1, V.live, Bool.false_and, cond_false]
noncomputable def one (d : Nat) (v : V) (l : Lo) (f : V → Lo → R) : R := G.onInt v (fun k n => f (.arr (.loc d ((lg l d).1 + 1)) 0 1 (some 1) 1 false) (lp l d ((lg l d).1 + 1, .cells false [.int k n]))) none
theorem one_int (d : Nat) (k : IntKind) (n : Nat) (l : Lo) (f : V → Lo → R) : one d (.int k (.ofNat n)) l f = f (.arr (.loc d ((lg l d).1 + 1)) 0 1 (some 1) 1 false) (lp l d ((lg l d).1 + 1, .cells false (nl k [n]))) := rfl
noncomputable def stc (P : Program) (t g off : Nat) (x : V) (row : Nat × Row) (f : Nat × Row → R) : R :=
 G.onCells row.2 (fun frz cs => Bool.rec (motive := fun _ => R)
  (bif Nat.beq g row.1 && F.allR V.cellOk x.cells && F.lenIs P t (F.lenR x.cells) then
   G.onSome (F.setAt cs off x.cells) (fun cs' => f (g, .cells false cs')) none else none) none frz) none
theorem stL_stc (t : TypeId) (s g off : Nat) (x : V) (loc : Lo) (j : Lo → R) : stL P t s g off x loc j = stc P t g off x (lg loc s) (fun row => j (lp loc s row)) := rfl
theorem stc_nl {t : TypeId} (hl : F.lenIs P t 1 = true) (off : Nat) (d : List Nat) (h : off < d.length) (g : Nat) (k' : IntKind) (n : Nat) (f : Nat × Row → R) :
  stc P t g off (.int k' (.ofNat n)) (g, .cells false (nl k' d)) f = f (g, .cells false (nl k' (d.set off n))) := by
 show (bif Nat.beq g g && true && F.lenIs P t 1 then G.onSome (F.setAt (nl k' d) off [.int k' (.ofNat n)]) _ none else none) = _
 rw [Nat.beq_refl, hl, F.e_setAt, setAt_nl k' d off n h]
 rfl
theorem stc_two {t : TypeId} (hl : F.lenIs P t 2 = true) (g : Nat) (a b x y : V) (f : Nat × Row → R) (ha : a.cellOk = true) (hb : b.cellOk = true) :
  stc P t g 0 (.agg [a, b]) (g, .cells false [x, y]) f = f (g, .cells false [a, b]) := by
 show (bif Nat.beq g g && F.allR V.cellOk [a, b] && F.lenIs P t 2 then G.onSome (F.setAt [x, y] 0 [a, b]) _ none else none) = _
 rw [Nat.beq_refl, show F.allR V.cellOk [a, b] = true from by rw [F.allR_eq]; simp [ha, hb], hl, F.e_setAt]
 rfl
theorem ldc_two {t : TypeId} (hl : F.layE P t = some (2, true)) (g : Nat) (frz : Bool) (a b : V) : ldc P t g 0 (g, .cells frz [a, b]) = some (.agg [a, b]) := by
 show (bif Nat.beq g g then G.part (F.layE P t) [a, b] 0 else none) = _
 rw [Nat.beq_refl, hl]; rfl
theorem ldc_fst {t : TypeId} (hl : F.layE P t = some (1, false)) (g : Nat) (frz : Bool) (a : V) (l : List V) : ldc P t g 0 (g, .cells frz (a :: l)) = some a := by
 rw [ldc_cells hl]; rfl
theorem ldc_snd {t : TypeId} (hl : F.layE P t = some (1, false)) (g : Nat) (frz : Bool) (a b : V) (l : List V) : ldc P t g 1 (g, .cells frz (a :: b :: l)) = some b := by
 rw [ldc_cells hl]; rfl
theorem ldc_nl {t : TypeId} (hl : F.layE P t = some (1, false)) (g : Nat) (frz : Bool) (k : IntKind) (d : List Nat) (i : Nat) (h : i < d.length) : ldc P t g i (g, .cells frz (nl k d)) = some (.int k (.ofNat (d.getD i 0))) := by
 rw [ldc_cells hl, nl_nth k d i h]
theorem slc_init {t e : TypeId} {ag : Bool} (he : F.elemT P t = some e) (hl : F.layE P e = some (1, ag)) (tok : Option Ref) (f : Bool) (k k' : IntKind) (d : List Nat) (i : Nat) (h : i < d.length) :
  slc P t (.slice tok f 1 (nl k d)) none (some (.int k' (.ofNat i))) none = some (.slice none false 1 (nl k (d.take i))) := by
 show F.sliceV P t (.slice tok f 1 (nl k d)) none (some (.ofNat i)) none = _
 unfold F.sliceV
 simp only [he, hl, Nat.beq_refl, cond_true]
 unfold F.sliceImm
 simp only [Option.getD_some, F.toNatLe, F.lenR_eq, nl_length]
 rw [show Nat.ble i d.length = true from by rw [Nat.ble_eq]; omega]
 simp only [cond_true, Option.getD_none]
 rw [show Nat.ble 0 i = true from Nat.ble_eq ▸ Nat.zero_le i]
 simp only [cond_true]
 rw [show Nat.beq i d.length = false from by
  cases hb : Nat.beq i d.length with
  | false => rfl
  | true => rw [Nat.beq_eq] at hb; omega]
 simp only [cond_false, F.takeR_eq, F.dropR_eq, List.drop_zero]
 simp [nl, List.map_take]
theorem gen_slots {t1 t2 : Tm} (h : ∀ x ∈ tmpsOf o, gt t1 x = gt t2 x) : gen P C call gl o t1 tm loc hp j = gen P C call gl o t2 tm loc hp j := by
 have hag : Agree (⟨t1, loc, hp⟩ : St).ρ (St.ρ ((⟨t1, loc, hp⟩ : St).as t2)) o := by
  intro x hx
  cases x with
  | tmp t =>
   have ht : t ∈ tmpsOf o := by unfold tmpsOf; rw [List.mem_filterMap]; exact ⟨.tmp t, hx, rfl⟩
   have := h t ht
   rw [gt_eq, gt_eq] at this
   exact this
  | _ => rfl
 have hs := stepV_as (P := P) (C := C) (gl := gl) hag
 have e2 : (⟨t1, loc, hp⟩ : St).as t2 = ⟨t2, loc, hp⟩ := rfl
 rw [e2] at hs
 unfold gen
 rw [F.e_oneV]
 unfold oneV
 rw [hs]
 cases stepV P C gl ⟨t1, loc, hp⟩ o with
 | none => rfl
 | some r =>
  have key : ∀ (st : St) (v : V), gtO (putV st o.dst v).tm o.dst = gtO (putV (st.as t2) o.dst v).tm o.dst ∧ (putV st o.dst v).loc = (putV (st.as t2) o.dst v).loc ∧ (putV st o.dst v).hp = (putV (st.as t2) o.dst v).hp := by
   intro st v
   cases o.dst with
   | none => exact ⟨rfl, rfl, rfl⟩
   | some d =>
    refine ⟨?_, rfl, rfl⟩
    show gt (aset st.tm d v) d = gt (aset t2 d v) d
    rw [gt_eq, gt_eq, aget_aset, aget_aset, if_pos rfl, if_pos rfl]
  cases r with
  | val v st =>
   show j (gtO (putV st o.dst v).tm o.dst) (putV st o.dst v).loc (putV st o.dst v).hp = j (gtO (putV (st.as t2) o.dst v).tm o.dst) (putV (st.as t2) o.dst v).loc (putV (st.as t2) o.dst v).hp
   rw [(key st v).1, (key st v).2.1, (key st v).2.2]
  | enter f args st =>
   simp only [Option.map_some, Res.as]
   show G.onSome (match call f args st.hp with
    | some (.val v h) => some (Ex.normal, putV { st with hp := h } o.dst v)
    | some (.panic v h) => some (.panic v, { st with hp := h })
    | none => none) _ none = G.onSome (match call f args st.hp with
    | some (.val v h) => some (Ex.normal, putV { (st.as t2) with hp := h } o.dst v)
    | some (.panic v h) => some (.panic v, { (st.as t2) with hp := h })
    | none => none) _ none
   cases call f args st.hp with
   | none => rfl
   | some out =>
    cases out with
    | val v h =>
     have := key { st with hp := h } v
     show j (gtO (putV { st with hp := h } o.dst v).tm o.dst) (putV { st with hp := h } o.dst v).loc (putV { st with hp := h } o.dst v).hp = j (gtO (putV { (st.as t2) with hp := h } o.dst v).tm o.dst) (putV { (st.as t2) with hp := h } o.dst v).loc (putV { (st.as t2) with hp := h } o.dst v).hp
     rw [this.1, this.2.1, this.2.2]; rfl
    | panic v h => rfl
  | panic v st => rfl
theorem getRow_arr {g : Nat} {f : Bool} {k : IntKind} {ys : List Nat} {d2 : Nat} {li : Option Nat} (h : lg loc d2 = (g, .cells f (nl k ys))) : itemsOf ⟨t', loc, hp⟩ (.arr (.loc d2 g) 0 ys.length li 1 false) = some (nl k ys) := by
 have h2 : getRow ⟨t', loc, hp⟩ (.loc d2 g) = some (.cells f (nl k ys)) := getRow_loc h
 simp only [itemsOf, h2, Nat.mul_one, Nat.zero_add, nl_length, List.drop_zero]
 rw [show Nat.ble ys.length ys.length = true from by rw [Nat.ble_eq]; exact Nat.le_refl _]
 simp only [Nat.beq_refl, Bool.or_true, Bool.and_self, cond_true]
 have := chunk_nl k ys
 rw [this]
structure ApI (P : Program) (o : Oper) (d x y t : Nat) : Prop where
 dst : o.dst = some d
 op : ∃ c, o.op = .call c ∧ c.callee = .builtin .append ∧ c.args = #[.tmp x, .tmp y] ∧ c.argTypes[0]? = some t ∧ notInt P c.argTypes[1]? = true
theorem gen_grow {d x y t e b : Nat} (hi : ApI P o d x y t) (hA : C.isArr t = true) (hg : gl d = false) (he : elemT P t = some e) (hl : layE P e = some (1, false)) (hb : byteE P e = some b) (hxy : x ≠ y)
    {k : IntKind} {l ys : List Nat} {v w : V} (hv : Ar loc d v k l) (hw : ∀ tm hp, itemsOf ⟨tm, loc, hp⟩ w = some (nl k ys)) (hys : ys ≠ []) (hn : (l.length + ys.length) * b ≤ 70368744177664) :
    ∃ v' loc', (∀ (call : CallF) (tm : Tm) (hp : Hp) (j : V → Lo → Hp → R), gen P C call gl o (pt (pt .lf x v) y w) tm loc hp j = j v' loc' hp) ∧ Ar loc' d v' k (l ++ ys) ∧ ∀ i, i ≠ d → lg loc' i = lg loc i := by
  obtain ⟨hd, c, ho, hc, ha, hty, hni⟩ := hi
  have hx : gt (pt (pt .lf x v) y w) x = v := by rw [gt_pt, if_neg (Ne.symm hxy), gt_pt, if_pos rfl]
  have hy : gt (pt (pt .lf x v) y w) y = w := by rw [gt_pt, if_pos rfl]
  have hp1 : ∀ (tm : Tm) hp, locV P C gl (⟨tm, loc, hp⟩ : St).ρ (⟨tm, loc, hp⟩ : St).lc o = none := by
    intro tm hp
    unfold locV
    simp only [ho, pureV, hc, ha, Option.map_none]
  have hne : ∀ {q : Prop}, nl k ys = [] → q := fun h => absurd (by simpa [nl] using h) hys
  have hmb : ∀ n, n ≤ 70368744177664 → Nat.ble n maxBytes = true := fun n h => by rw [Nat.ble_eq]; exact h
  rcases hv with ⟨rfl, rfl⟩ | ⟨hl0, g, rfl, hrow⟩
  · refine ⟨.arr (.loc d ((lg loc d).1 + 1)) 0 ys.length none 1 false, lp loc d ((lg loc d).1 + 1, .cells false (nl k ys)), fun call tm hp j => gen_val (st := ⟨pt (pt .lf x .nils) y w, lp loc d ((lg loc d).1 + 1, .cells false (nl k ys)), hp⟩) hd ?_, .inr ⟨by simpa using hys, (lg loc d).1 + 1, by simp, by rw [lg_lp, if_pos rfl]; simp⟩, fun i hi => by rw [lg_lp, if_neg (Ne.symm hi)]⟩
    unfold stepV
    rw [hp1]
    unfold stepG
    simp only [ho, callS, hc, hty, hd, opds, ha, List.map_cons, List.map_nil, opd_gt, hx, hy, hni, cond_true, appendV, he, hl, hb, hw, fits_nl]
    split
    · rename_i h0; exact hne h0
    · rw [hmb _ (by simpa [nl_length] using hn)]
      simp only [cond_true, hA, growArr, hg, Bool.false_and, cond_false, addRow, lc_lg, aset_lp, flat_nl, nl_length]
  · have hrow' : ∀ tm hp, getRow ⟨tm, loc, hp⟩ (.loc d g) = some (.cells false (nl k l)) := fun tm hp => getRow_loc hrow
    refine ⟨.arr (.loc d (g + 1)) 0 (l ++ ys).length none 1 false, lp (lp loc d (g, .gone)) d (g + 1, .cells false (nl k (l ++ ys))), fun call tm hp j => gen_val (st := ⟨pt (pt .lf x (.arr (.loc d g) 0 l.length none 1 false)) y w, lp (lp loc d (g, .gone)) d (g + 1, .cells false (nl k (l ++ ys))), hp⟩) hd ?_, .inr ⟨by simp [hl0], _, rfl, by rw [lg_lp, if_pos rfl]⟩, fun i hi => by rw [lg_lp, if_neg (Ne.symm hi), lg_lp, if_neg (Ne.symm hi)]⟩
    · unfold stepV
      rw [hp1]
      unfold stepG
      simp only [ho, callS, hc, hty, hd, opds, ha, List.map_cons, List.map_nil, opd_gt, hx, hy, hni, cond_true, appendV, he, hl, hb, hw, fits_nl, hrow', nl_length, Nat.beq_refl, beq_self_eq_true, Bool.and_self, Nat.zero_add, Nat.mul_one]
      rw [show Nat.ble l.length l.length = true from by rw [Nat.ble_eq]; exact Nat.le_refl _, hmb _ hn]
      simp only [Bool.and_self, cond_true]
      split
      · rename_i h0; exact hne h0
      · simp only [isLoc, Bool.not_true, Bool.false_and, cond_false]
        rw [show Nat.ble (l.length + ys.length) l.length = false from by
          cases hb : Nat.ble (l.length + ys.length) l.length with
          | false => rfl
          | true => rw [Nat.ble_eq] at hb; have : ys.length ≠ 0 := by simpa using hys
                    omega]
        simp only [cond_false, growArr, hg, Bool.false_and, setRow_loc, addRow, lc_lg, lg_lp, if_true, aset_lp, flat_nl, nl_append, List.length_append, cond_true]
theorem gen_push {d x y t e b d2 : Nat} (hi : ApI P o d x y t) (hA : C.isArr t = true) (hg : gl d = false) (he : elemT P t = some e) (hl : layE P e = some (1, false)) (hb : byteE P e = some b) (hxy : x ≠ y) (h2 : d2 ≠ d)
  {loc : Lo} {k : IntKind} {l : List Nat} {v : V} (n : Nat) (hv : Ar loc d v k l) (hn : (l.length + 1) * b ≤ 70368744177664) :
  ∃ v' loc', (∀ (call : CallF) (tm : Tm) (hp : Hp) (j : V → Lo → Hp → R), gen P C call gl o (pt (pt .lf x v) y (.arr (.loc d2 ((lg loc d2).1 + 1)) 0 1 (some 1) 1 false)) tm (lp loc d2 ((lg loc d2).1 + 1, .cells false (nl k [n]))) hp j = j v' loc' hp) ∧ Ar loc' d v' k (l ++ [n]) ∧ ∀ i, i ≠ d → i ≠ d2 → lg loc' i = lg loc i := by
 have hv' : Ar (lp loc d2 ((lg loc d2).1 + 1, .cells false (nl k [n]))) d v k l := by
  rcases hv with h | ⟨h0, g, h1, h2'⟩
  ·exact .inl h
  ·exact .inr ⟨h0, g, h1, by rw [lg_lp, if_neg h2]; exact h2'⟩
 obtain ⟨v', loc', h1, h3, h4⟩ := gen_grow (P := P) (C := C) (gl := gl) (o := o) hi hA hg he hl hb hxy (ys := [n]) (w := .arr (.loc d2 ((lg loc d2).1 + 1)) 0 1 (some 1) 1 false) hv' (fun tm hp => getRow_arr (ys := [n]) (by rw [lg_lp, if_pos rfl])) (by simp) hn
 exact ⟨v', loc', h1, h3, fun i a b => by rw [h4 i a, lg_lp, if_neg (Ne.symm b)]⟩
theorem mx_n (a b : Nat) (k k' : IntKind) : mxV (.int k (.ofNat a)) (.int k' (.ofNat b)) = some (.int k (.ofNat (max a b))) := by
 show some (V.int k (Bool.rec (motive := fun _ => Int) (.ofNat a) (.ofNat b) (F.ltI (.ofNat a) (.ofNat b)))) = _
 rw [F.ltI_eq]
 by_cases h : a < b
 ·rw [show decide ((Int.ofNat a) < Int.ofNat b) = true from by simpa using h, Nat.max_eq_right (Nat.le_of_lt h)]
 ·rw [show decide ((Int.ofNat a) < Int.ofNat b) = false from by simpa using h, Nat.max_eq_left (by omega)]
theorem mn_n (a b : Nat) (k k' : IntKind) : mnV (.int k (.ofNat a)) (.int k' (.ofNat b)) = some (.int k (.ofNat (min a b))) := by
 show some (V.int k (Bool.rec (motive := fun _ => Int) (.ofNat a) (.ofNat b) (F.ltI (.ofNat b) (.ofNat a)))) = _
 rw [F.ltI_eq]
 by_cases h : b < a
 ·rw [show decide ((Int.ofNat b) < Int.ofNat a) = true from by simpa using h, Nat.min_eq_right (Nat.le_of_lt h)]
 ·rw [show decide ((Int.ofNat b) < Int.ofNat a) = false from by simpa using h, Nat.min_eq_left (by omega)]
def Sl (k : IntKind) (v : V) (d : List Nat) : Prop := (∃ f, v = .slice none f 1 (nl k d)) ∨ (v = .nils ∧ d = [])
theorem len_sl {k : IntKind} {v : V} {d : List Nat} (h : Sl k v d) (e : TypeId) : len (some (.slice e)) v = some (.int .i64 (.ofNat d.length)) := by
 rcases h with ⟨f, rfl⟩ | ⟨rfl, rfl⟩
 ·rw [len_slice, nl_length]
 ·exact len_nils e
theorem ia_sl {t e : TypeId} {ag : Bool} (he : F.elemT P t = some e) (hl : F.layE P e = some (1, ag)) {k : IntKind} {v : V} {d : List Nat} (h : Sl k v d) (k' : IntKind) (i : Nat) (hi : i < d.length) :
  ia P t v (.int k' (.ofNat i)) = some (.iptr [.int k (.ofNat (d.getD i 0))]) := by
 rcases h with ⟨f, rfl⟩ | ⟨rfl, rfl⟩
 ·exact ia_slice he hl none f k k' d i hi
 ·simp at hi
theorem exp_Ar {loc : Lo} {d : Nat} {v : V} {k : IntKind} {l : List Nat} (h : Ar loc d v k l) : ∃ v' loc', (∀ (tm : Tm) (hp : Hp), AM.exp false ⟨tm, loc, hp⟩ v = some (v', ⟨tm, loc', hp⟩)) ∧ Sl k v' l ∧ ∀ i, i ≠ d → lg loc' i = lg loc i := by
 rcases h with ⟨rfl, rfl⟩ | ⟨h0, g, rfl, hr⟩
 ·exact ⟨.nils, loc, fun _ _ => rfl, .inr ⟨rfl, rfl⟩, fun _ _ => rfl⟩
 ·refine ⟨.slice none false 1 (nl k l), lp loc d (g, .cells true (nl k l)), fun tm hp => ?_, .inl ⟨false, rfl⟩, fun i hi => by rw [lg_lp, if_neg (Ne.symm hi)]⟩
  have h2 : getRow ⟨tm, loc, hp⟩ (.loc d g) = some (.cells false (nl k l)) := getRow_loc hr
  simp only [exp, exp1, isLoc, Bool.or_true, Bool.false_or, cond_true, freeze, h2]
  have h3 : itemsOf ⟨tm, loc, hp⟩ (.arr (.loc d g) 0 l.length none 1 false) = some (nl k l) := getRow_arr hr
  rw [h3]
  simp only [noRefsL_nl, cond_true, setRow_loc]
def Kp (l : List Nat) (t t' : Tm) : Prop := ∀ j ∈ l, gt t' j = gt t j
theorem Kp_refl (l : List Nat) (t : Tm) : Kp l t t := fun _ _ => rfl
theorem Kp_pt {l : List Nat} {t t' : Tm} {i : Nat} {v : V} (h : i ∉ l) (hk : Kp l t t') : Kp l t (pt t' i v) := fun j hj => by
 rw [gt_pt, if_neg (fun e => h (by rw [e]; exact hj))]
 exact hk j hj
section
variable {P : Program} {kn : Kn} {tbl : Nat → Option Fc}
theorem ww_join {c d : RC} {s : St} {N : St → Prop} {X : Nat → St → Prop} {Q : St → Prop} {M : St → Prop} (h1 : WW P kn tbl c s M (fun _ _ => False) (fun _ => False)) (h2 : ∀ s1, M s1 → WW P kn tbl d s1 N X Q) : WW P kn tbl (.seq c d) s N X Q :=
 ww_seq (ww_mono h1 h2 (fun _ _ h => h.elim) (fun _ h => h.elim))
theorem ww_joinX {c d : RC} {s : St} {N : St → Prop} {X : Nat → St → Prop} {Q : St → Prop} (M : St → Prop) (h1 : WW P kn tbl c s M X Q) (h2 : ∀ s1, M s1 → WW P kn tbl d s1 N X Q) : WW P kn tbl (.seq c d) s N X Q :=
 ww_seq (ww_mono h1 h2 (fun _ _ h => h) (fun _ h => h))
end
structure Pl (v : V) : Prop where
 cells : v.cells = [v]
 weak : v.weakB = v
 plain : v.plain = true
 ok : v.cellOk = true
 exp : ∀ st, exp1 false st v = some (v, st)
 expT : ∀ st, exp1 true st v = some (v, st)
 refs : v.noRefs = true
 live : v.live = true
 notAgg : ∀ cs, v ≠ .agg cs
theorem Pl.bool (b : Bool) : Pl (.bool b) := ⟨rfl, rfl, rfl, rfl, fun _ => rfl, fun _ => rfl, rfl, rfl, fun _ h => by cases h⟩
theorem Pl.nils : Pl .nils := ⟨rfl, rfl, rfl, rfl, fun _ => rfl, fun _ => rfl, rfl, rfl, fun _ h => by cases h⟩
theorem Sl.pl {k : IntKind} {v : V} {d : List Nat} (h : Sl k v d) : Pl v := by
 rcases h with ⟨f, rfl⟩ | ⟨rfl, _⟩
 ·exact ⟨rfl, rfl, rfl, rfl, fun _ => rfl, fun _ => rfl, rfl, rfl, fun _ h => by cases h⟩
 ·exact Pl.nils
theorem Pl.exp' {v : V} (h : Pl v) (st : St) : AM.exp false st v = some (v, st) := by
 have := h.exp st
 cases v with
 | agg cs => exact absurd rfl (h.notAgg cs)
 | _ => exact this
theorem Pl.expF {v : V} (h : Pl v) (st : St) : AM.exp true st v = some (v, st) := by
 have := h.expT st
 cases v with
 | agg cs => exact absurd rfl (h.notAgg cs)
 | _ => exact this
theorem exp_agg {cs : List V} (h : ∀ v ∈ cs, Pl v) (st : St) : AM.exp false st (.agg cs) = some (.agg cs, st) := by
 have key : ∀ cs : List V, (∀ v ∈ cs, Pl v) → expL false st cs = some (cs, st) := by
  intro cs
  induction cs with
  | nil => intro _; rfl
  | cons v l ih =>
   intro h
   unfold expL
   simp only [(h v (by simp)).exp st, ih (fun u hu => h u (by simp [hu]))]
 show (expL false st cs).map _ = _
 rw [key cs h]; rfl
def Ex1 (v : V) : Prop := ∀ st, AM.exp false st v = some (v, st)
def ExL : List V → Prop
 | [] => True
 | v :: l => Ex1 v ∧ ExL l
theorem exps_ex : ∀ (l : List V) (st : St), ExL l → exps false st l = some (l, st)
 | [], _, _ => rfl
 | v :: l, st, ⟨h1, h2⟩ => by
  unfold exps
  simp only [h1 st, exps_ex l st h2]
theorem clp {call : CallF} {f : FuncId} {args : List V} {tm : Tm} {loc : Lo} {hp : Hp} {j : V → Lo → Hp → R} {v : V} {h' : Hp} (he : ExL args) (hc : call f args hp = some (.val v h')) : cl call f args tm loc hp j = j v loc h' := by
 have := exps_ex args ⟨.lf, loc, hp⟩ he
 exact cl_val this hc
theorem gen_build2 {d x y : Nat} {t : TypeId} {f0 f1 : Field} {z0 z1 v w : V} (hd : o.dst = some d) (ho : o.op = .build t #[(0, .tmp x), (1, .tmp y)]) (hu : P.underlying t = some (.struct #[f0, f1])) (hz : zeroV P t = some (.agg [z0, z1]))
  (h0 : f0.offset = 0) (h1 : f1.offset = 1) (s0 : szOf P f0.type = some 1) (s1 : szOf P f1.type = some 1) (hxy : x ≠ y) (hv : Pl v) (hw : Pl w) :
  gen P C call gl o (pt (pt .lf x v) y w) tm loc hp j = j (.agg [v, w]) loc hp := by
 have hx : gt (pt (pt .lf x v) y w) x = v := by rw [gt_pt, if_neg (Ne.symm hxy), gt_pt, if_pos rfl]
 have hy : gt (pt (pt .lf x v) y w) y = w := by rw [gt_pt, if_pos rfl]
 refine gen_val (v := .agg [v, w]) (st := ⟨pt (pt .lf x v) y w, loc, hp⟩) hd ?_
 have i0 : (P.info? f0.type).isSome = true := by
  unfold szOf at s0
  cases h : P.info? f0.type with
  | none => rw [h] at s0; simp at s0
  | some i => rfl
 have i1 : (P.info? f1.type).isSome = true := by
  unfold szOf at s1
  cases h : P.info? f1.type with
  | none => rw [h] at s1; simp at s1
  | some i => rfl
 have e0 : fieldOf P t 0 = some f0 := by unfold fieldOf; rw [hu]; rfl
 have e1 : fieldOf P t 1 = some f1 := by unfold fieldOf; rw [hu]; rfl
 have hp1 : locV P C gl (⟨pt (pt .lf x v) y w, loc, hp⟩ : St).ρ (⟨pt (pt .lf x v) y w, loc, hp⟩ : St).lc o = some (.agg [v, w], none) := by
  unfold locV
  simp only [ho, pureV, hu, hz, V.live, Bool.true_and]
  have ea : (#[f0, f1] : Array Field).all (fun f => (P.info? f.type).isSome) = true := by simp [i0, i1]
  rw [ea]
  have c0 : V.cells (.agg [z0, z1]) = [z0, z1] := rfl
  simp only [cond_true, fillP, e0, e1, opd_gt, hx, hy, hv.weak, hw.weak, hv.plain, hw.plain, hv.cells, hw.cells, s0, s1, h0, h1, Option.getD_some, List.length_cons, List.length_nil, c0]
  rfl
 unfold stepV
 rw [hp1]; rfl
def two (P : Program) (t : TypeId) : Bool := match P.underlying t with
 | some (.struct fs) => (match fs.toList with
  | [f0, f1] => Nat.beq f0.offset 0 && Nat.beq f1.offset 1 && (match szOf P f0.type, szOf P f1.type with | some a, some b => Nat.beq a 1 && Nat.beq b 1 | _, _ => false)
  | _ => false)
 | _ => false
theorem gen_two {d x y : Nat} {t : TypeId} {z0 z1 v w : V} (hd : o.dst = some d) (ho : o.op = .build t #[(0, .tmp x), (1, .tmp y)]) (h2 : two P t = true) (hz : zeroV P t = some (.agg [z0, z1])) (hxy : x ≠ y) (hv : Pl v) (hw : Pl w) :
  gen P C call gl o (pt (pt .lf x v) y w) tm loc hp j = j (.agg [v, w]) loc hp := by
 unfold two at h2
 split at h2
 ·rename_i fs hu
  split at h2
  ·rename_i f0 f1 hfs
   simp only [Bool.and_eq_true] at h2
   obtain ⟨⟨a0, a1⟩, a2⟩ := h2
   have e : fs = #[f0, f1] := by apply Array.toList_inj.1; rw [hfs]
   subst e
   split at a2
   ·rename_i a b h3 h4
    simp only [Bool.and_eq_true] at a2
    have b1 : a = 1 := Nat.eq_of_beq_eq_true a2.1
    have b2 : b = 1 := Nat.eq_of_beq_eq_true a2.2
    subst b1; subst b2
    exact gen_build2 hd ho hu hz (Nat.eq_of_beq_eq_true a0) (Nat.eq_of_beq_eq_true a1) h3 h4 hxy hv hw
   ·simp at a2
  ·simp at h2
 ·simp at h2
theorem fin_cell {h : Hp} {a t d g : Nat} {f : Bool} {s : St} {x y : V} (hl : layE P t = some (2, true)) (hv : gt s.tm a = .ptr (.loc d g) 0) (hr : lg s.loc d = (g, .cells f [x, y])) (hx : Pl x) (hy : Pl y) (hd : s.hp.dirty = none) :
  fin P h [.cell a t] s = some (.val (.agg [x, y]) h) := by
 unfold fin
 have e1 : resV P s [.cell a t] = some [.agg [x, y]] := by
  simp only [resV, rho_gt, hv, getRow_loc hr, partV, hl]
  rfl
 rw [e1]
 simp only [exps, exp_agg (cs := [x, y]) (by intro v hv; simp at hv; rcases hv with rfl | rfl <;> assumption)]
 have hc : cleanB h s.hp = true := by unfold cleanB; rw [hd]
 unfold backHp
 rw [hc]
 simp only [V.noRefsL, V.noRefs, hx.refs, hy.refs, Bool.and_self, cond_true]
theorem wv_t (b : Bool) : wv (.bool b) true = some b := by cases b <;> rfl
theorem wv_f (b : Bool) : wv (.bool b) false = some (!b) := by cases b <;> rfl
theorem slc_sl {t e : TypeId} {ag : Bool} (he : F.elemT P t = some e) (hl : F.layE P e = some (1, ag)) {k : IntKind} {v : V} {d : List Nat} (h : Sl k v d) (k' : IntKind) (i : Nat) (hi : i < d.length) :
  slc P t v none (some (.int k' (.ofNat i))) none = some (.slice none false 1 (nl k (d.take i))) := by
 rcases h with ⟨f, rfl⟩ | ⟨rfl, rfl⟩
 ·exact slc_init he hl none f k k' d i hi
 ·simp at hi
theorem cells_agg (cs : List V) : (V.agg cs).cells = cs := rfl
theorem wrap_u32_int (n : Int) : F.wrapI .u32 n = .ofNat (n % 4294967296).toNat := by
 rw [F.wrapI_eq]
 have h : 0 ≤ n % 4294967296 := Int.emod_nonneg _ (by decide)
 show n % 4294967296 = _
 exact (Int.toNat_of_nonneg h).symm
theorem i_sub32 {a b : Nat} (h : b ≤ 4294967296) : G.int2 .sub .u32 (.ofNat a) (.ofNat b) = some (.int .u32 (.ofNat ((a + 4294967296 - b) % 4294967296))) := by
 show some (V.int .u32 (F.wrapI .u32 (Int.sub (.ofNat a) (.ofNat b)))) = _
 rw [wrap_u32_int]
 have e : (Int.sub (.ofNat a) (.ofNat b) % 4294967296).toNat = (a + 4294967296 - b) % 4294967296 := by
  show (((a : Int) - (b : Int)) % 4294967296).toNat = _
  omega
 rw [e]
theorem i_and32 {a b : Nat} (ha : a < 4294967296) (hb : b < 4294967296) : G.int2 .and .u32 (.ofNat a) (.ofNat b) = some (.int .u32 (.ofNat (a &&& b))) := by
 show some (V.int .u32 (IntKind.u32.wrap (BitVec.ofInt 32 (Int.ofNat a) &&& BitVec.ofInt 32 (Int.ofNat b)).toNat)) = _
 have e : (BitVec.ofInt 32 (Int.ofNat a) &&& BitVec.ofInt 32 (Int.ofNat b)).toNat = a &&& b := by
  rw [BitVec.toNat_and]
  show (BitVec.ofInt 32 (a : Int)).toNat &&& (BitVec.ofInt 32 (b : Int)).toNat = _
  rw [BitVec.toNat_ofInt, BitVec.toNat_ofInt]
  congr 1 <;> omega
 rw [e, ← F.wrapI_eq]
 congr 2
 exact wrap_u32 (Nat.lt_of_le_of_lt Nat.and_le_left ha)
theorem i_xor32 {a b : Nat} (ha : a < 4294967296) (hb : b < 4294967296) : G.int2 .xor .u32 (.ofNat a) (.ofNat b) = some (.int .u32 (.ofNat (a ^^^ b))) := by
 show some (V.int .u32 (IntKind.u32.wrap (BitVec.ofInt 32 (Int.ofNat a) ^^^ BitVec.ofInt 32 (Int.ofNat b)).toNat)) = _
 have e : (BitVec.ofInt 32 (Int.ofNat a) ^^^ BitVec.ofInt 32 (Int.ofNat b)).toNat = a ^^^ b := by
  rw [BitVec.toNat_xor]
  show (BitVec.ofInt 32 (a : Int)).toNat ^^^ (BitVec.ofInt 32 (b : Int)).toNat = _
  rw [BitVec.toNat_ofInt, BitVec.toNat_ofInt]
  congr 1 <;> omega
 rw [e, ← F.wrapI_eq]
 congr 2
 exact wrap_u32 (Nat.xor_lt_two_pow (n := 32) ha hb)
theorem un_xor32 {a : Nat} (ha : a < 4294967296) : G.un .xor (.int .u32 (.ofNat a)) = some (.int .u32 (.ofNat (4294967295 ^^^ a))) := by
 show F.binInt .xor .u32 (if IntKind.u32.signed = true then -1 else IntKind.u32.max) (.ofNat a) = _
 have e0 : (if IntKind.u32.signed = true then -1 else IntKind.u32.max) = Int.ofNat 4294967295 := rfl
 rw [e0]
 have e1 : F.binInt .xor .u32 (Int.ofNat 4294967295) (Int.ofNat a) = binInt .xor .u32 (Int.ofNat 4294967295) (Int.ofNat a) := by rw [F.e_binInt]
 rw [e1]
 exact i_xor32 (a := 4294967295) (by decide) ha
def dn : Nat → Int
 | 0 => .negSucc 0
 | n + 1 => .ofNat n
theorem i_dec {n : Nat} (h : n < 9223372036854775808) : G.int2 .sub .i64 (.ofNat n) (.ofNat 1) = some (.int .i64 (dn n)) := by
 cases n with
 | zero => rfl
 | succ m =>
  rw [i_sub (by omega), wrap_i64 (by omega)]
  rfl
theorem i_geq_neg (k : IntKind) (m n : Nat) : G.int2 .geq k (.negSucc m) (.ofNat n) = some (.bool false) := rfl
theorem i_sub_neg {k : IntKind} {a b : Nat} (h : a < b) : G.int2 .sub k (.ofNat a) (.ofNat b) = some (.int k (F.wrapI k (.negSucc (b - a - 1)))) := by
 show some (V.int k (F.wrapI k (Int.sub (.ofNat a) (.ofNat b)))) = _
 have : Int.sub (.ofNat a) (.ofNat b) = .negSucc (b - a - 1) := by
  show (a : Int) - (b : Int) = _
  omega
 rw [this]
theorem wrap_i64_neg {n : Nat} (h : n < 9223372036854775808) : F.wrapI .i64 (.negSucc n) = .negSucc n := by
 show (bif true && Nat.blt n 9223372036854775808 then Int.negSucc n else _) = _
 rw [show Nat.blt n 9223372036854775808 = true from by rw [Nat.blt_eq]; exact h]; rfl
theorem mx_neg (k k' : IntKind) (m : Nat) : mxV (.int k (.negSucc m)) (.int k' (.negSucc 0)) = some (.int k (.negSucc 0)) := by
 show some (V.int k (Bool.rec (motive := fun _ => Int) (.negSucc m) (.negSucc 0) (F.ltI (.negSucc m) (.negSucc 0)))) = _
 rw [F.ltI_eq]
 by_cases h : m = 0
 ·subst h; rfl
 ·rw [show decide (Int.negSucc m < Int.negSucc 0) = true from by rw [decide_eq_true_iff]; omega]
theorem mx_pos (k k' : IntKind) (m n : Nat) : mxV (.int k (.ofNat m)) (.int k' (.negSucc n)) = some (.int k (.ofNat m)) := rfl
theorem mn_neg (k k' : IntKind) (m n : Nat) : mnV (.int k (.negSucc m)) (.int k' (.ofNat n)) = some (.int k (.negSucc m)) := rfl
theorem fin_two {h : Hp} {a b : Nat} {s : St} {v w : V} (hv : gt s.tm a = v) (hw : gt s.tm b = w) (pv : Ex1 v) (pw : Ex1 w) (rv : v.noRefs = true) (rw' : w.noRefs = true) (hd : s.hp.dirty = none) :
  fin P h [.tmp a, .tmp b] s = some (.val (.tuple [v, w]) h) := by
 unfold fin
 have e1 : resV P s [.tmp a, .tmp b] = some [v, w] := by simp only [resV, rho_gt, hv, hw, Option.map_some]
 rw [e1]
 have e2 := exps_ex [v, w] s ⟨pv, pw, trivial⟩
 simp only [e2]
 have hc : cleanB h s.hp = true := by unfold cleanB; rw [hd]
 show some (Out.val (.tuple [v, w]) (backHp h s.hp [v, w])) = _
 unfold backHp
 rw [hc]
 simp only [V.noRefsL, rv, rw', Bool.and_self, cond_true]
theorem Ex1.int (k : IntKind) (n : Int) : Ex1 (.int k n) := fun _ => rfl
theorem bin_sh (op : BinOp) (ho : op = .shr ∨ op = .shl) (t : TypeId) (cn : Bool) (k k' : IntKind) (a b : Int) : bin P op t cn (.int k a) (.int k' b) = G.int2 op k a b := by
 show (bif Nat.beq (G.ikNum k) (G.ikNum k') then G.int2 op k a b else F.binV op (.int k a) (.int k' b)) = _
 cases h : Nat.beq (G.ikNum k) (G.ikNum k') with
 | true => rfl
 | false =>
  simp only [cond_false]
  rw [F.e_binV]
  rcases ho with rfl | rfl
  ·rfl
  ·rfl
theorem bin_shr32 (t : TypeId) (cn : Bool) (k' : IntKind) (a b : Nat) (h : b ≤ 32) : bin P .shr t cn (.int .u32 (.ofNat a)) (.int k' (.ofNat b)) = some (.int .u32 (.ofNat (a / 2 ^ b))) := by
 rw [bin_sh _ (.inl rfl), i_shr32 h]
theorem bin_shr64 (t : TypeId) (cn : Bool) (k' : IntKind) (a b : Nat) (h : b ≤ 64) : bin P .shr t cn (.int .u64 (.ofNat a)) (.int k' (.ofNat b)) = some (.int .u64 (.ofNat (a / 2 ^ b))) := by
 rw [bin_sh _ (.inl rfl), i_shr64 h]
theorem bin_shl64 (t : TypeId) (cn : Bool) (k' : IntKind) (a b : Nat) (h : b ≤ 64) : bin P .shl t cn (.int .u64 (.ofNat a)) (.int k' (.ofNat b)) = some (.int .u64 (F.wrapI .u64 (.ofNat (a * 2 ^ b)))) := by
 rw [bin_sh _ (.inr rfl), i_shl64 h]
theorem clc0 {f : FuncId} {tm : Tm} {loc : Lo} {hp h' : Hp} {j : V → Lo → Hp → R} {r : V} (hc : call f [] hp = some (.val r h')) : cl call f [] tm loc hp j = j r loc h' := clp trivial hc
theorem clc1 {f : FuncId} {v : V} {tm : Tm} {loc : Lo} {hp h' : Hp} {j : V → Lo → Hp → R} {r : V} (hc : call f [v] hp = some (.val r h')) (h1 : Ex1 v) : cl call f [v] tm loc hp j = j r loc h' := clp ⟨h1, trivial⟩ hc
theorem clc2 {f : FuncId} {v w : V} {tm : Tm} {loc : Lo} {hp h' : Hp} {j : V → Lo → Hp → R} {r : V} (hc : call f [v, w] hp = some (.val r h')) (h1 : Ex1 v) (h2 : Ex1 w) : cl call f [v, w] tm loc hp j = j r loc h' := clp ⟨h1, h2, trivial⟩ hc
theorem clc3 {f : FuncId} {v w u : V} {tm : Tm} {loc : Lo} {hp h' : Hp} {j : V → Lo → Hp → R} {r : V} (hc : call f [v, w, u] hp = some (.val r h')) (h1 : Ex1 v) (h2 : Ex1 w) (h3 : Ex1 u) : cl call f [v, w, u] tm loc hp j = j r loc h' := clp ⟨h1, h2, h3, trivial⟩ hc
theorem Ex1.bool (b : Bool) : Ex1 (.bool b) := fun _ => rfl
theorem Ex1.str (s : Str) : Ex1 (.str s) := fun _ => rfl
theorem Sl.ex {k : IntKind} {v : V} {d : List Nat} (h : Sl k v d) : Ex1 v := h.pl.exp'
theorem ldF_loc (s g o : Nat) : ldF (.ptr (.loc s g) o) = ⟨[s], [], false, false, false, false⟩ := rfl
theorem ldF_iptr (cs : List V) : ldF (.iptr cs) = ft0 := rfl
theorem settle_pure (h : Hp) : F.settle h h ⟨[], [], true, true, false, false⟩ = ⟨[], [], true, false, false, false⟩ := by
 unfold F.settle
 rw [Nat.beq_refl, Nat.beq_refl]; rfl
theorem clD_pure {f : FuncId} {args : List V} {loc : Lo} {hp : Hp} {j : JD} {x : XD} {r : V} (hc : call f args hp = some (.val r hp)) (he : ExL args) (hq : args.all quiet = true) : clD call f args loc hp j x = j r ⟨[], [], true, false, false, false⟩ loc hp := by
 unfold clD
 rw [F.allR_eq, hq, F.e_exps, exps_ex args _ he]
 show G.onSome (call f args hp) _ none = _
 rw [hc]
 show j r (F.settle hp hp ⟨[], [], true, true, false, false⟩) loc hp = _
 rw [settle_pure]
theorem cld1 {f : FuncId} {v : V} {loc : Lo} {hp : Hp} {j : JD} {x : XD} {r : V} (hc : call f [v] hp = some (.val r hp)) (h1 : Ex1 v) (q1 : quiet v = true) : clD call f [v] loc hp j x = j r ⟨[], [], true, false, false, false⟩ loc hp := clD_pure hc ⟨h1, trivial⟩ (by simp [q1])
theorem cld2 {f : FuncId} {v w : V} {loc : Lo} {hp : Hp} {j : JD} {x : XD} {r : V} (hc : call f [v, w] hp = some (.val r hp)) (h1 : Ex1 v) (h2 : Ex1 w) (q1 : quiet v = true) (q2 : quiet w = true) : clD call f [v, w] loc hp j x = j r ⟨[], [], true, false, false, false⟩ loc hp := clD_pure hc ⟨h1, h2, trivial⟩ (by simp [q1, q2])
theorem finD_ok {ops : List Oper} {P1 P2 : List (Nat × Nat)} {fs : List Foot} {x : R} (h : chk ops P1 P2 (revA fs []) = true) : finD ops P1 P2 fs x = x := by
 show (bif chk ops P1 P2 (revA fs []) then x else none) = x
 rw [h]; rfl
theorem genD_store {t : TypeId} {a x : Nat} {s g off : Nat} {J : JD} {X : XD} (ho : o.op = .store t (.tmp a) (.tmp x)) (hd : o.dst = none) (ha : gt t' a = .ptr (.loc s g) off) :
  genD P C call gl o t' loc hp J X = stc P t g off (gt t' x) (lg loc s) (fun row => J (.tuple []) ⟨[s], [s], false, false, false, false⟩ (lp loc s row) hp) := by
 have hcase : ∀ cs' : List V, locV P C gl (⟨t', loc, hp⟩ : St).ρ (⟨t', loc, hp⟩ : St).lc o = some (.tuple [], some (s, g, .cells false cs')) → genD P C call gl o t' loc hp J X = J (.tuple []) ⟨[s], [s], false, false, false, false⟩ (lp loc s (g, .cells false cs')) hp := by
  intro cs' hloc
  unfold genD
  rw [F.e_footV, F.e_oneV, F.e_rho, F.e_lcf]
  unfold footV
  rw [hloc]
  show G.onSome (oneV P C call gl ⟨t', loc, hp⟩ o) _ none = _
  unfold oneV stepV
  rw [hloc]
  simp only [applyL, putV, hd, aset_lp]
  show J (.tuple []) (F.settle hp hp ⟨[s], [s], false, false, false, false⟩) (lp loc s (g, .cells false cs')) hp = _
  have : F.settle hp hp ⟨[s], [s], false, false, false, false⟩ = ⟨[s], [s], false, false, false, false⟩ := by
   unfold F.settle
   rw [Nat.beq_refl, Nat.beq_refl]; rfl
  rw [this]
 have hnone : locV P C gl (⟨t', loc, hp⟩ : St).ρ (⟨t', loc, hp⟩ : St).lc o = none → genD P C call gl o t' loc hp J X = none := by
  intro hloc
  unfold genD
  rw [F.e_footV, F.e_rho, F.e_lcf]
  unfold footV
  rw [hloc]
  simp only [ho, opd_gt, ha]
  rfl
 unfold stc
 have hl : locV P C gl (⟨t', loc, hp⟩ : St).ρ (⟨t', loc, hp⟩ : St).lc o = (match lg loc s with
   | (g', .cells false cs) => bif Nat.beq g g' && (gt t' x).cells.all V.cellOk && lenIs P t (gt t' x).cells.length then
     (match setAt cs off (gt t' x).cells with
     | some cs' => some (.tuple [], some (s, g, .cells false cs'))
     | none => none)
    else none
   | _ => none) := by
  unfold locV
  simp only [ho, opd_gt, ha, lc_lg]
  rcases lg loc s with ⟨g', row⟩
  cases row <;> first | rfl | (rename_i f cs; cases f <;> rfl)
 cases hrow : lg loc s with
 | mk g' row =>
  rw [hrow] at hl
  cases row with
  | cells frz cs =>
   cases frz with
   | true => rw [hnone hl]; rfl
   | false =>
    show _ = (bif Nat.beq g g' && F.allR V.cellOk (gt t' x).cells && F.lenIs P t (F.lenR (gt t' x).cells) then G.onSome (F.setAt cs off (gt t' x).cells) _ none else none)
    rw [F.allR_eq, F.lenR_eq, F.e_lenIs, F.e_setAt]
    simp only [] at hl
    cases hb : (Nat.beq g g' && (gt t' x).cells.all V.cellOk && lenIs P t (gt t' x).cells.length) with
    | false => rw [hb] at hl; rw [hnone hl]; rfl
    | true =>
     rw [hb] at hl
     simp only [cond_true] at hl ⊢
     cases hs : setAt cs off (gt t' x).cells with
     | none => rw [hs] at hl; rw [hnone hl]; rfl
     | some cs' => rw [hs] at hl; rw [hcase cs' hl]; rfl
  | gone => rw [hnone hl]; rfl
  | tok => rw [hnone hl]; rfl
  | iter a b => rw [hnone hl]; rfl
  | mp a b => rw [hnone hl]; rfl
theorem exp_arr {tm : Tm} {loc : Lo} {hp : Hp} {d g : Nat} {li : Option Nat} {k : IntKind} {l : List Nat} {f0 : Bool} (h : lg loc d = (g, .cells f0 (nl k l))) :
  AM.exp false ⟨tm, loc, hp⟩ (.arr (.loc d g) 0 l.length li 1 false) = some (.slice none false 1 (nl k l), ⟨tm, lp loc d (g, .cells true (nl k l)), hp⟩) := by
 have h2 : getRow ⟨tm, loc, hp⟩ (.loc d g) = some (.cells f0 (nl k l)) := getRow_loc h
 simp only [exp, exp1, isLoc, Bool.or_true, Bool.false_or, cond_true, freeze, h2]
 have h3 : itemsOf ⟨tm, loc, hp⟩ (.arr (.loc d g) 0 l.length li 1 false) = some (nl k l) := getRow_arr h
 rw [h3]
 simp only [noRefsL_nl, cond_true, setRow_loc]
theorem cl_arr2 {f : FuncId} {d g : Nat} {li : Option Nat} {k : IntKind} {l : List Nat} {f0 : Bool} {w : V} {tm : Tm} {loc : Lo} {hp h' : Hp} {j : V → Lo → Hp → R} {r : V} {n : Nat} (hn : n = l.length) (h : lg loc d = (g, .cells f0 (nl k l)))
  (hc : call f [.slice none false 1 (nl k l), w] hp = some (.val r h')) (hw : Ex1 w) : cl call f [.arr (.loc d g) 0 n li 1 false, w] tm loc hp j = j r (lp loc d (g, .cells true (nl k l))) h' := by
 subst hn
 refine cl_val (st := ⟨.lf, lp loc d (g, .cells true (nl k l)), hp⟩) (l := [.slice none false 1 (nl k l), w]) ?_ hc
 have e2 := exps_ex [w] ⟨.lf, lp loc d (g, .cells true (nl k l)), hp⟩ ⟨hw, trivial⟩
 show exps false ⟨.lf, loc, hp⟩ (.arr (.loc d g) 0 l.length li 1 false :: [w]) = _
 rw [show ∀ (st : St) (v : V) (r : List V), exps false st (v :: r) = (match exp false st v with
  | none => none
  | some (v', st') => match exps false st' r with
   | none => none
   | some (l', st'') => some (v' :: l', st'')) from fun _ _ _ => rfl]
 rw [exp_arr h]
 simp only [e2]
def hset (h : Hp) (r : Nat) (row : Row) : Hp := ⟨h.rows.set r row, lower h.dirty r, h.mods + 1⟩
def hadd (h : Hp) (row : Row) : Hp := ⟨h.rows ++ [row], h.dirty, h.mods⟩
theorem hset_at (h : Hp) {r : Nat} {row row0 : Row} (hr : h.rows[r]? = some row0) : (hset h r row).rows[r]? = some row := by
 have : r < h.rows.length := by
  rcases Nat.lt_or_ge r h.rows.length with h1 | h1
  ·exact h1
  ·rw [List.getElem?_eq_none h1] at hr; simp at hr
 show (h.rows.set r row)[r]? = _
 rw [List.getElem?_set_self this]
theorem hset_ne (h : Hp) {r i : Nat} {row : Row} (hi : i ≠ r) : (hset h r row).rows[i]? = h.rows[i]? := by
 show (h.rows.set r row)[i]? = _
 rw [List.getElem?_set_ne (Ne.symm hi)]
theorem hset_len (h : Hp) (r : Nat) (row : Row) : (hset h r row).rows.length = h.rows.length := by
 show (h.rows.set r row).length = _
 rw [List.length_set]
theorem hadd_at (h : Hp) (row : Row) : (hadd h row).rows[h.rows.length]? = some row := by
 show (h.rows ++ [row])[h.rows.length]? = _
 simp
theorem hadd_lt (h : Hp) {i : Nat} (row : Row) (hi : i < h.rows.length) : (hadd h row).rows[i]? = h.rows[i]? := by
 show (h.rows ++ [row])[i]? = _
 rw [List.getElem?_append_left hi]
theorem hadd_len (h : Hp) (row : Row) : (hadd h row).rows.length = h.rows.length + 1 := by
 show (h.rows ++ [row]).length = _
 simp
theorem getRow_glob {tm : Tm} {loc : Lo} {h : Hp} {r : Nat} : getRow ⟨tm, loc, h⟩ (.glob r) = h.rows[r]? := rfl
theorem setRow_glob {tm : Tm} {loc : Lo} {h : Hp} {r : Nat} {row : Row} : setRow ⟨tm, loc, h⟩ (.glob r) row = ⟨tm, loc, hset h r row⟩ := rfl
theorem gen_store_glob {t : TypeId} {a x r off : Nat} {k : IntKind} {n : Nat} {d : List Nat} (ho : o.op = .store t (.tmp a) (.tmp x)) (hd : o.dst = none) (hax : a ≠ x) (hl : lenIs P t 1 = true)
  (hr : hp.rows[r]? = some (.cells false (nl k d))) (h : off < d.length) :
  gen P C call gl o (pt (pt .lf a (.ptr (.glob r) off)) x (.int k (.ofNat n))) tm loc hp j = j (.tuple []) loc (hset hp r (.cells false (nl k (d.set off n)))) := by
 have ha : gt (pt (pt .lf a (.ptr (.glob r) off)) x (.int k (.ofNat n))) a = .ptr (.glob r) off := by rw [gt_pt, if_neg (Ne.symm hax), gt_pt, if_pos rfl]
 have hx : gt (pt (pt .lf a (.ptr (.glob r) off)) x (.int k (.ofNat n))) x = .int k (.ofNat n) := by rw [gt_pt, if_pos rfl]
 refine gen_none (v := .tuple []) (st := ⟨pt (pt .lf a (.ptr (.glob r) off)) x (.int k (.ofNat n)), loc, hset hp r (.cells false (nl k (d.set off n)))⟩) hd ?_
 have hp1 : locV P C gl (⟨pt (pt .lf a (.ptr (.glob r) off)) x (.int k (.ofNat n)), loc, hp⟩ : St).ρ (⟨pt (pt .lf a (.ptr (.glob r) off)) x (.int k (.ofNat n)), loc, hp⟩ : St).lc o = none := by
  unfold locV
  simp only [ho, opd_gt, ha]
 unfold stepV
 rw [hp1]
 unfold stepG
 have he : exp false ⟨pt (pt .lf a (.ptr (.glob r) off)) x (.int k (.ofNat n)), loc, hp⟩ (.int k (.ofNat n)) = some (.int k (.ofNat n), ⟨pt (pt .lf a (.ptr (.glob r) off)) x (.int k (.ofNat n)), loc, hp⟩) := rfl
 simp only [ho, opd_gt, ha, hx, hr, he, V.cells, List.all_cons, V.cellOk, List.all_nil, Bool.and_self, List.length_cons, List.length_nil, Nat.zero_add, hl, cond_true, setAt_nl k d off n h, setRow_glob]
def Gr (h : Hp) (v : V) (k : IntKind) (l : List Nat) : Prop :=
 (l = [] ∧ v = .nils) ∨ (l ≠ [] ∧ ∃ r, v = .arr (.glob r) 0 l.length none 1 false ∧ h.rows[r]? = some (.cells false (nl k l)))
theorem gen_growGs {d x y t e b : Nat} (hi : ApI P o d x y t) (hA : C.isArr t = true) (hg : gl d = true) (he : elemT P t = some e) (hl : layE P e = some (1, false)) (hb : byteE P e = some b) (hxy : x ≠ y)
    {loc : Lo} {k : IntKind} {l ys : List Nat} {v w : V} (hv : Gr hp v k l) (hit : ∀ tm, itemsOf ⟨tm, loc, hp⟩ w = some (nl k ys)) (hys : ys ≠ []) (hn : (l.length + ys.length) * b ≤ 70368744177664) :
    ∃ h', (∀ (call : CallF) (tm : Tm) (j : V → Lo → Hp → R), gen P C call gl o (pt (pt .lf x v) y w) tm loc hp j = j (.arr (.glob hp.rows.length) 0 (l.length + ys.length) none 1 false) loc h') ∧
      h'.rows[hp.rows.length]? = some (.cells false (nl k (l ++ ys))) ∧ h'.rows.length = hp.rows.length + 1 ∧
      (∀ i, i < hp.rows.length → v ≠ .arr (.glob i) 0 l.length none 1 false → h'.rows[i]? = hp.rows[i]?) ∧ (h' = hadd hp (.cells false (nl k (l ++ ys))) ∨ ∃ r, v = .arr (.glob r) 0 l.length none 1 false ∧ h' = hadd (hset hp r .gone) (.cells false (nl k (l ++ ys)))) := by
  obtain ⟨hd, c, ho, hc, ha, hty, hni⟩ := hi
  have hx : gt (pt (pt .lf x v) y w) x = v := by rw [gt_pt, if_neg (Ne.symm hxy), gt_pt, if_pos rfl]
  have hy : gt (pt (pt .lf x v) y w) y = w := by rw [gt_pt, if_pos rfl]
  have hp1 : locV P C gl (⟨pt (pt .lf x v) y w, loc, hp⟩ : St).ρ (⟨pt (pt .lf x v) y w, loc, hp⟩ : St).lc o = none := by
    unfold locV
    simp only [ho, pureV, hc, ha, Option.map_none]
  have hne : ∀ {q : Prop}, nl k ys = [] → q := fun h => absurd (by simpa [nl] using h) hys
  have hmb : ∀ n, n ≤ 70368744177664 → Nat.ble n maxBytes = true := fun n h => by rw [Nat.ble_eq]; exact h
  rcases hv with ⟨rfl, rfl⟩ | ⟨hl0, r, rfl, hrow⟩
  · refine ⟨hadd hp (.cells false (nl k ys)), fun call tm j => gen_val (v := .arr (.glob hp.rows.length) 0 (([] : List Nat).length + ys.length) none 1 false) (st := ⟨pt (pt .lf x .nils) y w, loc, hadd hp (.cells false (nl k ys))⟩) hd ?_, hadd_at _ _, hadd_len _ _, fun i hi _ => hadd_lt _ _ hi, .inl rfl⟩
    unfold stepV
    rw [hp1]
    unfold stepG
    simp only [ho, callS, hc, hty, hd, opds, ha, List.map_cons, List.map_nil, opd_gt, hx, hy, hni, cond_true, appendV, he, hl, hb, hit, fits_nl]
    split
    · rename_i h0; exact hne h0
    · rw [hmb _ (by simpa [nl_length] using hn)]
      simp only [cond_true, hA, growArr, hg, Bool.true_and, addRow, flat_nl, noLocL_nl, Bool.not_true, cond_false, nl_length, List.length_nil, Nat.zero_add]
      rfl
  · refine ⟨hadd (hset hp r .gone) (.cells false (nl k (l ++ ys))), fun call tm j => gen_val (v := .arr (.glob hp.rows.length) 0 (l.length + ys.length) none 1 false) (st := ⟨pt (pt .lf x (.arr (.glob r) 0 l.length none 1 false)) y w, loc, hadd (hset hp r .gone) (.cells false (nl k (l ++ ys)))⟩) hd ?_, ?_, ?_, ?_, .inr ⟨r, rfl, rfl⟩⟩
    · unfold stepV
      rw [hp1]
      unfold stepG
      simp only [ho, callS, hc, hty, hd, opds, ha, List.map_cons, List.map_nil, opd_gt, hx, hy, hni, cond_true, appendV, he, hl, hb, hit, fits_nl, getRow_glob, hrow, nl_length, Nat.beq_refl, beq_self_eq_true, Bool.and_self, Nat.zero_add, Nat.mul_one]
      rw [show Nat.ble l.length l.length = true from by rw [Nat.ble_eq]; exact Nat.le_refl _, hmb _ hn]
      simp only [Bool.and_self, cond_true]
      split
      · rename_i h0; exact hne h0
      · simp only [isLoc, Bool.not_false, Bool.true_and, flat_nl, noLocL_nl, Bool.not_true, cond_false]
        rw [show Nat.ble (l.length + ys.length) l.length = false from by
          cases hb : Nat.ble (l.length + ys.length) l.length with
          | false => rfl
          | true => rw [Nat.ble_eq] at hb; have : ys.length ≠ 0 := by simpa using hys
                    omega]
        simp only [cond_false, growArr, hg, Bool.true_and, setRow_glob, addRow, cond_true, hset_len, ← nl_append, noLocL_nl, Bool.not_true]
        rfl
    · have := hadd_at (hset hp r .gone) (.cells false (nl k (l ++ ys)))
      rw [hset_len] at this; exact this
    · rw [hadd_len, hset_len]
    · intro i hi hne
      rw [hadd_lt _ _ (by rw [hset_len]; exact hi)]
      exact hset_ne _ (fun e => hne (by rw [e]))
theorem ldg_nl {t : TypeId} (hl : F.layE P t = some (1, false)) (frz : Bool) (k : IntKind) (d : List Nat) (i : Nat) (h : i < d.length) : ldg P t i (some (.cells frz (nl k d))) = some (.int k (.ofNat (d.getD i 0))) := by
 rw [ldg_cells hl, nl_nth k d i h]
theorem gen_empty {d : Nat} {t e : TypeId} {z : V} (hd : o.dst = some d) (ho : o.op = .buildSlice t 0 #[]) (ha : C.isArr t = true) (hg : gl d = false) (he : elemT P t = some e) (hl : layE P e = some (1, false)) (hz : zeroV P e = some z) (hz1 : z.live = true) (hz2 : z.cells.length = 1) :
  gen P C call gl o t' tm loc hp j = j (.arr (.loc d ((lg loc d).1 + 1)) 0 0 (some 0) 1 false) (lp loc d ((lg loc d).1 + 1, .cells false [])) hp := by
 refine gen_val (v := .arr (.loc d ((lg loc d).1 + 1)) 0 0 (some 0) 1 false) (st := ⟨t', lp loc d ((lg loc d).1 + 1, .cells false []), hp⟩) hd ?_
 have hp1 : locV P C gl (⟨t', loc, hp⟩ : St).ρ (⟨t', loc, hp⟩ : St).lc o = none := by
  unfold locV
  simp only [ho, pureV, he, hl, hz, ha, Bool.not_true, Bool.false_and, cond_false, Option.map_none]
 unfold stepV
 rw [hp1]
 unfold stepG
 simp only [ho, hd, he, hl, hz, opds, List.map_nil, exps, ha, hz1, hz2, hg, addRow, cond_false, lc_lg, aset_lp]
 rfl
theorem gen_clone {d x y t e b s g : Nat} (hi : ApI P o d x y t) (hA : C.isArr t = true) (hg : gl d = true) (he : elemT P t = some e) (hl : layE P e = some (1, false)) (hb : byteE P e = some b) (hxy : x ≠ y)
    {loc : Lo} {k : IntKind} {ys : List Nat} {w : V} (hs : lg loc s = (g, .cells false [])) (hit : ∀ tm, itemsOf ⟨tm, loc, hp⟩ w = some (nl k ys)) (hys : ys ≠ []) (hn : ys.length * b ≤ 70368744177664) (call : CallF) (tm : Tm) (j : V → Lo → Hp → R) :
    gen P C call gl o (pt (pt .lf x (.arr (.loc s g) 0 0 (some 0) 1 false)) y w) tm loc hp j = j (.arr (.glob hp.rows.length) 0 ys.length none 1 false) loc (hadd hp (.cells false (nl k ys))) := by
  obtain ⟨hd, c, ho, hc, ha, hty, hni⟩ := hi
  generalize hv : V.arr (.loc s g) 0 0 (some 0) 1 false = v
  have hx : gt (pt (pt .lf x v) y w) x = v := by rw [gt_pt, if_neg (Ne.symm hxy), gt_pt, if_pos rfl]
  have hy : gt (pt (pt .lf x v) y w) y = w := by rw [gt_pt, if_pos rfl]
  have hp1 : locV P C gl (⟨pt (pt .lf x v) y w, loc, hp⟩ : St).ρ (⟨pt (pt .lf x v) y w, loc, hp⟩ : St).lc o = none := by
    unfold locV
    simp only [ho, pureV, hc, ha, Option.map_none]
  have hne : ∀ {q : Prop}, nl k ys = [] → q := fun h => absurd (by simpa [nl] using h) hys
  have hmb : ∀ n, n ≤ 70368744177664 → Nat.ble n maxBytes = true := fun n h => by rw [Nat.ble_eq]; exact h
  have hrow' : ∀ tm hp, getRow ⟨tm, loc, hp⟩ (.loc s g) = some (.cells false []) := fun tm hp => getRow_loc hs
  refine gen_val (v := .arr (.glob hp.rows.length) 0 ys.length none 1 false) (st := ⟨pt (pt .lf x v) y w, loc, hadd hp (.cells false (nl k ys))⟩) hd ?_
  unfold stepV
  rw [hp1]
  unfold stepG
  simp only [ho, callS, hc, hty, hd, opds, ha, List.map_cons, List.map_nil, opd_gt, hx, hy, hni, cond_true, appendV, he, hl, hb, hit, fits_nl]
  subst hv
  simp only [Nat.beq_refl, beq_self_eq_true, Bool.and_self, cond_true, hrow', Nat.zero_mul, Nat.zero_add, List.length_nil, nl_length]
  rw [hmb _ hn]
  simp only [show Nat.ble 0 0 = true from rfl, Bool.and_self, cond_true]
  split
  · rename_i h0; exact hne h0
  · simp only [isLoc, Bool.not_true, Bool.false_and, cond_false]
    rw [show Nat.ble ys.length 0 = false from by
      cases hb : Nat.ble ys.length 0 with
      | false => rfl
      | true => rw [Nat.ble_eq] at hb; have : ys.length ≠ 0 := by simpa using hys
                omega]
    simp only [cond_false, growArr, hg, Bool.true_and, List.drop_nil, List.take_nil, List.nil_append, flat_nl, noLocL_nl, Bool.not_true, addRow, cond_true]
    rfl
theorem items_sl {k : IntKind} {v : V} {d : List Nat} (h : Sl k v d) (st : St) : itemsOf st v = some (nl k d) := by
 rcases h with ⟨f, rfl⟩ | ⟨rfl, rfl⟩ <;> rfl
theorem items_glob {tm : Tm} {loc : Lo} {h : Hp} {r off len : Nat} {li : Option Nat} {k : IntKind} {L : List Nat} {f : Bool} (hr : h.rows[r]? = some (.cells f (nl k L))) (hl : off + len ≤ L.length) :
  itemsOf ⟨tm, loc, h⟩ (.arr (.glob r) off len li 1 false) = some (nl k ((L.drop off).take len)) := by
 simp only [itemsOf, getRow_glob, hr, Nat.mul_one, nl_length]
 rw [show Nat.ble (off + len) L.length = true from by rw [Nat.ble_eq]; exact hl]
 simp only [Nat.beq_refl, Bool.or_true, Bool.and_self, cond_true, Option.some.injEq]
 have e1 : (nl k L).drop off = nl k (L.drop off) := by simp [nl]
 rw [e1]
 have key : ∀ (n : Nat) (l : List Nat), n ≤ l.length → chunk 1 false n (nl k l) = nl k (l.take n) := by
  intro n
  induction n with
  | zero => intro l _; rfl
  | succ n ih =>
   intro l hl
   cases l with
   | nil => simp at hl
   | cons x l =>
    simp only [nl, List.map_cons, List.take_succ_cons, chunk, cond_false, List.headD_cons, List.drop_succ_cons, List.drop_zero]
    rw [show V.unagg (.int k (.ofNat x)) = .int k (.ofNat x) from rfl]
    congr 1
    exact ih l (by simpa using hl)
 exact key len (L.drop off) (by simp; omega)
theorem Ex1.glob (r off len : Nat) (li : Option Nat) (sz : Nat) (ag : Bool) : Ex1 (.arr (.glob r) off len li sz ag) := fun _ => rfl
theorem slc_arr {t e : TypeId} {ag0 : Bool} (he : F.elemT P t = some e) (hl : F.layE P e = some (1, ag0)) (r : Ref) (off len : Nat) (ag : Bool) (k' : IntKind) (i : Nat) (hi : i ≤ len) :
  slc P t (.arr r off len none 1 ag) none (some (.int k' (.ofNat i))) none = some (.arr r off i none 1 ag) := by
 show F.sliceV P t (.arr r off len none 1 ag) none (some (.ofNat i)) none = _
 unfold F.sliceV
 simp only [he, hl, Nat.beq_refl, cond_true]
 unfold F.sliceArr
 simp only [Option.getD_some, F.toNatLe]
 rw [show Nat.ble i len = true from by rw [Nat.ble_eq]; exact hi]
 simp only [cond_true, Option.getD_none, show Nat.ble 0 i = true from Nat.ble_eq ▸ Nat.zero_le i, show (Nat.beq 0 0) = true from rfl, Bool.not_true, Bool.and_false, cond_false, Nat.zero_mul, Nat.add_zero, Nat.sub_zero]
theorem gen_two_arr {d x y : Nat} {t : TypeId} {z0 z1 w : V} {r n : Nat} {li : Option Nat} {k : IntKind} {L : List Nat} {f0 : Bool} (hd : o.dst = some d) (ho : o.op = .build t #[(0, .tmp x), (1, .tmp y)]) (h2 : two P t = true) (hz : zeroV P t = some (.agg [z0, z1])) (hxy : x ≠ y)
  (hr : hp.rows[r]? = some (.cells f0 (nl k L))) (hn : n ≤ L.length) (hw : Pl w) :
  gen P C call gl o (pt (pt .lf x (.arr (.glob r) 0 n li 1 false)) y w) tm loc hp j = j (.agg [.slice none false 1 (nl k (L.take n)), w]) loc (hset hp r (.cells true (nl k L))) := by
 unfold two at h2
 split at h2
 ·rename_i fs hu
  split at h2
  ·rename_i f0' f1 hfs
   simp only [Bool.and_eq_true] at h2
   obtain ⟨⟨a0, a1⟩, a2⟩ := h2
   have e : fs = #[f0', f1] := by apply Array.toList_inj.1; rw [hfs]
   subst e
   split at a2
   ·rename_i a b s0 s1
    simp only [Bool.and_eq_true] at a2
    have b1 : a = 1 := Nat.eq_of_beq_eq_true a2.1
    have b2 : b = 1 := Nat.eq_of_beq_eq_true a2.2
    subst b1; subst b2
    have o0 : f0'.offset = 0 := Nat.eq_of_beq_eq_true a0
    have o1 : f1.offset = 1 := Nat.eq_of_beq_eq_true a1
    generalize hv : V.arr (.glob r) 0 n li 1 false = v
    have hx : gt (pt (pt .lf x v) y w) x = v := by rw [gt_pt, if_neg (Ne.symm hxy), gt_pt, if_pos rfl]
    have hy : gt (pt (pt .lf x v) y w) y = w := by rw [gt_pt, if_pos rfl]
    have i0 : (P.info? f0'.type).isSome = true := by
     unfold szOf at s0
     cases h : P.info? f0'.type with
     | none => rw [h] at s0; simp at s0
     | some i => rfl
    have i1 : (P.info? f1.type).isSome = true := by
     unfold szOf at s1
     cases h : P.info? f1.type with
     | none => rw [h] at s1; simp at s1
     | some i => rfl
    have e0 : fieldOf P t 0 = some f0' := by unfold fieldOf; rw [hu]; rfl
    have e1 : fieldOf P t 1 = some f1 := by unfold fieldOf; rw [hu]; rfl
    have ea : (#[f0', f1] : Array Field).all (fun f => (P.info? f.type).isSome) = true := by simp [i0, i1]
    have hplain : v.weakB.plain = false := by subst hv; rfl
    refine gen_val (v := .agg [.slice none false 1 (nl k (L.take n)), w]) (st := ⟨pt (pt .lf x v) y w, loc, hset hp r (.cells true (nl k L))⟩) hd ?_
    have hp1 : locV P C gl (⟨pt (pt .lf x v) y w, loc, hp⟩ : St).ρ (⟨pt (pt .lf x v) y w, loc, hp⟩ : St).lc o = none := by
     unfold locV
     simp only [ho, pureV, hu, hz, V.live, Bool.true_and]
     rw [ea]
     simp only [cond_true, fillP, e0, opd_gt, hx, hplain, Bool.false_and, cond_false, Option.map_none]
    unfold stepV
    rw [hp1]
    unfold stepG
    have hex : exps true ⟨pt (pt .lf x v) y w, loc, hp⟩ [v, w] = some ([.slice none false 1 (nl k (L.take n)), w], ⟨pt (pt .lf x v) y w, loc, hset hp r (.cells true (nl k L))⟩) := by
     subst hv
     have h1 : exp true ⟨pt (pt .lf x (.arr (.glob r) 0 n li 1 false)) y w, loc, hp⟩ (.arr (.glob r) 0 n li 1 false) = some (.slice none false 1 (nl k (L.take n)), ⟨pt (pt .lf x (.arr (.glob r) 0 n li 1 false)) y w, loc, hset hp r (.cells true (nl k L))⟩) := by
      simp only [exp, exp1, Bool.true_or, cond_true, freeze, getRow_glob, hr]
      have h3 := items_glob (tm := pt (pt .lf x (.arr (.glob r) 0 n li 1 false)) y w) (loc := loc) (li := li) hr (off := 0) (len := n) (by omega)
      rw [List.drop_zero] at h3
      rw [h3]
      simp only [noRefsL_nl, cond_true, setRow_glob]
     rw [show ∀ (st : St) (v : V) (r : List V), exps true st (v :: r) = (match exp true st v with
      | none => none
      | some (v', st') => match exps true st' r with
       | none => none
       | some (l', st'') => some (v' :: l', st'')) from fun _ _ _ => rfl]
     rw [h1]
     simp only [exps, hw.expF]
    have ez : V.cells (.agg [z0, z1]) = [z0, z1] := rfl
    have pls : Pl (.slice none false 1 (nl k (L.take n))) := (Sl.pl (.inl ⟨false, rfl⟩ : Sl k (.slice none false 1 (nl k (L.take n))) (L.take n)))
    simp only [ho, opds, List.map_cons, List.map_nil, opd_gt, hx, hy, hu, hz, hex, V.live, Bool.true_and]
    rw [ea]
    simp only [Bool.not_true, cond_false]
    show (match fillP P t (fun i => [V.slice none false 1 (nl k (L.take n)), w].getD i .dead) [(0, .tmp 0), (1, .tmp 1)] (V.cells (.agg [z0, z1])) with
     | some cs => some (Res.val (.agg cs) _)
     | none => none) = _
    have ef : fillP P t (fun i => [V.slice none false 1 (nl k (L.take n)), w].getD i .dead) [(0, .tmp 0), (1, .tmp 1)] (V.cells (.agg [z0, z1])) = some [.slice none false 1 (nl k (L.take n)), w] := by
     have q0 : AM.opd (fun i => [V.slice none false 1 (nl k (L.take n)), w].getD i .dead) (.tmp 0) = .slice none false 1 (nl k (L.take n)) := rfl
     have q1 : AM.opd (fun i => [V.slice none false 1 (nl k (L.take n)), w].getD i .dead) (.tmp 1) = w := rfl
     simp only [fillP, e0, e1, q0, q1, pls.weak, pls.plain, pls.cells, hw.weak, hw.plain, hw.cells, s0, s1, o0, o1, ez, Option.getD_some, List.length_cons, List.length_nil]
     rfl
    rw [ef]
   ·simp at a2
  ·simp at h2
 ·simp at h2
theorem fin_cellH {h : Hp} {a t d g : Nat} {f : Bool} {s : St} {x y : V} (hl : layE P t = some (2, true)) (hv : gt s.tm a = .ptr (.loc d g) 0) (hr : lg s.loc d = (g, .cells f [x, y])) (hx : Pl x) (hy : Pl y) :
  fin P h [.cell a t] s = some (.val (.agg [x, y]) (backHp h s.hp [.agg [x, y]])) := by
 unfold fin
 have e1 : resV P s [.cell a t] = some [.agg [x, y]] := by
  simp only [resV, rho_gt, hv, getRow_loc hr, partV, hl]
  rfl
 rw [e1]
 simp only [exps, exp_agg (cs := [x, y]) (by intro v hv; simp at hv; rcases hv with rfl | rfl <;> assumption)]
def DG (n : Nat) (h : Hp) : Prop := ∀ x, h.dirty = some x → n ≤ x
theorem DG.set {n : Nat} {h : Hp} (hd : DG n h) {r : Nat} (hr : n ≤ r) (row : Row) : DG n (hset h r row) := by
 intro x hx
 have hx : lower h.dirty r = some x := hx
 cases hq : h.dirty with
 | none => rw [hq] at hx; simp [lower] at hx; omega
 | some y =>
  have := hd y hq
  rw [hq] at hx
  simp [lower] at hx
  omega
theorem DG.add {n : Nat} {h : Hp} (hd : DG n h) (row : Row) : DG n (hadd h row) := hd
theorem DG.back {n : Nat} {h h' : Hp} (h1 : DG n h) (h2 : DG n h') (l : List V) : DG n (backHp h h' l) := by
 unfold backHp
 cases cleanB h h' with
 | true =>
  cases V.noRefsL l with
  | true => exact h1
  | false => exact h1
 | false =>
  intro x hx
  simp only [cond_false] at hx
  cases ha : h.dirty with
  | none => rw [ha] at hx; exact h2 x hx
  | some a =>
   cases hb : h'.dirty with
   | none => rw [ha, hb] at hx; simp at hx; have := h1 a ha; omega
   | some b =>
    rw [ha, hb] at hx
    have e1 := h1 a ha; have e2 := h2 b hb
    simp at hx
    omega
theorem back_rows {h h' : Hp} {l : List V} (hl : V.noRefsL l = false) : (backHp h h' l).rows = h'.rows := by
 unfold backHp
 rw [hl]
 cases cleanB h h' <;> rfl
def Gs (h : Hp) (v : V) (k : IntKind) (l : List Nat) : Prop :=
 (l = [] ∧ v = .nils) ∨ (∃ r L, v = .arr (.glob r) 0 l.length none 1 false ∧ h.rows[r]? = some (.cells false (nl k L)) ∧ L.take l.length = l ∧ l.length ≤ L.length ∧ 0 < L.length)
theorem Gs.items {h : Hp} {v : V} {k : IntKind} {l : List Nat} (hv : Gs h v k l) (tm : Tm) (loc : Lo) : itemsOf ⟨tm, loc, h⟩ v = some (nl k l) := by
 rcases hv with ⟨rfl, rfl⟩ | ⟨r, L, rfl, hr, ht, hl, _⟩
 ·rfl
 ·have := items_glob (tm := tm) (loc := loc) (li := none) hr (off := 0) (len := l.length) (by omega)
  rw [List.drop_zero, ht] at this
  exact this
structure Pushed (hp h' : Hp) (v v' : V) (k : IntKind) (l l' : List Nat) : Prop where
 gs : Gs h' v' k l'
 len : hp.rows.length ≤ h'.rows.length
 same : ∀ i, i < hp.rows.length → v ≠ .arr (.glob i) 0 l.length none 1 false → h'.rows[i]? = hp.rows[i]?
 dg : ∀ n0, DG n0 hp → (∀ r, v = .arr (.glob r) 0 l.length none 1 false → n0 ≤ r) → n0 ≤ hp.rows.length → DG n0 h' ∧ ∀ r, v' = .arr (.glob r) 0 l'.length none 1 false → n0 ≤ r
theorem gen_pushG {d x y t e b : Nat} (hi : ApI P o d x y t) (hA : C.isArr t = true) (hg : gl d = true) (he : elemT P t = some e) (hl : layE P e = some (1, false)) (hb : byteE P e = some b) (hxy : x ≠ y)
  {loc : Lo} {k : IntKind} {l : List Nat} {v w : V} {n : Nat} (hv : Gs hp v k l) (hit : ∀ tm, itemsOf ⟨tm, loc, hp⟩ w = some (nl k [n])) (hn : (l.length + 1) * b ≤ 70368744177664) :
  ∃ v' h', (∀ (call : CallF) (tm : Tm) (j : V → Lo → Hp → R), gen P C call gl o (pt (pt .lf x v) y w) tm loc hp j = j v' loc h') ∧ Pushed hp h' v v' k l (l ++ [n]) := by
 have grow : ∀ (hv : Gr hp v k l), ∃ v' h', (∀ (call : CallF) (tm : Tm) (j : V → Lo → Hp → R), gen P C call gl o (pt (pt .lf x v) y w) tm loc hp j = j v' loc h') ∧ Pushed hp h' v v' k l (l ++ [n]) := by
  intro hv
  obtain ⟨h', h1, h2, h3, h4, h5⟩ := gen_growGs (P := P) (C := C) (gl := gl) (o := o) hi hA hg he hl hb hxy hv hit (by simp) (by simpa using hn)
  refine ⟨_, h', h1, ⟨.inr ⟨hp.rows.length, l ++ [n], by simp, h2, by rw [List.take_length], Nat.le_refl _, by simp⟩, by omega, h4, fun n0 a b c => ?_⟩⟩
  have e : DG n0 h' := by
   rcases h5 with rfl | ⟨r, hr, rfl⟩
   ·exact a
   ·exact DG.add (a.set (b r hr) .gone) _
  exact ⟨e, fun r hr => by injection hr with h1; injection h1 with h1; omega⟩
 rcases hv with h | ⟨r, L, rfl, hrow, ht, hlL, hL0⟩
 ·exact grow (.inl h)
 ·by_cases hfull : l.length = L.length
  ·have e : L = l := by rw [← ht, hfull, List.take_length]
   subst e
   exact grow (.inr ⟨by intro h; rw [h] at hL0; simp at hL0, r, rfl, hrow⟩)
  ·obtain ⟨hd, c, ho, hc, ha, hty, hni⟩ := hi
   generalize hvv : V.arr (.glob r) 0 l.length none 1 false = v at *
   have hx : gt (pt (pt .lf x v) y w) x = v := by rw [gt_pt, if_neg (Ne.symm hxy), gt_pt, if_pos rfl]
   have hy : gt (pt (pt .lf x v) y w) y = w := by rw [gt_pt, if_pos rfl]
   have hp1 : locV P C gl (⟨pt (pt .lf x v) y w, loc, hp⟩ : St).ρ (⟨pt (pt .lf x v) y w, loc, hp⟩ : St).lc o = none := by
    unfold locV
    simp only [ho, pureV, hc, ha, Option.map_none]
   have hmb : ∀ n, n ≤ 70368744177664 → Nat.ble n maxBytes = true := fun n h => by rw [Nat.ble_eq]; exact h
   refine ⟨.arr (.glob r) 0 (l.length + 1) none 1 false, hset hp r (.cells false (nl k (L.set l.length n))), fun call tm j => gen_val (st := ⟨pt (pt .lf x v) y w, loc, hset hp r (.cells false (nl k (L.set l.length n)))⟩) hd ?_, ⟨.inr ⟨r, L.set l.length n, by simp, hset_at _ hrow, ?_, by simp; omega, by simpa using hL0⟩, by rw [hset_len]; exact Nat.le_refl _, fun i hi hne => hset_ne _ (fun e => hne (by rw [← hvv, e])), fun n0 a b c => ⟨a.set (b r hvv.symm) _, fun r' hr' => by injection hr' with h1; injection h1 with h1; have := b r hvv.symm; omega⟩⟩⟩
   ·unfold stepV
    rw [hp1]
    unfold stepG
    simp only [ho, callS, hc, hty, hd, opds, ha, List.map_cons, List.map_nil, opd_gt, hx, hy, hni, cond_true, appendV, he, hl, hb, hit, fits_nl]
    subst hvv
    simp only [getRow_glob, hrow, nl_length, Nat.beq_refl, beq_self_eq_true, Bool.and_self, Nat.zero_add, Nat.mul_one, List.length_cons, List.length_nil]
    rw [show Nat.ble l.length L.length = true from by rw [Nat.ble_eq]; exact hlL, hmb _ hn]
    simp only [Bool.and_self, cond_true]
    rw [show nl k [n] = [V.int k (.ofNat n)] from rfl]
    simp only [isLoc, Bool.not_false, Bool.true_and]
    have hfl : flat [V.int k (Int.ofNat n)] = [V.int k (Int.ofNat n)] := rfl
    rw [hfl, show (!V.noLocL [V.int k (Int.ofNat n)]) = false from rfl]
    simp only [cond_false]
    rw [show Nat.ble (l.length + 1) L.length = true from by rw [Nat.ble_eq]; omega]
    simp only [cond_true, setAt_nl k L l.length n (by omega), setRow_glob]
   ·rw [List.length_append, List.length_cons, List.length_nil, List.take_add_one, List.getElem?_set_self (by omega), List.take_set, List.set_eq_of_length_le (by simp; omega), ht]
    rfl
theorem ldF_glob (r o : Nat) : ldF (.ptr (.glob r) o) = ⟨[], [], true, false, true, false⟩ := rfl
theorem genD_store_glob {t : TypeId} {a x r off n : Nat} {k : IntKind} {d : List Nat} {t' : Tm} {J : JD} {X : XD} (ho : o.op = .store t (.tmp a) (.tmp x)) (hd : o.dst = none) (hl : lenIs P t 1 = true) (ha : gt t' a = .ptr (.glob r) off) (hx : gt t' x = .int k (.ofNat n))
    (hr : hp.rows[r]? = some (.cells false (nl k d))) (h : off < d.length) :
    genD P C call gl o t' loc hp J X = J (.tuple []) ⟨[], [], true, true, false, false⟩ loc (hset hp r (.cells false (nl k (d.set off n)))) := by
  have hp1 : locV P C gl (⟨t', loc, hp⟩ : St).ρ (⟨t', loc, hp⟩ : St).lc o = none := by
    unfold locV
    simp only [ho, opd_gt, ha]
  have hf : footV P C gl (⟨t', loc, hp⟩ : St).ρ (⟨t', loc, hp⟩ : St).lc o = some ⟨[], [], true, true, false, false⟩ := by
    unfold footV
    rw [hp1]
    simp only [ho, opd_gt, ha, hx]
    rfl
  have hs : stepV P C gl ⟨t', loc, hp⟩ o = some (.val (.tuple []) ⟨t', loc, hset hp r (.cells false (nl k (d.set off n)))⟩) := by
    unfold stepV
    rw [hp1]
    unfold stepG
    have he : exp false ⟨t', loc, hp⟩ (.int k (.ofNat n)) = some (.int k (.ofNat n), ⟨t', loc, hp⟩) := rfl
    simp only [ho, opd_gt, ha, hx, hr, he, V.cells, List.all_cons, V.cellOk, List.all_nil, Bool.and_self, List.length_cons, List.length_nil, Nat.zero_add, hl, cond_true, setAt_nl k d off n h, setRow_glob]
  unfold genD
  rw [F.e_footV, F.e_oneV, F.e_rho, F.e_lcf, hf]
  show G.onSome (oneV P C call gl ⟨t', loc, hp⟩ o) _ none = _
  unfold oneV
  rw [hs]
  simp only [putV, hd]
  show J (.tuple []) (F.settle hp (hset hp r (.cells false (nl k (d.set off n)))) ⟨[], [], true, true, false, false⟩) loc (hset hp r (.cells false (nl k (d.set off n)))) = _
  have : F.settle hp (hset hp r (.cells false (nl k (d.set off n)))) ⟨[], [], true, true, false, false⟩ = ⟨[], [], true, true, false, false⟩ := by
    unfold F.settle
    have e : Nat.beq (hset hp r (.cells false (nl k (d.set off n)))).mods hp.mods = false := by
      cases hb : Nat.beq (hset hp r (.cells false (nl k (d.set off n)))).mods hp.mods with
      | false => rfl
      | true => have h2 : hp.mods + 1 = hp.mods := Nat.eq_of_beq_eq_true hb
                omega
    rw [e]; rfl
  rw [this]
theorem dc_true (i : Decidable True) : @decide True i = true := decide_eq_true trivial
theorem dc_false (i : Decidable False) : @decide False i = false := decide_eq_false (fun h => h)
attribute [go_sem] ldF_glob ldF_loc ldF_iptr bin_shr32 bin_shr64 bin_shl64 i_sub32 i_and32 i_xor32 un_xor32 i_geq_neg wrap_i64_neg mx_neg mx_pos mn_neg dc_true dc_false cells_agg beq_self_eq_true Nat.zero_add Nat.reduceAdd mx_n mn_n gt_pt lg_lp lg_lf lg_unfold lp_unfold bin_n i_add i_mul i_lss i_gtr i_leq i_geq i_eql i_neq bO_some jn_eq brB_true brB_false wv_t wv_f pick_true pick_false un_not ext_tuple nth_zero nth_succ len_slice len_arr len_nils len_str nl_length ld_loc ld_glob cvt_int bx_agg one_int stL_stc wrap_i64 wrap_u64 wrap_u32 wrap_u8 wrap_i32 i_sub i_quo i_rem i_shr64 i_shr32 i_shl64 i_or64 i_or32
section
variable {P : Program} {kn : Kn} {tbl : Nat → Option Fc} {f : CallF → Tm → Lo → Hp → K → R} {s : St} {tm' : Tm} {loc' : Lo} {hp' : Hp} {N : St → Prop} {X : Nat → St → Prop} {Q : St → Prop} {a b : RC} {p p1 p2 p3 : Prop}
theorem sS  (h : p := by simp -implicitDefEqProofs (disch := omega) only [go_sem, reduceIte, Nat.reduceEqDiff]) : p := h
theorem sE  (hq : N ⟨tm', loc', hp'⟩) (h : ∀ n k, f (fn P kn tbl n) s.tm s.loc s.hp k = k tm' loc' hp' := by intro  n k; simp -implicitDefEqProofs (disch := omega) only [go_sem, reduceIte, Nat.reduceEqDiff]; rfl) : WW P kn tbl (.reg f) s N X Q := ww_reg (h ) hq
theorem sR  (hq : WW P kn tbl b ⟨tm', loc', hp'⟩ N X Q) (h : ∀ n k, f (fn P kn tbl n) s.tm s.loc s.hp k = k tm' loc' hp' := by intro  n k; simp -implicitDefEqProofs (disch := omega) only [go_sem, reduceIte, Nat.reduceEqDiff]; rfl) : WW P kn tbl (.seq (.reg f) b) s N X Q := ww_seq (ww_reg (h ) hq)
theorem sS1 (x1 : p1) (h : p1 → p := by intro x1; simp -implicitDefEqProofs (disch := omega) only [go_sem, reduceIte, Nat.reduceEqDiff, x1]) : p := h x1
theorem sE1 (x1 : p1) (hq : N ⟨tm', loc', hp'⟩) (h : p1 → ∀ n k, f (fn P kn tbl n) s.tm s.loc s.hp k = k tm' loc' hp' := by intro x1 n k; simp -implicitDefEqProofs (disch := omega) only [go_sem, reduceIte, Nat.reduceEqDiff, x1]; rfl) : WW P kn tbl (.reg f) s N X Q := ww_reg (h x1) hq
theorem sR1 (x1 : p1) (hq : WW P kn tbl b ⟨tm', loc', hp'⟩ N X Q) (h : p1 → ∀ n k, f (fn P kn tbl n) s.tm s.loc s.hp k = k tm' loc' hp' := by intro x1 n k; simp -implicitDefEqProofs (disch := omega) only [go_sem, reduceIte, Nat.reduceEqDiff, x1]; rfl) : WW P kn tbl (.seq (.reg f) b) s N X Q := ww_seq (ww_reg (h x1) hq)
theorem sQ1 (x1 : p1) (hq : WW P kn tbl a ⟨tm', loc', hp'⟩ (fun s1 => WW P kn tbl b s1 N X Q) X Q) (h : p1 → ∀ n k, f (fn P kn tbl n) s.tm s.loc s.hp k = k tm' loc' hp' := by intro x1 n k; simp -implicitDefEqProofs (disch := omega) only [go_sem, reduceIte, Nat.reduceEqDiff, x1]; rfl) : WW P kn tbl (.seq (.seq (.reg f) a) b) s N X Q := ww_seq (ww_seq (ww_reg (h x1) hq))
theorem sE2 (x1 : p1) (x2 : p2) (hq : N ⟨tm', loc', hp'⟩) (h : p1 → p2 → ∀ n k, f (fn P kn tbl n) s.tm s.loc s.hp k = k tm' loc' hp' := by intro x1 x2 n k; simp -implicitDefEqProofs (disch := omega) only [go_sem, reduceIte, Nat.reduceEqDiff, x1, x2]; rfl) : WW P kn tbl (.reg f) s N X Q := ww_reg (h x1 x2) hq
theorem sR2 (x1 : p1) (x2 : p2) (hq : WW P kn tbl b ⟨tm', loc', hp'⟩ N X Q) (h : p1 → p2 → ∀ n k, f (fn P kn tbl n) s.tm s.loc s.hp k = k tm' loc' hp' := by intro x1 x2 n k; simp -implicitDefEqProofs (disch := omega) only [go_sem, reduceIte, Nat.reduceEqDiff, x1, x2]; rfl) : WW P kn tbl (.seq (.reg f) b) s N X Q := ww_seq (ww_reg (h x1 x2) hq)
theorem sQ2 (x1 : p1) (x2 : p2) (hq : WW P kn tbl a ⟨tm', loc', hp'⟩ (fun s1 => WW P kn tbl b s1 N X Q) X Q) (h : p1 → p2 → ∀ n k, f (fn P kn tbl n) s.tm s.loc s.hp k = k tm' loc' hp' := by intro x1 x2 n k; simp -implicitDefEqProofs (disch := omega) only [go_sem, reduceIte, Nat.reduceEqDiff, x1, x2]; rfl) : WW P kn tbl (.seq (.seq (.reg f) a) b) s N X Q := ww_seq (ww_seq (ww_reg (h x1 x2) hq))
theorem sE3 (x1 : p1) (x2 : p2) (x3 : p3) (hq : N ⟨tm', loc', hp'⟩) (h : p1 → p2 → p3 → ∀ n k, f (fn P kn tbl n) s.tm s.loc s.hp k = k tm' loc' hp' := by intro x1 x2 x3 n k; simp -implicitDefEqProofs (disch := omega) only [go_sem, reduceIte, Nat.reduceEqDiff, x1, x2, x3]; rfl) : WW P kn tbl (.reg f) s N X Q := ww_reg (h x1 x2 x3) hq
theorem sR3 (x1 : p1) (x2 : p2) (x3 : p3) (hq : WW P kn tbl b ⟨tm', loc', hp'⟩ N X Q) (h : p1 → p2 → p3 → ∀ n k, f (fn P kn tbl n) s.tm s.loc s.hp k = k tm' loc' hp' := by intro x1 x2 x3 n k; simp -implicitDefEqProofs (disch := omega) only [go_sem, reduceIte, Nat.reduceEqDiff, x1, x2, x3]; rfl) : WW P kn tbl (.seq (.reg f) b) s N X Q := ww_seq (ww_reg (h x1 x2 x3) hq)
theorem sSG  (h : p := by simp -implicitDefEqProofs (disch := omega) only [go_sem, reduceIte, Nat.reduceEqDiff, gt_start, List.getD_cons_zero, List.getD_cons_succ]) : p := h
theorem sEG  (hq : N ⟨tm', loc', hp'⟩) (h : ∀ n k, f (fn P kn tbl n) s.tm s.loc s.hp k = k tm' loc' hp' := by intro  n k; simp -implicitDefEqProofs (disch := omega) only [go_sem, reduceIte, Nat.reduceEqDiff, gt_start, List.getD_cons_zero, List.getD_cons_succ]; rfl) : WW P kn tbl (.reg f) s N X Q := ww_reg (h ) hq
theorem sRG  (hq : WW P kn tbl b ⟨tm', loc', hp'⟩ N X Q) (h : ∀ n k, f (fn P kn tbl n) s.tm s.loc s.hp k = k tm' loc' hp' := by intro  n k; simp -implicitDefEqProofs (disch := omega) only [go_sem, reduceIte, Nat.reduceEqDiff, gt_start, List.getD_cons_zero, List.getD_cons_succ]; rfl) : WW P kn tbl (.seq (.reg f) b) s N X Q := ww_seq (ww_reg (h ) hq)
theorem sQG  (hq : WW P kn tbl a ⟨tm', loc', hp'⟩ (fun s1 => WW P kn tbl b s1 N X Q) X Q) (h : ∀ n k, f (fn P kn tbl n) s.tm s.loc s.hp k = k tm' loc' hp' := by intro  n k; simp -implicitDefEqProofs (disch := omega) only [go_sem, reduceIte, Nat.reduceEqDiff, gt_start, List.getD_cons_zero, List.getD_cons_succ]; rfl) : WW P kn tbl (.seq (.seq (.reg f) a) b) s N X Q := ww_seq (ww_seq (ww_reg (h ) hq))
end
end Go.AM.S
end
section
namespace Go.AM.S
open Go Go.AM Go.Proofs
open _root_.Go.AM.G (R)
set_option maxRecDepth 100000
set_option linter.defProp false
noncomputable section
def go1 (F : Func) (f id i x : Nat) (v : V) (c : CallF) (t : Tm) (l : Lo) (h : Hp) (j : V → Lo → Hp → R) : R := gn F f id i c (pt .lf x v) t l h j
def go2 (F : Func) (f id i x y : Nat) (v w : V) (c : CallF) (t : Tm) (l : Lo) (h : Hp) (j : V → Lo → Hp → R) : R := gn F f id i c (pt (pt .lf x v) y w) t l h j
theorem gn_go1 {F : Func} {f id i x : Nat} {c : CallF} {t' t : Tm} {l : Lo} {h : Hp} {j : V → Lo → Hp → R} (ht : tmpsOf (opA F id i) = [x]) : gn F f id i c t' t l h j = go1 F f id i x (gt t' x) c t l h j :=
 gen_slots (fun y hy => by rw [ht] at hy; rw [List.mem_singleton.1 hy, gt_pt, if_pos rfl])
theorem gn_go1' {F : Func} {f id i x : Nat} {c : CallF} {t' t : Tm} {l : Lo} {h : Hp} {j : V → Lo → Hp → R} (ht : tmpsOf (opA F id i) = [x, x]) : gn F f id i c t' t l h j = go1 F f id i x (gt t' x) c t l h j :=
 gen_slots (fun y hy => by
  rw [ht] at hy
  have : y = x := by simpa using hy
  rw [this, gt_pt, if_pos rfl])
theorem gn_go2 {F : Func} {f id i x y : Nat} {c : CallF} {t' t : Tm} {l : Lo} {h : Hp} {j : V → Lo → Hp → R} (ht : tmpsOf (opA F id i) = [x, y]) (hxy : x ≠ y) : gn F f id i c t' t l h j = go2 F f id i x y (gt t' x) (gt t' y) c t l h j :=
 gen_slots (fun q hq => by
  rw [ht] at hq
  rcases List.mem_cons.1 hq with rfl | hq
  ·rw [gt_pt, if_neg (Ne.symm hxy), gt_pt, if_pos rfl]
  ·rw [List.mem_singleton.1 hq, gt_pt, if_pos rfl])
theorem sto_loc (t s g off : Nat) (x : V) (loc : Lo) (hp : Hp) (j : V → Lo → Hp → R) (slow : R) : sto t (.ptr (.loc s g) off) x loc hp j slow = stL Pg t s g off x loc (fun loc => j (.tuple []) loc hp) := rfl
theorem sto_glob (t r off : Nat) (x : V) (loc : Lo) (hp : Hp) (j : V → Lo → Hp → R) (slow : R) : sto t (.ptr (.glob r) off) x loc hp j slow = slow := rfl
theorem jE_eq (c : List (Nat × V)) (f : List (Nat × V) → R) : jE c f = f c := rfl
theorem jF_eq (c : List Foot) (f : List Foot → R) : jF c f = f c := rfl
theorem I_eq (n : Nat) : I n = .int .i64 (.ofNat n) := rfl
end
attribute [go_sem] sto_loc sto_glob I_eq jE_eq jF_eq
theorem g0_ : ∀ t : Tm, g0 t = gt t 0 := fun _ => rfl
theorem g1_ : ∀ t : Tm, g1 t = gt t 1 := fun _ => rfl
theorem g2_ : ∀ t : Tm, g2 t = gt t 2 := fun _ => rfl
theorem g3_ : ∀ t : Tm, g3 t = gt t 3 := fun _ => rfl
theorem g4_ : ∀ t : Tm, g4 t = gt t 4 := fun _ => rfl
theorem g5_ : ∀ t : Tm, g5 t = gt t 5 := fun _ => rfl
theorem g6_ : ∀ t : Tm, g6 t = gt t 6 := fun _ => rfl
theorem g7_ : ∀ t : Tm, g7 t = gt t 7 := fun _ => rfl
theorem g8_ : ∀ t : Tm, g8 t = gt t 8 := fun _ => rfl
theorem g9_ : ∀ t : Tm, g9 t = gt t 9 := fun _ => rfl
theorem g10_ : ∀ t : Tm, g10 t = gt t 10 := fun _ => rfl
theorem g11_ : ∀ t : Tm, g11 t = gt t 11 := fun _ => rfl
theorem g12_ : ∀ t : Tm, g12 t = gt t 12 := fun _ => rfl
theorem g13_ : ∀ t : Tm, g13 t = gt t 13 := fun _ => rfl
theorem g14_ : ∀ t : Tm, g14 t = gt t 14 := fun _ => rfl
theorem g15_ : ∀ t : Tm, g15 t = gt t 15 := fun _ => rfl
theorem g20_ : ∀ t : Tm, g20 t = gt t 20 := fun _ => rfl
theorem g21_ : ∀ t : Tm, g21 t = gt t 21 := fun _ => rfl
theorem g22_ : ∀ t : Tm, g22 t = gt t 22 := fun _ => rfl
theorem g28_ : ∀ t : Tm, g28 t = gt t 28 := fun _ => rfl
theorem g29_ : ∀ t : Tm, g29 t = gt t 29 := fun _ => rfl
theorem g30_ : ∀ t : Tm, g30 t = gt t 30 := fun _ => rfl
theorem g57_ : ∀ t : Tm, g57 t = gt t 57 := fun _ => rfl
theorem p0_ : ∀ (t : Tm) (v : V), p0 t v = pt t 0 v := fun _ _ => rfl
theorem p1_ : ∀ (t : Tm) (v : V), p1 t v = pt t 1 v := fun _ _ => rfl
theorem p2_ : ∀ (t : Tm) (v : V), p2 t v = pt t 2 v := fun _ _ => rfl
theorem p3_ : ∀ (t : Tm) (v : V), p3 t v = pt t 3 v := fun _ _ => rfl
theorem p4_ : ∀ (t : Tm) (v : V), p4 t v = pt t 4 v := fun _ _ => rfl
theorem p5_ : ∀ (t : Tm) (v : V), p5 t v = pt t 5 v := fun _ _ => rfl
theorem p6_ : ∀ (t : Tm) (v : V), p6 t v = pt t 6 v := fun _ _ => rfl
theorem p7_ : ∀ (t : Tm) (v : V), p7 t v = pt t 7 v := fun _ _ => rfl
theorem p8_ : ∀ (t : Tm) (v : V), p8 t v = pt t 8 v := fun _ _ => rfl
theorem p9_ : ∀ (t : Tm) (v : V), p9 t v = pt t 9 v := fun _ _ => rfl
theorem p10_ : ∀ (t : Tm) (v : V), p10 t v = pt t 10 v := fun _ _ => rfl
theorem p11_ : ∀ (t : Tm) (v : V), p11 t v = pt t 11 v := fun _ _ => rfl
theorem p12_ : ∀ (t : Tm) (v : V), p12 t v = pt t 12 v := fun _ _ => rfl
theorem p13_ : ∀ (t : Tm) (v : V), p13 t v = pt t 13 v := fun _ _ => rfl
theorem p14_ : ∀ (t : Tm) (v : V), p14 t v = pt t 14 v := fun _ _ => rfl
theorem p15_ : ∀ (t : Tm) (v : V), p15 t v = pt t 15 v := fun _ _ => rfl
theorem p16_ : ∀ (t : Tm) (v : V), p16 t v = pt t 16 v := fun _ _ => rfl
theorem p17_ : ∀ (t : Tm) (v : V), p17 t v = pt t 17 v := fun _ _ => rfl
theorem p18_ : ∀ (t : Tm) (v : V), p18 t v = pt t 18 v := fun _ _ => rfl
theorem p19_ : ∀ (t : Tm) (v : V), p19 t v = pt t 19 v := fun _ _ => rfl
theorem p20_ : ∀ (t : Tm) (v : V), p20 t v = pt t 20 v := fun _ _ => rfl
theorem p21_ : ∀ (t : Tm) (v : V), p21 t v = pt t 21 v := fun _ _ => rfl
theorem p22_ : ∀ (t : Tm) (v : V), p22 t v = pt t 22 v := fun _ _ => rfl
theorem p23_ : ∀ (t : Tm) (v : V), p23 t v = pt t 23 v := fun _ _ => rfl
theorem p24_ : ∀ (t : Tm) (v : V), p24 t v = pt t 24 v := fun _ _ => rfl
theorem p25_ : ∀ (t : Tm) (v : V), p25 t v = pt t 25 v := fun _ _ => rfl
theorem p26_ : ∀ (t : Tm) (v : V), p26 t v = pt t 26 v := fun _ _ => rfl
theorem p27_ : ∀ (t : Tm) (v : V), p27 t v = pt t 27 v := fun _ _ => rfl
theorem p28_ : ∀ (t : Tm) (v : V), p28 t v = pt t 28 v := fun _ _ => rfl
theorem p29_ : ∀ (t : Tm) (v : V), p29 t v = pt t 29 v := fun _ _ => rfl
theorem p30_ : ∀ (t : Tm) (v : V), p30 t v = pt t 30 v := fun _ _ => rfl
theorem p31_ : ∀ (t : Tm) (v : V), p31 t v = pt t 31 v := fun _ _ => rfl
theorem p32_ : ∀ (t : Tm) (v : V), p32 t v = pt t 32 v := fun _ _ => rfl
theorem p33_ : ∀ (t : Tm) (v : V), p33 t v = pt t 33 v := fun _ _ => rfl
theorem p34_ : ∀ (t : Tm) (v : V), p34 t v = pt t 34 v := fun _ _ => rfl
theorem p35_ : ∀ (t : Tm) (v : V), p35 t v = pt t 35 v := fun _ _ => rfl
theorem p36_ : ∀ (t : Tm) (v : V), p36 t v = pt t 36 v := fun _ _ => rfl
theorem p37_ : ∀ (t : Tm) (v : V), p37 t v = pt t 37 v := fun _ _ => rfl
theorem p38_ : ∀ (t : Tm) (v : V), p38 t v = pt t 38 v := fun _ _ => rfl
theorem p39_ : ∀ (t : Tm) (v : V), p39 t v = pt t 39 v := fun _ _ => rfl
theorem p40_ : ∀ (t : Tm) (v : V), p40 t v = pt t 40 v := fun _ _ => rfl
theorem p41_ : ∀ (t : Tm) (v : V), p41 t v = pt t 41 v := fun _ _ => rfl
theorem p42_ : ∀ (t : Tm) (v : V), p42 t v = pt t 42 v := fun _ _ => rfl
theorem p43_ : ∀ (t : Tm) (v : V), p43 t v = pt t 43 v := fun _ _ => rfl
theorem p44_ : ∀ (t : Tm) (v : V), p44 t v = pt t 44 v := fun _ _ => rfl
theorem p45_ : ∀ (t : Tm) (v : V), p45 t v = pt t 45 v := fun _ _ => rfl
theorem p46_ : ∀ (t : Tm) (v : V), p46 t v = pt t 46 v := fun _ _ => rfl
theorem p50_ : ∀ (t : Tm) (v : V), p50 t v = pt t 50 v := fun _ _ => rfl
theorem p51_ : ∀ (t : Tm) (v : V), p51 t v = pt t 51 v := fun _ _ => rfl
theorem p52_ : ∀ (t : Tm) (v : V), p52 t v = pt t 52 v := fun _ _ => rfl
theorem p54_ : ∀ (t : Tm) (v : V), p54 t v = pt t 54 v := fun _ _ => rfl
theorem p55_ : ∀ (t : Tm) (v : V), p55 t v = pt t 55 v := fun _ _ => rfl
theorem p56_ : ∀ (t : Tm) (v : V), p56 t v = pt t 56 v := fun _ _ => rfl
theorem p57_ : ∀ (t : Tm) (v : V), p57 t v = pt t 57 v := fun _ _ => rfl
theorem p58_ : ∀ (t : Tm) (v : V), p58 t v = pt t 58 v := fun _ _ => rfl
theorem p59_ : ∀ (t : Tm) (v : V), p59 t v = pt t 59 v := fun _ _ => rfl
theorem p60_ : ∀ (t : Tm) (v : V), p60 t v = pt t 60 v := fun _ _ => rfl
theorem p61_ : ∀ (t : Tm) (v : V), p61 t v = pt t 61 v := fun _ _ => rfl
theorem p62_ : ∀ (t : Tm) (v : V), p62 t v = pt t 62 v := fun _ _ => rfl
theorem p63_ : ∀ (t : Tm) (v : V), p63 t v = pt t 63 v := fun _ _ => rfl
theorem p64_ : ∀ (t : Tm) (v : V), p64 t v = pt t 64 v := fun _ _ => rfl
theorem p65_ : ∀ (t : Tm) (v : V), p65 t v = pt t 65 v := fun _ _ => rfl
theorem p66_ : ∀ (t : Tm) (v : V), p66 t v = pt t 66 v := fun _ _ => rfl
theorem p67_ : ∀ (t : Tm) (v : V), p67 t v = pt t 67 v := fun _ _ => rfl
theorem p68_ : ∀ (t : Tm) (v : V), p68 t v = pt t 68 v := fun _ _ => rfl
theorem p75_ : ∀ (t : Tm) (v : V), p75 t v = pt t 75 v := fun _ _ => rfl
theorem p76_ : ∀ (t : Tm) (v : V), p76 t v = pt t 76 v := fun _ _ => rfl
theorem p77_ : ∀ (t : Tm) (v : V), p77 t v = pt t 77 v := fun _ _ => rfl
theorem p82_ : ∀ (t : Tm) (v : V), p82 t v = pt t 82 v := fun _ _ => rfl
theorem p83_ : ∀ (t : Tm) (v : V), p83 t v = pt t 83 v := fun _ _ => rfl
theorem p84_ : ∀ (t : Tm) (v : V), p84 t v = pt t 84 v := fun _ _ => rfl
theorem p86_ : ∀ (t : Tm) (v : V), p86 t v = pt t 86 v := fun _ _ => rfl
theorem p87_ : ∀ (t : Tm) (v : V), p87 t v = pt t 87 v := fun _ _ => rfl
theorem p88_ : ∀ (t : Tm) (v : V), p88 t v = pt t 88 v := fun _ _ => rfl
theorem p97_ : ∀ (t : Tm) (v : V), p97 t v = pt t 97 v := fun _ _ => rfl
theorem p105_ : ∀ (t : Tm) (v : V), p105 t v = pt t 105 v := fun _ _ => rfl
theorem p112_ : ∀ (t : Tm) (v : V), p112 t v = pt t 112 v := fun _ _ => rfl
theorem p126_ : ∀ (t : Tm) (v : V), p126 t v = pt t 126 v := fun _ _ => rfl
theorem p131_ : ∀ (t : Tm) (v : V), p131 t v = pt t 131 v := fun _ _ => rfl
theorem p132_ : ∀ (t : Tm) (v : V), p132 t v = pt t 132 v := fun _ _ => rfl
theorem p133_ : ∀ (t : Tm) (v : V), p133 t v = pt t 133 v := fun _ _ => rfl
theorem U2 : Pg.underlying 2 = some (.int .i64) := by kernel_rfl
theorem L2 : F.layE Pg 2 = some (1, false) := by kernel_rfl
theorem N2 : F.lenIs Pg 2 1 = true := by kernel_rfl
theorem U3 : Pg.underlying 3 = some (.int .i64) := by kernel_rfl
theorem L3 : F.layE Pg 3 = some (1, false) := by kernel_rfl
theorem N3 : F.lenIs Pg 3 1 = true := by kernel_rfl
theorem U4 : Pg.underlying 4 = some .bool := by kernel_rfl
theorem L4 : F.layE Pg 4 = some (1, false) := by kernel_rfl
theorem N4 : F.lenIs Pg 4 1 = true := by kernel_rfl
theorem U5 : Pg.underlying 5 = some (.int .u8) := by kernel_rfl
theorem L5 : F.layE Pg 5 = some (1, false) := by kernel_rfl
theorem N5 : F.lenIs Pg 5 1 = true := by kernel_rfl
theorem U9 : Pg.underlying 9 = some .string := by kernel_rfl
theorem L9 : F.layE Pg 9 = some (1, false) := by kernel_rfl
theorem N9 : F.lenIs Pg 9 1 = true := by kernel_rfl
theorem U21 : Pg.underlying 21 = some (.int .i32) := by kernel_rfl
theorem L21 : F.layE Pg 21 = some (1, false) := by kernel_rfl
theorem N21 : F.lenIs Pg 21 1 = true := by kernel_rfl
theorem U24 : Pg.underlying 24 = some (.slice 86) := by kernel_rfl
theorem E24 : F.elemT Pg 24 = some 86 := by kernel_rfl
theorem L24 : F.layE Pg 24 = some (1, false) := by kernel_rfl
theorem N24 : F.lenIs Pg 24 1 = true := by kernel_rfl
theorem L26 : F.layE Pg 26 = some (2, true) := by kernel_rfl
theorem Z26 : F.zeroV Pg 26 = some (.agg [.nils, (.bool false)]) := by kernel_rfl
theorem S26 : F.szOf Pg 26 = some 2 := by kernel_rfl
theorem N26 : F.lenIs Pg 26 2 = true := by kernel_rfl
theorem U29 : Pg.underlying 29 = some (.slice 3) := by kernel_rfl
theorem E29 : F.elemT Pg 29 = some 3 := by kernel_rfl
theorem L29 : F.layE Pg 29 = some (1, false) := by kernel_rfl
theorem N29 : F.lenIs Pg 29 1 = true := by kernel_rfl
theorem U51 : Pg.underlying 51 = some (.slice 5) := by kernel_rfl
theorem E51 : F.elemT Pg 51 = some 5 := by kernel_rfl
theorem L51 : F.layE Pg 51 = some (1, false) := by kernel_rfl
theorem N51 : F.lenIs Pg 51 1 = true := by kernel_rfl
theorem U80 : Pg.underlying 80 = some (.int .u64) := by kernel_rfl
theorem L80 : F.layE Pg 80 = some (1, false) := by kernel_rfl
theorem N80 : F.lenIs Pg 80 1 = true := by kernel_rfl
theorem U86 : Pg.underlying 86 = some (.int .u32) := by kernel_rfl
theorem L86 : F.layE Pg 86 = some (1, false) := by kernel_rfl
theorem N86 : F.lenIs Pg 86 1 = true := by kernel_rfl
theorem U87 : Pg.underlying 87 = some (.int .u64) := by kernel_rfl
theorem L87 : F.layE Pg 87 = some (1, false) := by kernel_rfl
theorem N87 : F.lenIs Pg 87 1 = true := by kernel_rfl
theorem FA26_0 : ∀ (r : Ref) (o : Nat), fa Pg 26 (.ptr r o) 0 = some (.ptr r (o + 0)) := fun r o => by kernel_rfl
theorem FA26_1 : ∀ (r : Ref) (o : Nat), fa Pg 26 (.ptr r o) 1 = some (.ptr r (o + 1)) := fun r o => by kernel_rfl
theorem ia24 {k : IntKind} {v : V} {d : List Nat} (h : Sl k v d) (k' : IntKind) (i : Nat) (hi : i < d.length) : ia Pg 24 v (.int k' (.ofNat i)) = some (.iptr [.int k (.ofNat (d.getD i 0))]) := ia_sl E24 L86 h k' i hi
theorem ia51 {k : IntKind} {v : V} {d : List Nat} (h : Sl k v d) (k' : IntKind) (i : Nat) (hi : i < d.length) : ia Pg 51 v (.int k' (.ofNat i)) = some (.iptr [.int k (.ofNat (d.getD i 0))]) := ia_sl E51 L5 h k' i hi
theorem sl24 {k : IntKind} {v : V} {d : List Nat} (h : Sl k v d) (k' : IntKind) (i : Nat) (hi : i < d.length) : slc Pg 24 v none (some (.int k' (.ofNat i))) none = some (.slice none false 1 (nl k (d.take i))) := slc_sl E24 L86 h k' i hi
theorem n5_11_4 : ∀ (c : CallF) (t' t : Tm) (l : Lo) (h : Hp) (j : V → Lo → Hp → R), gn Try.f5 5 11 4 c t' t l h j = cvt .i64 (gt t' 34) (fun v => j v l h) := fun _ _ _ _ _ _ => gen_convert' (o := opA Try.f5 11 4) (d := 35) (s := 5) (t := 2) (by kernel_rfl) (by kernel_rfl) U5 U2
theorem n18_0_0 : ∀ (c : CallF) (t' t : Tm) (l : Lo) (h : Hp) (j : V → Lo → Hp → R), gn Try.f18 18 0 0 c t' t l h j = bx 1 (gt t' 0) l (fun v l => j v l h) := fun _ _ _ _ _ _ => gen_box' (o := opA Try.f18 0 0) (d := 1) (t := 26) (by kernel_rfl) (by kernel_rfl) (by kernel_rfl) (by kernel_rfl)
theorem n18_10_6 : ∀ (c : CallF) (t' t : Tm) (l : Lo) (h : Hp) (j : V → Lo → Hp → R), gn Try.f18 18 10 6 c t' t l h j = cvt .u64 (gt t' 29) (fun v => j v l h) := fun _ _ _ _ _ _ => gen_convert' (o := opA Try.f18 10 6) (d := 30) (s := 86) (t := 80) (by kernel_rfl) (by kernel_rfl) U86 U80
theorem n18_11_4 : ∀ (c : CallF) (t' t : Tm) (l : Lo) (h : Hp) (j : V → Lo → Hp → R), gn Try.f18 18 11 4 c t' t l h j = cvt .u32 (gt t' 35) (fun v => j v l h) := fun _ _ _ _ _ _ => gen_convert' (o := opA Try.f18 11 4) (d := 36) (s := 80) (t := 86) (by kernel_rfl) (by kernel_rfl) U80 U86
theorem m18_11_6 : ∀ (c : CallF) (t' t : Tm) (l : Lo) (h : Hp) (j : V → Lo → Hp → R), gn Try.f18 18 11 6 c t' t l h j = go2 Try.f18 18 11 6 37 36 (gt t' 37) (gt t' 36) c t l h j := fun _ _ _ _ _ _ => gn_go2 (by kernel_rfl) (by decide)
theorem w18_11_6 {r off n : Nat} {d : List Nat} {h : Hp} (hr : h.rows[r]? = some (.cells false (nl .u32 d))) (ho : off < d.length) (c : CallF) (t : Tm) (l : Lo) (j : V → Lo → Hp → R) : go2 Try.f18 18 11 6 37 36 (.ptr (.glob r) off) (.int .u32 (.ofNat n)) c t l h j = j (.tuple []) l (hset h r (.cells false (nl .u32 (d.set off n)))) := gen_store_glob (C := Cg) (gl := Cg.glob 18) (call := c) (o := opA Try.f18 11 6) (t := 86) (by kernel_rfl) (by kernel_rfl) (by decide) (by kernel_rfl) hr ho
theorem n18_17_4 : ∀ (c : CallF) (t' t : Tm) (l : Lo) (h : Hp) (j : V → Lo → Hp → R), gn Try.f18 18 17 4 c t' t l h j = cvt .u8 (gt t' 62) (fun v => j v l h) := fun _ _ _ _ _ _ => gen_convert' (o := opA Try.f18 17 4) (d := 63) (s := 80) (t := 5) (by kernel_rfl) (by kernel_rfl) U80 U5
theorem m18_17_5 : ∀ (c : CallF) (t' t : Tm) (l : Lo) (h : Hp) (j : V → Lo → Hp → R), gn Try.f18 18 17 5 c t' t l h j = go1 Try.f18 18 17 5 63 (gt t' 63) c t l h j := fun _ _ _ _ _ _ => gn_go1 (by kernel_rfl)
theorem q18_17_5 : ∀ (c : CallF) (t : Tm) (l : Lo) (h : Hp) (j : V → Lo → Hp → R) (k : IntKind) (n : Nat), go1 Try.f18 18 17 5 63 (.int k (.ofNat n)) c t l h j = j (.arr (.loc 64 ((lg l 64).1 + 1)) 0 1 (some 1) 1 false) (lp l 64 ((lg l 64).1 + 1, .cells false (nl k [n]))) h := fun c t l h j k n => gen_one1 (C := Cg) (gl := Cg.glob 18) (call := c) (tm := t) (loc := l) (hp := h) (j := j) (t' := pt .lf 63 (.int k (.ofNat n))) (k := k) (n := n) (o := opA Try.f18 17 5) (d := 64) (x := .tmp 63) (t := 51) (e := 5) (by kernel_rfl) (by kernel_rfl) (by kernel_rfl) (by kernel_rfl) (by kernel_rfl) (by kernel_rfl) (show zeroV Pg 5 = some (.int .u8 (.ofNat 0)) by kernel_rfl) (by rw [opd_gt, gt_pt, if_pos rfl])
theorem m18_17_6 : ∀ (c : CallF) (t' t : Tm) (l : Lo) (h : Hp) (j : V → Lo → Hp → R), gn Try.f18 18 17 6 c t' t l h j = go2 Try.f18 18 17 6 59 64 (gt t' 59) (gt t' 64) c t l h j := fun _ _ _ _ _ _ => gn_go2 (by kernel_rfl) (by decide)
theorem i18_17_6 : ApI Pg (opA Try.f18 17 6) 65 59 64 51 := ⟨by kernel_rfl, { callee := .builtin .append, args := #[.tmp 59, .tmp 64], argTypes := #[51, 51] }, by kernel_rfl, rfl, rfl, rfl, by kernel_rfl⟩
theorem a18_17_6 {loc : Lo} {k : IntKind} {l : List Nat} {v w : V} {n : Nat} {hp : Hp} (hv : Gs hp v k l) (hw : ∀ tm, itemsOf ⟨tm, loc, hp⟩ w = some (nl k [n])) (hn : l.length ≤ 1000000000) : ∃ v' h', (∀ (c : CallF) (tm : Tm) (j : V → Lo → Hp → R), go2 Try.f18 18 17 6 59 64 v w c tm loc hp j = j v' loc h') ∧ Pushed hp h' v v' k l (l ++ [n]) := gen_pushG i18_17_6 (by kernel_rfl) (by kernel_rfl) (e := 5) (by kernel_rfl) (by kernel_rfl) (b := 1) (by kernel_rfl) (by decide) hv hw (by omega)
theorem q18_23_1 : ∀ (c : CallF) (t' t : Tm) (l : Lo) (h : Hp) (j : V → Lo → Hp → R), gn Try.f18 18 23 1 c t' t l h j = j (.arr (.loc 84 ((lg l 84).1 + 1)) 0 1 (some 1) 1 false) (lp l 84 ((lg l 84).1 + 1, .cells false (nl .u8 [45]))) h := fun c t' t l h j => gen_one1 (C := Cg) (gl := Cg.glob 18) (call := c) (tm := t) (loc := l) (hp := h) (j := j) (t' := t') (k := .u8) (n := 45) (o := opA Try.f18 23 1) (d := 84) (x := .const (.int .u8 45)) (t := 51) (e := 5) (by kernel_rfl) (by kernel_rfl) (by kernel_rfl) (by kernel_rfl) (by kernel_rfl) (by kernel_rfl) (show zeroV Pg 5 = some (.int .u8 (.ofNat 0)) by kernel_rfl) rfl
theorem m18_23_2 : ∀ (c : CallF) (t' t : Tm) (l : Lo) (h : Hp) (j : V → Lo → Hp → R), gn Try.f18 18 23 2 c t' t l h j = go2 Try.f18 18 23 2 83 84 (gt t' 83) (gt t' 84) c t l h j := fun _ _ _ _ _ _ => gn_go2 (by kernel_rfl) (by decide)
theorem i18_23_2 : ApI Pg (opA Try.f18 23 2) 85 83 84 51 := ⟨by kernel_rfl, { callee := .builtin .append, args := #[.tmp 83, .tmp 84], argTypes := #[51, 51] }, by kernel_rfl, rfl, rfl, rfl, by kernel_rfl⟩
theorem a18_23_2 {loc : Lo} {k : IntKind} {l : List Nat} {v w : V} {n : Nat} {hp : Hp} (hv : Gs hp v k l) (hw : ∀ tm, itemsOf ⟨tm, loc, hp⟩ w = some (nl k [n])) (hn : l.length ≤ 1000000000) : ∃ v' h', (∀ (c : CallF) (tm : Tm) (j : V → Lo → Hp → R), go2 Try.f18 18 23 2 83 84 v w c tm loc hp j = j v' loc h') ∧ Pushed hp h' v v' k l (l ++ [n]) := gen_pushG i18_23_2 (by kernel_rfl) (by kernel_rfl) (e := 5) (by kernel_rfl) (by kernel_rfl) (b := 1) (by kernel_rfl) (by decide) hv hw (by omega)
theorem m18_25_1 : ∀ (c : CallF) (t' t : Tm) (l : Lo) (h : Hp) (j : V → Lo → Hp → R), gn Try.f18 18 25 1 c t' t l h j = go1 Try.f18 18 25 1 88 (gt t' 88) c t l h j := fun _ _ _ _ _ _ => gn_go1 (by kernel_rfl)
theorem n21_1_1 : ∀ (c : CallF) (t' t : Tm) (l : Lo) (h : Hp) (j : V → Lo → Hp → R), gn Try.f21 21 1 1 c t' t l h j = cvt .u64 (gt t' 4) (fun v => j v l h) := fun _ _ _ _ _ _ => gen_convert' (o := opA Try.f21 1 1) (d := 5) (s := 2) (t := 80) (by kernel_rfl) (by kernel_rfl) U2 U80
theorem n21_4_1 : ∀ (c : CallF) (t' t : Tm) (l : Lo) (h : Hp) (j : V → Lo → Hp → R), gn Try.f21 21 4 1 c t' t l h j = cvt .u32 (gt t' 10) (fun v => j v l h) := fun _ _ _ _ _ _ => gen_convert' (o := opA Try.f21 4 1) (d := 11) (s := 80) (t := 86) (by kernel_rfl) (by kernel_rfl) U80 U86
theorem n21_4_4 : ∀ (c : CallF) (t' t : Tm) (l : Lo) (h : Hp) (j : V → Lo → Hp → R), gn Try.f21 21 4 4 c t' t l h j = cvt .u32 (gt t' 13) (fun v => j v l h) := fun _ _ _ _ _ _ => gen_convert' (o := opA Try.f21 4 4) (d := 14) (s := 80) (t := 86) (by kernel_rfl) (by kernel_rfl) U80 U86
theorem m21_4_5 : ∀ (c : CallF) (t' t : Tm) (l : Lo) (h : Hp) (j : V → Lo → Hp → R), gn Try.f21 21 4 5 c t' t l h j = go2 Try.f21 21 4 5 11 14 (gt t' 11) (gt t' 14) c t l h j := fun _ _ _ _ _ _ => gn_go2 (by kernel_rfl) (by decide)
theorem n25_0_0 : ∀ (c : CallF) (t' t : Tm) (l : Lo) (h : Hp) (j : V → Lo → Hp → R), gn Try.f25 25 0 0 c t' t l h j = bx 2 (gt t' 0) l (fun v l => j v l h) := fun _ _ _ _ _ _ => gen_box' (o := opA Try.f25 0 0) (d := 2) (t := 26) (by kernel_rfl) (by kernel_rfl) (by kernel_rfl) (by kernel_rfl)
theorem n25_0_1 : ∀ (c : CallF) (t' t : Tm) (l : Lo) (h : Hp) (j : V → Lo → Hp → R), gn Try.f25 25 0 1 c t' t l h j = bx 3 (gt t' 1) l (fun v l => j v l h) := fun _ _ _ _ _ _ => gen_box' (o := opA Try.f25 0 1) (d := 3) (t := 26) (by kernel_rfl) (by kernel_rfl) (by kernel_rfl) (by kernel_rfl)
theorem n27_0_0 : ∀ (c : CallF) (t' t : Tm) (l : Lo) (h : Hp) (j : V → Lo → Hp → R), gn Try.f27 27 0 0 c t' t l h j = bx 2 (gt t' 0) l (fun v l => j v l h) := fun _ _ _ _ _ _ => gen_box' (o := opA Try.f27 0 0) (d := 2) (t := 26) (by kernel_rfl) (by kernel_rfl) (by kernel_rfl) (by kernel_rfl)
theorem n27_0_1 : ∀ (c : CallF) (t' t : Tm) (l : Lo) (h : Hp) (j : V → Lo → Hp → R), gn Try.f27 27 0 1 c t' t l h j = bx 3 (gt t' 1) l (fun v l => j v l h) := fun _ _ _ _ _ _ => gen_box' (o := opA Try.f27 0 1) (d := 3) (t := 26) (by kernel_rfl) (by kernel_rfl) (by kernel_rfl) (by kernel_rfl)
theorem n29_0_0 : ∀ (c : CallF) (t' t : Tm) (l : Lo) (h : Hp) (j : V → Lo → Hp → R), gn Try.f29 29 0 0 c t' t l h j = bx 2 (gt t' 0) l (fun v l => j v l h) := fun _ _ _ _ _ _ => gen_box' (o := opA Try.f29 0 0) (d := 2) (t := 26) (by kernel_rfl) (by kernel_rfl) (by kernel_rfl) (by kernel_rfl)
theorem n29_0_1 : ∀ (c : CallF) (t' t : Tm) (l : Lo) (h : Hp) (j : V → Lo → Hp → R), gn Try.f29 29 0 1 c t' t l h j = bx 3 (gt t' 1) l (fun v l => j v l h) := fun _ _ _ _ _ _ => gen_box' (o := opA Try.f29 0 1) (d := 3) (t := 26) (by kernel_rfl) (by kernel_rfl) (by kernel_rfl) (by kernel_rfl)
theorem m29_1_7 : ∀ (c : CallF) (t' t : Tm) (l : Lo) (h : Hp) (j : V → Lo → Hp → R), gn Try.f29 29 1 7 c t' t l h j = go1 Try.f29 29 1 7 17 (gt t' 17) c t l h j := fun _ _ _ _ _ _ => gn_go1' (by kernel_rfl)
theorem q29_1_7 : ∀ (c : CallF) (t : Tm) (l : Lo) (h : Hp) (j : V → Lo → Hp → R) (k : IntKind) (n : Nat), n ≤ 1000000000 → go1 Try.f29 29 1 7 17 (.int k (.ofNat n)) c t l h j = j (.arr (.loc 18 ((lg l 18).1 + 1)) 0 n (some n) 1 false) (lp l 18 ((lg l 18).1 + 1, .cells false (nl .u32 (List.replicate n 0)))) h := fun c t l h j k n hn => gen_make (C := Cg) (gl := Cg.glob 29) (call := c) (tm := t) (loc := l) (hp := h) (j := j) (t' := pt .lf 17 (.int k (.ofNat n))) (k1 := k) (n := n) (o := opA Try.f29 1 7) (d := 18) (x := 17) (t := 24) (e := 86) (b := 4) (by kernel_rfl) (by kernel_rfl) (by kernel_rfl) (by kernel_rfl) (by kernel_rfl) (by kernel_rfl) (by kernel_rfl) (by rw [gt_pt, if_pos rfl]) (by omega) (by omega)
theorem n29_9_2 : ∀ (c : CallF) (t' t : Tm) (l : Lo) (h : Hp) (j : V → Lo → Hp → R), gn Try.f29 29 9 2 c t' t l h j = cvt .u64 (gt t' 36) (fun v => j v l h) := fun _ _ _ _ _ _ => gen_convert' (o := opA Try.f29 9 2) (d := 37) (s := 86) (t := 80) (by kernel_rfl) (by kernel_rfl) U86 U80
theorem n29_9_4 : ∀ (c : CallF) (t' t : Tm) (l : Lo) (h : Hp) (j : V → Lo → Hp → R), gn Try.f29 29 9 4 c t' t l h j = cvt .u64 (gt t' 38) (fun v => j v l h) := fun _ _ _ _ _ _ => gen_convert' (o := opA Try.f29 9 4) (d := 39) (s := 86) (t := 80) (by kernel_rfl) (by kernel_rfl) U86 U80
theorem n29_9_12 : ∀ (c : CallF) (t' t : Tm) (l : Lo) (h : Hp) (j : V → Lo → Hp → R), gn Try.f29 29 9 12 c t' t l h j = cvt .u64 (gt t' 46) (fun v => j v l h) := fun _ _ _ _ _ _ => gen_convert' (o := opA Try.f29 9 12) (d := 47) (s := 86) (t := 80) (by kernel_rfl) (by kernel_rfl) U86 U80
theorem n29_10_5 : ∀ (c : CallF) (t' t : Tm) (l : Lo) (h : Hp) (j : V → Lo → Hp → R), gn Try.f29 29 10 5 c t' t l h j = cvt .u32 (gt t' 54) (fun v => j v l h) := fun _ _ _ _ _ _ => gen_convert' (o := opA Try.f29 10 5) (d := 55) (s := 80) (t := 86) (by kernel_rfl) (by kernel_rfl) U80 U86
theorem m29_10_7 : ∀ (c : CallF) (t' t : Tm) (l : Lo) (h : Hp) (j : V → Lo → Hp → R), gn Try.f29 29 10 7 c t' t l h j = go2 Try.f29 29 10 7 56 55 (gt t' 56) (gt t' 55) c t l h j := fun _ _ _ _ _ _ => gn_go2 (by kernel_rfl) (by decide)
theorem n29_13_7 : ∀ (c : CallF) (t' t : Tm) (l : Lo) (h : Hp) (j : V → Lo → Hp → R), gn Try.f29 29 13 7 c t' t l h j = cvt .u32 (gt t' 66) (fun v => j v l h) := fun _ _ _ _ _ _ => gen_convert' (o := opA Try.f29 13 7) (d := 67) (s := 80) (t := 86) (by kernel_rfl) (by kernel_rfl) U80 U86
theorem m29_13_9 : ∀ (c : CallF) (t' t : Tm) (l : Lo) (h : Hp) (j : V → Lo → Hp → R), gn Try.f29 29 13 9 c t' t l h j = go2 Try.f29 29 13 9 68 67 (gt t' 68) (gt t' 67) c t l h j := fun _ _ _ _ _ _ => gn_go2 (by kernel_rfl) (by decide)
theorem n31_0_0 : ∀ (c : CallF) (t' t : Tm) (l : Lo) (h : Hp) (j : V → Lo → Hp → R), gn Try.f31 31 0 0 c t' t l h j = bx 1 (gt t' 0) l (fun v l => j v l h) := fun _ _ _ _ _ _ => gen_box' (o := opA Try.f31 0 0) (d := 1) (t := 26) (by kernel_rfl) (by kernel_rfl) (by kernel_rfl) (by kernel_rfl)
theorem n33_0_0 : ∀ (c : CallF) (t' t : Tm) (l : Lo) (h : Hp) (j : V → Lo → Hp → R), gn Try.f33 33 0 0 c t' t l h j = bx 2 (gt t' 0) l (fun v l => j v l h) := fun _ _ _ _ _ _ => gen_box' (o := opA Try.f33 0 0) (d := 2) (t := 26) (by kernel_rfl) (by kernel_rfl) (by kernel_rfl) (by kernel_rfl)
theorem n33_0_1 : ∀ (c : CallF) (t' t : Tm) (l : Lo) (h : Hp) (j : V → Lo → Hp → R), gn Try.f33 33 0 1 c t' t l h j = bx 3 (gt t' 1) l (fun v l => j v l h) := fun _ _ _ _ _ _ => gen_box' (o := opA Try.f33 0 1) (d := 3) (t := 26) (by kernel_rfl) (by kernel_rfl) (by kernel_rfl) (by kernel_rfl)
theorem n35_0_0 : ∀ (c : CallF) (t' t : Tm) (l : Lo) (h : Hp) (j : V → Lo → Hp → R), gn Try.f35 35 0 0 c t' t l h j = bx 1 (gt t' 0) l (fun v l => j v l h) := fun _ _ _ _ _ _ => gen_box' (o := opA Try.f35 0 0) (d := 1) (t := 26) (by kernel_rfl) (by kernel_rfl) (by kernel_rfl) (by kernel_rfl)
theorem q35_1_1 : ∀ (c : CallF) (t' t : Tm) (l : Lo) (h : Hp) (j : V → Lo → Hp → R), gn Try.f35 35 1 1 c t' t l h j = j (.agg [.nils, (.bool false)]) l h := fun c t' t l h j => gen_val (C := Cg) (gl := Cg.glob 35) (call := c) (tm := t) (loc := l) (hp := h) (j := j) (t' := t') (o := opA Try.f35 1 1) (d := 4) (v := (.agg [.nils, (.bool false)])) (st := ⟨t', l, h⟩) (by kernel_rfl) (by kernel_rfl)
theorem n37_0_0 : ∀ (c : CallF) (t' t : Tm) (l : Lo) (h : Hp) (j : V → Lo → Hp → R), gn Try.f37 37 0 0 c t' t l h j = bx 2 (gt t' 0) l (fun v l => j v l h) := fun _ _ _ _ _ _ => gen_box' (o := opA Try.f37 0 0) (d := 2) (t := 26) (by kernel_rfl) (by kernel_rfl) (by kernel_rfl) (by kernel_rfl)
theorem n37_0_1 : ∀ (c : CallF) (t' t : Tm) (l : Lo) (h : Hp) (j : V → Lo → Hp → R), gn Try.f37 37 0 1 c t' t l h j = bx 3 (gt t' 1) l (fun v l => j v l h) := fun _ _ _ _ _ _ => gen_box' (o := opA Try.f37 0 1) (d := 3) (t := 26) (by kernel_rfl) (by kernel_rfl) (by kernel_rfl) (by kernel_rfl)
theorem q37_3_0 : ∀ (c : CallF) (t' t : Tm) (l : Lo) (h : Hp) (j : V → Lo → Hp → R), gn Try.f37 37 3 0 c t' t l h j = j (.agg [.nils, (.bool false)]) l h := fun c t' t l h j => gen_val (C := Cg) (gl := Cg.glob 37) (call := c) (tm := t) (loc := l) (hp := h) (j := j) (t' := t') (o := opA Try.f37 3 0) (d := 17) (v := (.agg [.nils, (.bool false)])) (st := ⟨t', l, h⟩) (by kernel_rfl) (by kernel_rfl)
theorem n64_4_2 : ∀ (c : CallF) (t' t : Tm) (l : Lo) (h : Hp) (j : V → Lo → Hp → R), gn Try.f64 64 4 2 c t' t l h j = cvt .u64 (gt t' 17) (fun v => j v l h) := fun _ _ _ _ _ _ => gen_convert' (o := opA Try.f64 4 2) (d := 18) (s := 86) (t := 80) (by kernel_rfl) (by kernel_rfl) U86 U80
theorem n64_5_3 : ∀ (c : CallF) (t' t : Tm) (l : Lo) (h : Hp) (j : V → Lo → Hp → R), gn Try.f64 64 5 3 c t' t l h j = cvt .u32 (gt t' 24) (fun v => j v l h) := fun _ _ _ _ _ _ => gen_convert' (o := opA Try.f64 5 3) (d := 25) (s := 80) (t := 86) (by kernel_rfl) (by kernel_rfl) U80 U86
theorem m64_5_5 : ∀ (c : CallF) (t' t : Tm) (l : Lo) (h : Hp) (j : V → Lo → Hp → R), gn Try.f64 64 5 5 c t' t l h j = go2 Try.f64 64 5 5 26 25 (gt t' 26) (gt t' 25) c t l h j := fun _ _ _ _ _ _ => gn_go2 (by kernel_rfl) (by decide)
theorem w64_5_5 {r off n : Nat} {d : List Nat} {h : Hp} (hr : h.rows[r]? = some (.cells false (nl .u32 d))) (ho : off < d.length) (c : CallF) (t : Tm) (l : Lo) (j : V → Lo → Hp → R) : go2 Try.f64 64 5 5 26 25 (.ptr (.glob r) off) (.int .u32 (.ofNat n)) c t l h j = j (.tuple []) l (hset h r (.cells false (nl .u32 (d.set off n)))) := gen_store_glob (C := Cg) (gl := Cg.glob 64) (call := c) (o := opA Try.f64 5 5) (t := 86) (by kernel_rfl) (by kernel_rfl) (by decide) (by kernel_rfl) hr ho
theorem n64_9_2 : ∀ (c : CallF) (t' t : Tm) (l : Lo) (h : Hp) (j : V → Lo → Hp → R), gn Try.f64 64 9 2 c t' t l h j = cvt .u32 (gt t' 33) (fun v => j v l h) := fun _ _ _ _ _ _ => gen_convert' (o := opA Try.f64 9 2) (d := 34) (s := 80) (t := 86) (by kernel_rfl) (by kernel_rfl) U80 U86
theorem m64_9_3 : ∀ (c : CallF) (t' t : Tm) (l : Lo) (h : Hp) (j : V → Lo → Hp → R), gn Try.f64 64 9 3 c t' t l h j = go1 Try.f64 64 9 3 34 (gt t' 34) c t l h j := fun _ _ _ _ _ _ => gn_go1 (by kernel_rfl)
theorem q64_9_3 : ∀ (c : CallF) (t : Tm) (l : Lo) (h : Hp) (j : V → Lo → Hp → R) (k : IntKind) (n : Nat), go1 Try.f64 64 9 3 34 (.int k (.ofNat n)) c t l h j = j (.arr (.loc 35 ((lg l 35).1 + 1)) 0 1 (some 1) 1 false) (lp l 35 ((lg l 35).1 + 1, .cells false (nl k [n]))) h := fun c t l h j k n => gen_one1 (C := Cg) (gl := Cg.glob 64) (call := c) (tm := t) (loc := l) (hp := h) (j := j) (t' := pt .lf 34 (.int k (.ofNat n))) (k := k) (n := n) (o := opA Try.f64 9 3) (d := 35) (x := .tmp 34) (t := 24) (e := 86) (by kernel_rfl) (by kernel_rfl) (by kernel_rfl) (by kernel_rfl) (by kernel_rfl) (by kernel_rfl) (show zeroV Pg 86 = some (.int .u32 (.ofNat 0)) by kernel_rfl) (by rw [opd_gt, gt_pt, if_pos rfl])
theorem m64_9_4 : ∀ (c : CallF) (t' t : Tm) (l : Lo) (h : Hp) (j : V → Lo → Hp → R), gn Try.f64 64 9 4 c t' t l h j = go2 Try.f64 64 9 4 32 35 (gt t' 32) (gt t' 35) c t l h j := fun _ _ _ _ _ _ => gn_go2 (by kernel_rfl) (by decide)
theorem i64_9_4 : ApI Pg (opA Try.f64 9 4) 36 32 35 24 := ⟨by kernel_rfl, { callee := .builtin .append, args := #[.tmp 32, .tmp 35], argTypes := #[24, 24] }, by kernel_rfl, rfl, rfl, rfl, by kernel_rfl⟩
theorem a64_9_4 {loc : Lo} {k : IntKind} {l ys : List Nat} {v w : V} {hp : Hp} (hv : Gr hp v k l) (hw : ∀ tm, itemsOf ⟨tm, loc, hp⟩ w = some (nl k ys)) (hy : ys ≠ []) (hn : l.length + ys.length ≤ 1000000000) : ∃ h', (∀ (c : CallF) (tm : Tm) (j : V → Lo → Hp → R), go2 Try.f64 64 9 4 32 35 v w c tm loc hp j = j (.arr (.glob hp.rows.length) 0 (l.length + ys.length) none 1 false) loc h') ∧ h'.rows[hp.rows.length]? = some (.cells false (nl k (l ++ ys))) ∧ h'.rows.length = hp.rows.length + 1 ∧ (∀ i, i < hp.rows.length → v ≠ .arr (.glob i) 0 l.length none 1 false → h'.rows[i]? = hp.rows[i]?) ∧ (h' = hadd hp (.cells false (nl k (l ++ ys))) ∨ ∃ r, v = .arr (.glob r) 0 l.length none 1 false ∧ h' = hadd (hset hp r .gone) (.cells false (nl k (l ++ ys)))) := gen_growGs i64_9_4 (by kernel_rfl) (by kernel_rfl) (e := 86) (by kernel_rfl) (by kernel_rfl) (b := 4) (by kernel_rfl) (by decide) hv hw hy (by omega)
theorem m65_3_7 : ∀ (c : CallF) (t' t : Tm) (l : Lo) (h : Hp) (j : V → Lo → Hp → R), gn Try.f65 65 3 7 c t' t l h j = go2 Try.f65 65 3 7 22 28 (gt t' 22) (gt t' 28) c t l h j := fun _ _ _ _ _ _ => gn_go2 (by kernel_rfl) (by decide)
theorem b65_3_7 {v w : V} (hv : Pl v) (hw : Pl w) (c : CallF) (t : Tm) (l : Lo) (h : Hp) (j : V → Lo → Hp → R) : go2 Try.f65 65 3 7 22 28 v w c t l h j = j (.agg [v, w]) l h := gen_two (C := Cg) (gl := Cg.glob 65) (call := c) (o := opA Try.f65 3 7) (d := 29) (t := 26) (by kernel_rfl) (by kernel_rfl) (by kernel_rfl) (show zeroV Pg 26 = some (.agg [.nils, (.bool false)]) by kernel_rfl) (by decide) hv hw
theorem bb65_3_7 {w : V} {r n : Nat} {li : Option Nat} {L : List Nat} {f0 : Bool} {h : Hp} (hr : h.rows[r]? = some (.cells f0 (nl .u32 L))) (hn : n ≤ L.length) (hw : Pl w) (c : CallF) (t : Tm) (l : Lo) (j : V → Lo → Hp → R) : go2 Try.f65 65 3 7 22 28 (.arr (.glob r) 0 n li 1 false) w c t l h j = j (.agg [.slice none false 1 (nl .u32 (L.take n)), w]) l (hset h r (.cells true (nl .u32 L))) := gen_two_arr (C := Cg) (gl := Cg.glob 65) (call := c) (o := opA Try.f65 3 7) (d := 29) (t := 26) (by kernel_rfl) (by kernel_rfl) (by kernel_rfl) (show zeroV Pg 26 = some (.agg [.nils, (.bool false)]) by kernel_rfl) (by decide) hr hn hw
theorem m68_3_2 : ∀ (c : CallF) (t' t : Tm) (l : Lo) (h : Hp) (j : V → Lo → Hp → R), gn Try.f68 68 3 2 c t' t l h j = go2 Try.f68 68 3 2 5 6 (gt t' 5) (gt t' 6) c t l h j := fun _ _ _ _ _ _ => gn_go2 (by kernel_rfl) (by decide)
theorem i68_3_2 : ApI Pg (opA Try.f68 3 2) 7 5 6 24 := ⟨by kernel_rfl, { callee := .builtin .append, args := #[.tmp 5, .tmp 6], argTypes := #[24, 24] }, by kernel_rfl, rfl, rfl, rfl, by kernel_rfl⟩
theorem n71_7_5 : ∀ (c : CallF) (t' t : Tm) (l : Lo) (h : Hp) (j : V → Lo → Hp → R), gn Try.f71 71 7 5 c t' t l h j = cvt .u64 (gt t' 25) (fun v => j v l h) := fun _ _ _ _ _ _ => gen_convert' (o := opA Try.f71 7 5) (d := 26) (s := 86) (t := 80) (by kernel_rfl) (by kernel_rfl) U86 U80
theorem n71_9_5 : ∀ (c : CallF) (t' t : Tm) (l : Lo) (h : Hp) (j : V → Lo → Hp → R), gn Try.f71 71 9 5 c t' t l h j = cvt .u64 (gt t' 36) (fun v => j v l h) := fun _ _ _ _ _ _ => gen_convert' (o := opA Try.f71 9 5) (d := 37) (s := 86) (t := 80) (by kernel_rfl) (by kernel_rfl) U86 U80
theorem n71_10_2 : ∀ (c : CallF) (t' t : Tm) (l : Lo) (h : Hp) (j : V → Lo → Hp → R), gn Try.f71 71 10 2 c t' t l h j = cvt .u32 (gt t' 40) (fun v => j v l h) := fun _ _ _ _ _ _ => gen_convert' (o := opA Try.f71 10 2) (d := 41) (s := 80) (t := 86) (by kernel_rfl) (by kernel_rfl) U80 U86
theorem m71_10_3 : ∀ (c : CallF) (t' t : Tm) (l : Lo) (h : Hp) (j : V → Lo → Hp → R), gn Try.f71 71 10 3 c t' t l h j = go1 Try.f71 71 10 3 41 (gt t' 41) c t l h j := fun _ _ _ _ _ _ => gn_go1 (by kernel_rfl)
theorem q71_10_3 : ∀ (c : CallF) (t : Tm) (l : Lo) (h : Hp) (j : V → Lo → Hp → R) (k : IntKind) (n : Nat), go1 Try.f71 71 10 3 41 (.int k (.ofNat n)) c t l h j = j (.arr (.loc 42 ((lg l 42).1 + 1)) 0 1 (some 1) 1 false) (lp l 42 ((lg l 42).1 + 1, .cells false (nl k [n]))) h := fun c t l h j k n => gen_one1 (C := Cg) (gl := Cg.glob 71) (call := c) (tm := t) (loc := l) (hp := h) (j := j) (t' := pt .lf 41 (.int k (.ofNat n))) (k := k) (n := n) (o := opA Try.f71 10 3) (d := 42) (x := .tmp 41) (t := 24) (e := 86) (by kernel_rfl) (by kernel_rfl) (by kernel_rfl) (by kernel_rfl) (by kernel_rfl) (by kernel_rfl) (show zeroV Pg 86 = some (.int .u32 (.ofNat 0)) by kernel_rfl) (by rw [opd_gt, gt_pt, if_pos rfl])
theorem m71_10_4 : ∀ (c : CallF) (t' t : Tm) (l : Lo) (h : Hp) (j : V → Lo → Hp → R), gn Try.f71 71 10 4 c t' t l h j = go2 Try.f71 71 10 4 39 42 (gt t' 39) (gt t' 42) c t l h j := fun _ _ _ _ _ _ => gn_go2 (by kernel_rfl) (by decide)
theorem i71_10_4 : ApI Pg (opA Try.f71 10 4) 43 39 42 24 := ⟨by kernel_rfl, { callee := .builtin .append, args := #[.tmp 39, .tmp 42], argTypes := #[24, 24] }, by kernel_rfl, rfl, rfl, rfl, by kernel_rfl⟩
theorem a71_10_4 {loc : Lo} {k : IntKind} {l : List Nat} {v : V} (n : Nat) (hv : Ar loc 43 v k l) (hn : l.length ≤ 1000000000) : ∃ v' loc', (∀ (c : CallF) (tm : Tm) (hp : Hp) (j : V → Lo → Hp → R), go2 Try.f71 71 10 4 39 42 v (.arr (.loc 42 ((lg loc 42).1 + 1)) 0 1 (some 1) 1 false) c tm (lp loc 42 ((lg loc 42).1 + 1, .cells false (nl k [n]))) hp j = j v' loc' hp) ∧ Ar loc' 43 v' k (l ++ [n]) ∧ ∀ i, i ≠ 43 → i ≠ 42 → lg loc' i = lg loc i := gen_push i71_10_4 (by kernel_rfl) (by kernel_rfl) (e := 86) (by kernel_rfl) (by kernel_rfl) (b := 4) (by kernel_rfl) (by decide) (by decide) n hv (by omega)
theorem m73_10_2 : ∀ (c : CallF) (t' t : Tm) (l : Lo) (h : Hp) (j : V → Lo → Hp → R), gn Try.f73 73 10 2 c t' t l h j = go1 Try.f73 73 10 2 33 (gt t' 33) c t l h j := fun _ _ _ _ _ _ => gn_go1 (by kernel_rfl)
theorem q73_10_2 : ∀ (c : CallF) (t : Tm) (l : Lo) (h : Hp) (j : V → Lo → Hp → R) (k : IntKind) (n : Nat), go1 Try.f73 73 10 2 33 (.int k (.ofNat n)) c t l h j = j (.arr (.loc 34 ((lg l 34).1 + 1)) 0 1 (some 1) 1 false) (lp l 34 ((lg l 34).1 + 1, .cells false (nl k [n]))) h := fun c t l h j k n => gen_one1 (C := Cg) (gl := Cg.glob 73) (call := c) (tm := t) (loc := l) (hp := h) (j := j) (t' := pt .lf 33 (.int k (.ofNat n))) (k := k) (n := n) (o := opA Try.f73 10 2) (d := 34) (x := .tmp 33) (t := 24) (e := 86) (by kernel_rfl) (by kernel_rfl) (by kernel_rfl) (by kernel_rfl) (by kernel_rfl) (by kernel_rfl) (show zeroV Pg 86 = some (.int .u32 (.ofNat 0)) by kernel_rfl) (by rw [opd_gt, gt_pt, if_pos rfl])
theorem m73_10_3 : ∀ (c : CallF) (t' t : Tm) (l : Lo) (h : Hp) (j : V → Lo → Hp → R), gn Try.f73 73 10 3 c t' t l h j = go2 Try.f73 73 10 3 32 34 (gt t' 32) (gt t' 34) c t l h j := fun _ _ _ _ _ _ => gn_go2 (by kernel_rfl) (by decide)
theorem i73_10_3 : ApI Pg (opA Try.f73 10 3) 35 32 34 24 := ⟨by kernel_rfl, { callee := .builtin .append, args := #[.tmp 32, .tmp 34], argTypes := #[24, 24] }, by kernel_rfl, rfl, rfl, rfl, by kernel_rfl⟩
theorem a73_10_3 {loc : Lo} {k : IntKind} {l : List Nat} {v : V} (n : Nat) (hv : Ar loc 35 v k l) (hn : l.length ≤ 1000000000) : ∃ v' loc', (∀ (c : CallF) (tm : Tm) (hp : Hp) (j : V → Lo → Hp → R), go2 Try.f73 73 10 3 32 34 v (.arr (.loc 34 ((lg loc 34).1 + 1)) 0 1 (some 1) 1 false) c tm (lp loc 34 ((lg loc 34).1 + 1, .cells false (nl k [n]))) hp j = j v' loc' hp) ∧ Ar loc' 35 v' k (l ++ [n]) ∧ ∀ i, i ≠ 35 → i ≠ 34 → lg loc' i = lg loc i := gen_push i73_10_3 (by kernel_rfl) (by kernel_rfl) (e := 86) (by kernel_rfl) (by kernel_rfl) (b := 4) (by kernel_rfl) (by decide) (by decide) n hv (by omega)
theorem m78_2_2 : ∀ (c : CallF) (t' t : Tm) (l : Lo) (h : Hp) (j : V → Lo → Hp → R), gn Try.f78 78 2 2 c t' t l h j = go1 Try.f78 78 2 2 20 (gt t' 20) c t l h j := fun _ _ _ _ _ _ => gn_go1' (by kernel_rfl)
theorem q78_2_2 : ∀ (c : CallF) (t : Tm) (l : Lo) (h : Hp) (j : V → Lo → Hp → R) (k : IntKind) (n : Nat), n ≤ 1000000000 → go1 Try.f78 78 2 2 20 (.int k (.ofNat n)) c t l h j = j (.arr (.loc 21 ((lg l 21).1 + 1)) 0 n (some n) 1 false) (lp l 21 ((lg l 21).1 + 1, .cells false (nl .u32 (List.replicate n 0)))) h := fun c t l h j k n hn => gen_make (C := Cg) (gl := Cg.glob 78) (call := c) (tm := t) (loc := l) (hp := h) (j := j) (t' := pt .lf 20 (.int k (.ofNat n))) (k1 := k) (n := n) (o := opA Try.f78 2 2) (d := 21) (x := 20) (t := 24) (e := 86) (b := 4) (by kernel_rfl) (by kernel_rfl) (by kernel_rfl) (by kernel_rfl) (by kernel_rfl) (by kernel_rfl) (by kernel_rfl) (by rw [gt_pt, if_pos rfl]) (by omega) (by omega)
theorem n78_6_6 : ∀ (c : CallF) (t' t : Tm) (l : Lo) (h : Hp) (j : V → Lo → Hp → R), gn Try.f78 78 6 6 c t' t l h j = cvt .u64 (gt t' 34) (fun v => j v l h) := fun _ _ _ _ _ _ => gen_convert' (o := opA Try.f78 6 6) (d := 35) (s := 86) (t := 80) (by kernel_rfl) (by kernel_rfl) U86 U80
theorem n78_7_6 : ∀ (c : CallF) (t' t : Tm) (l : Lo) (h : Hp) (j : V → Lo → Hp → R), gn Try.f78 78 7 6 c t' t l h j = cvt .u64 (gt t' 42) (fun v => j v l h) := fun _ _ _ _ _ _ => gen_convert' (o := opA Try.f78 7 6) (d := 43) (s := 86) (t := 80) (by kernel_rfl) (by kernel_rfl) U86 U80
theorem n78_7_8 : ∀ (c : CallF) (t' t : Tm) (l : Lo) (h : Hp) (j : V → Lo → Hp → R), gn Try.f78 78 7 8 c t' t l h j = cvt .u32 (gt t' 44) (fun v => j v l h) := fun _ _ _ _ _ _ => gen_convert' (o := opA Try.f78 7 8) (d := 45) (s := 80) (t := 86) (by kernel_rfl) (by kernel_rfl) U80 U86
theorem m78_7_10 : ∀ (c : CallF) (t' t : Tm) (l : Lo) (h : Hp) (j : V → Lo → Hp → R), gn Try.f78 78 7 10 c t' t l h j = go2 Try.f78 78 7 10 46 45 (gt t' 46) (gt t' 45) c t l h j := fun _ _ _ _ _ _ => gn_go2 (by kernel_rfl) (by decide)
theorem n78_8_4 : ∀ (c : CallF) (t' t : Tm) (l : Lo) (h : Hp) (j : V → Lo → Hp → R), gn Try.f78 78 8 4 c t' t l h j = cvt .u64 (gt t' 50) (fun v => j v l h) := fun _ _ _ _ _ _ => gen_convert' (o := opA Try.f78 8 4) (d := 51) (s := 86) (t := 80) (by kernel_rfl) (by kernel_rfl) U86 U80
theorem n78_9_2 : ∀ (c : CallF) (t' t : Tm) (l : Lo) (h : Hp) (j : V → Lo → Hp → R), gn Try.f78 78 9 2 c t' t l h j = cvt .u32 (gt t' 54) (fun v => j v l h) := fun _ _ _ _ _ _ => gen_convert' (o := opA Try.f78 9 2) (d := 55) (s := 80) (t := 86) (by kernel_rfl) (by kernel_rfl) U80 U86
theorem m78_9_3 : ∀ (c : CallF) (t' t : Tm) (l : Lo) (h : Hp) (j : V → Lo → Hp → R), gn Try.f78 78 9 3 c t' t l h j = go1 Try.f78 78 9 3 55 (gt t' 55) c t l h j := fun _ _ _ _ _ _ => gn_go1 (by kernel_rfl)
theorem q78_9_3 : ∀ (c : CallF) (t : Tm) (l : Lo) (h : Hp) (j : V → Lo → Hp → R) (k : IntKind) (n : Nat), go1 Try.f78 78 9 3 55 (.int k (.ofNat n)) c t l h j = j (.arr (.loc 56 ((lg l 56).1 + 1)) 0 1 (some 1) 1 false) (lp l 56 ((lg l 56).1 + 1, .cells false (nl k [n]))) h := fun c t l h j k n => gen_one1 (C := Cg) (gl := Cg.glob 78) (call := c) (tm := t) (loc := l) (hp := h) (j := j) (t' := pt .lf 55 (.int k (.ofNat n))) (k := k) (n := n) (o := opA Try.f78 9 3) (d := 56) (x := .tmp 55) (t := 24) (e := 86) (by kernel_rfl) (by kernel_rfl) (by kernel_rfl) (by kernel_rfl) (by kernel_rfl) (by kernel_rfl) (show zeroV Pg 86 = some (.int .u32 (.ofNat 0)) by kernel_rfl) (by rw [opd_gt, gt_pt, if_pos rfl])
theorem n78_10_7 : ∀ (c : CallF) (t' t : Tm) (l : Lo) (h : Hp) (j : V → Lo → Hp → R), gn Try.f78 78 10 7 c t' t l h j = cvt .u64 (gt t' 65) (fun v => j v l h) := fun _ _ _ _ _ _ => gen_convert' (o := opA Try.f78 10 7) (d := 66) (s := 3) (t := 87) (by kernel_rfl) (by kernel_rfl) U3 U87
theorem m78_13_2 : ∀ (c : CallF) (t' t : Tm) (l : Lo) (h : Hp) (j : V → Lo → Hp → R), gn Try.f78 78 13 2 c t' t l h j = go1 Try.f78 78 13 2 77 (gt t' 77) c t l h j := fun _ _ _ _ _ _ => gn_go1' (by kernel_rfl)
theorem q78_13_2 : ∀ (c : CallF) (t : Tm) (l : Lo) (h : Hp) (j : V → Lo → Hp → R) (k : IntKind) (n : Nat), n ≤ 1000000000 → go1 Try.f78 78 13 2 77 (.int k (.ofNat n)) c t l h j = j (.arr (.loc 78 ((lg l 78).1 + 1)) 0 n (some n) 1 false) (lp l 78 ((lg l 78).1 + 1, .cells false (nl .u32 (List.replicate n 0)))) h := fun c t l h j k n hn => gen_make (C := Cg) (gl := Cg.glob 78) (call := c) (tm := t) (loc := l) (hp := h) (j := j) (t' := pt .lf 77 (.int k (.ofNat n))) (k1 := k) (n := n) (o := opA Try.f78 13 2) (d := 78) (x := 77) (t := 24) (e := 86) (b := 4) (by kernel_rfl) (by kernel_rfl) (by kernel_rfl) (by kernel_rfl) (by kernel_rfl) (by kernel_rfl) (by kernel_rfl) (by rw [gt_pt, if_pos rfl]) (by omega) (by omega)
theorem n78_19_5 : ∀ (c : CallF) (t' t : Tm) (l : Lo) (h : Hp) (j : V → Lo → Hp → R), gn Try.f78 78 19 5 c t' t l h j = cvt .u64 (gt t' 112) (fun v => j v l h) := fun _ _ _ _ _ _ => gen_convert' (o := opA Try.f78 19 5) (d := 113) (s := 86) (t := 80) (by kernel_rfl) (by kernel_rfl) U86 U80
theorem n78_22_3 : ∀ (c : CallF) (t' t : Tm) (l : Lo) (h : Hp) (j : V → Lo → Hp → R), gn Try.f78 78 22 3 c t' t l h j = cvt .u32 (gt t' 131) (fun v => j v l h) := fun _ _ _ _ _ _ => gen_convert' (o := opA Try.f78 22 3) (d := 132) (s := 80) (t := 86) (by kernel_rfl) (by kernel_rfl) U80 U86
theorem m78_22_5 : ∀ (c : CallF) (t' t : Tm) (l : Lo) (h : Hp) (j : V → Lo → Hp → R), gn Try.f78 78 22 5 c t' t l h j = go2 Try.f78 78 22 5 133 132 (gt t' 133) (gt t' 132) c t l h j := fun _ _ _ _ _ _ => gn_go2 (by kernel_rfl) (by decide)
theorem m85_1_3 : ∀ (c : CallF) (t' t : Tm) (l : Lo) (h : Hp) (j : V → Lo → Hp → R), gn Try.f85 85 1 3 c t' t l h j = go1 Try.f85 85 1 3 11 (gt t' 11) c t l h j := fun _ _ _ _ _ _ => gn_go1' (by kernel_rfl)
theorem n85_5_1 : ∀ (c : CallF) (t' t : Tm) (l : Lo) (h : Hp) (j : V → Lo → Hp → R), gn Try.f85 85 5 1 c t' t l h j = cvt .u64 (gt t' 20) (fun v => j v l h) := fun _ _ _ _ _ _ => gen_convert' (o := opA Try.f85 5 1) (d := 21) (s := 86) (t := 80) (by kernel_rfl) (by kernel_rfl) U86 U80
theorem n85_6_5 : ∀ (c : CallF) (t' t : Tm) (l : Lo) (h : Hp) (j : V → Lo → Hp → R), gn Try.f85 85 6 5 c t' t l h j = cvt .u32 (gt t' 28) (fun v => j v l h) := fun _ _ _ _ _ _ => gen_convert' (o := opA Try.f85 6 5) (d := 29) (s := 80) (t := 86) (by kernel_rfl) (by kernel_rfl) U80 U86
theorem m85_6_8 : ∀ (c : CallF) (t' t : Tm) (l : Lo) (h : Hp) (j : V → Lo → Hp → R), gn Try.f85 85 6 8 c t' t l h j = go2 Try.f85 85 6 8 31 30 (gt t' 31) (gt t' 30) c t l h j := fun _ _ _ _ _ _ => gn_go2 (by kernel_rfl) (by decide)
theorem w85_6_8 {r off n : Nat} {d : List Nat} {h : Hp} (hr : h.rows[r]? = some (.cells false (nl .u32 d))) (ho : off < d.length) (c : CallF) (t : Tm) (l : Lo) (j : V → Lo → Hp → R) : go2 Try.f85 85 6 8 31 30 (.ptr (.glob r) off) (.int .u32 (.ofNat n)) c t l h j = j (.tuple []) l (hset h r (.cells false (nl .u32 (d.set off n)))) := gen_store_glob (C := Cg) (gl := Cg.glob 85) (call := c) (o := opA Try.f85 6 8) (t := 86) (by kernel_rfl) (by kernel_rfl) (by decide) (by kernel_rfl) hr ho
theorem n85_7_5 : ∀ (c : CallF) (t' t : Tm) (l : Lo) (h : Hp) (j : V → Lo → Hp → R), gn Try.f85 85 7 5 c t' t l h j = cvt .u32 (gt t' 36) (fun v => j v l h) := fun _ _ _ _ _ _ => gen_convert' (o := opA Try.f85 7 5) (d := 37) (s := 80) (t := 86) (by kernel_rfl) (by kernel_rfl) U80 U86
theorem m85_7_7 : ∀ (c : CallF) (t' t : Tm) (l : Lo) (h : Hp) (j : V → Lo → Hp → R), gn Try.f85 85 7 7 c t' t l h j = go2 Try.f85 85 7 7 38 37 (gt t' 38) (gt t' 37) c t l h j := fun _ _ _ _ _ _ => gn_go2 (by kernel_rfl) (by decide)
theorem w85_7_7 {r off n : Nat} {d : List Nat} {h : Hp} (hr : h.rows[r]? = some (.cells false (nl .u32 d))) (ho : off < d.length) (c : CallF) (t : Tm) (l : Lo) (j : V → Lo → Hp → R) : go2 Try.f85 85 7 7 38 37 (.ptr (.glob r) off) (.int .u32 (.ofNat n)) c t l h j = j (.tuple []) l (hset h r (.cells false (nl .u32 (d.set off n)))) := gen_store_glob (C := Cg) (gl := Cg.glob 85) (call := c) (o := opA Try.f85 7 7) (t := 86) (by kernel_rfl) (by kernel_rfl) (by decide) (by kernel_rfl) hr ho
theorem m86_7_2 : ∀ (c : CallF) (t' t : Tm) (l : Lo) (h : Hp) (j : V → Lo → Hp → R), gn Try.f86 86 7 2 c t' t l h j = go2 Try.f86 86 7 2 28 29 (gt t' 28) (gt t' 29) c t l h j := fun _ _ _ _ _ _ => gn_go2 (by kernel_rfl) (by decide)
theorem m87_1_2 : ∀ (c : CallF) (t' t : Tm) (l : Lo) (h : Hp) (j : V → Lo → Hp → R), gn Try.f87 87 1 2 c t' t l h j = go1 Try.f87 87 1 2 10 (gt t' 10) c t l h j := fun _ _ _ _ _ _ => gn_go1' (by kernel_rfl)
theorem q87_1_2 : ∀ (c : CallF) (t : Tm) (l : Lo) (h : Hp) (j : V → Lo → Hp → R) (k : IntKind) (n : Nat), n ≤ 1000000000 → go1 Try.f87 87 1 2 10 (.int k (.ofNat n)) c t l h j = j (.arr (.loc 11 ((lg l 11).1 + 1)) 0 n (some n) 1 false) (lp l 11 ((lg l 11).1 + 1, .cells false (nl .u32 (List.replicate n 0)))) h := fun c t l h j k n hn => gen_make (C := Cg) (gl := Cg.glob 87) (call := c) (tm := t) (loc := l) (hp := h) (j := j) (t' := pt .lf 10 (.int k (.ofNat n))) (k1 := k) (n := n) (o := opA Try.f87 1 2) (d := 11) (x := 10) (t := 24) (e := 86) (b := 4) (by kernel_rfl) (by kernel_rfl) (by kernel_rfl) (by kernel_rfl) (by kernel_rfl) (by kernel_rfl) (by kernel_rfl) (by rw [gt_pt, if_pos rfl]) (by omega) (by omega)
theorem n87_5_1 : ∀ (c : CallF) (t' t : Tm) (l : Lo) (h : Hp) (j : V → Lo → Hp → R), gn Try.f87 87 5 1 c t' t l h j = cvt .u64 (gt t' 19) (fun v => j v l h) := fun _ _ _ _ _ _ => gen_convert' (o := opA Try.f87 5 1) (d := 20) (s := 86) (t := 80) (by kernel_rfl) (by kernel_rfl) U86 U80
theorem n87_6_6 : ∀ (c : CallF) (t' t : Tm) (l : Lo) (h : Hp) (j : V → Lo → Hp → R), gn Try.f87 87 6 6 c t' t l h j = cvt .u32 (gt t' 29) (fun v => j v l h) := fun _ _ _ _ _ _ => gen_convert' (o := opA Try.f87 6 6) (d := 30) (s := 80) (t := 86) (by kernel_rfl) (by kernel_rfl) U80 U86
theorem m87_6_9 : ∀ (c : CallF) (t' t : Tm) (l : Lo) (h : Hp) (j : V → Lo → Hp → R), gn Try.f87 87 6 9 c t' t l h j = go2 Try.f87 87 6 9 32 31 (gt t' 32) (gt t' 31) c t l h j := fun _ _ _ _ _ _ => gn_go2 (by kernel_rfl) (by decide)
theorem n87_8_6 : ∀ (c : CallF) (t' t : Tm) (l : Lo) (h : Hp) (j : V → Lo → Hp → R), gn Try.f87 87 8 6 c t' t l h j = cvt .u32 (gt t' 40) (fun v => j v l h) := fun _ _ _ _ _ _ => gen_convert' (o := opA Try.f87 8 6) (d := 41) (s := 80) (t := 86) (by kernel_rfl) (by kernel_rfl) U80 U86
theorem m87_8_9 : ∀ (c : CallF) (t' t : Tm) (l : Lo) (h : Hp) (j : V → Lo → Hp → R), gn Try.f87 87 8 9 c t' t l h j = go2 Try.f87 87 8 9 43 42 (gt t' 43) (gt t' 42) c t l h j := fun _ _ _ _ _ _ => gn_go2 (by kernel_rfl) (by decide)
theorem n89_7_2 : ∀ (c : CallF) (t' t : Tm) (l : Lo) (h : Hp) (j : V → Lo → Hp → R), gn Try.f89 89 7 2 c t' t l h j = cvt .u8 (gt t' 14) (fun v => j v l h) := fun _ _ _ _ _ _ => gen_convert' (o := opA Try.f89 7 2) (d := 15) (s := 86) (t := 5) (by kernel_rfl) (by kernel_rfl) U86 U5
theorem n89_7_4 : ∀ (c : CallF) (t' t : Tm) (l : Lo) (h : Hp) (j : V → Lo → Hp → R), gn Try.f89 89 7 4 c t' t l h j = cvt .i64 (gt t' 16) (fun v => j v l h) := fun _ _ _ _ _ _ => gen_convert' (o := opA Try.f89 7 4) (d := 17) (s := 5) (t := 3) (by kernel_rfl) (by kernel_rfl) U5 U3
def r_ld_iptr_L2 := ld_iptr L2
def r_ldc_fst_L2 := ldc_fst L2
def r_ldc_snd_L2 := ldc_snd L2
def r_ldc_nl_L2 := ldc_nl L2
def r_ldg_cells_L2 := ldg_cells L2
def r_stc_nl_N2 := stc_nl N2
def r_ld_iptr_L3 := ld_iptr L3
def r_ldc_fst_L3 := ldc_fst L3
def r_ldc_snd_L3 := ldc_snd L3
def r_ldc_nl_L3 := ldc_nl L3
def r_ldg_cells_L3 := ldg_cells L3
def r_stc_nl_N3 := stc_nl N3
def r_ld_iptr_L4 := ld_iptr L4
def r_ldc_fst_L4 := ldc_fst L4
def r_ldc_snd_L4 := ldc_snd L4
def r_ldc_nl_L4 := ldc_nl L4
def r_ldg_cells_L4 := ldg_cells L4
def r_stc_nl_N4 := stc_nl N4
def r_ld_iptr_L5 := ld_iptr L5
def r_ldc_fst_L5 := ldc_fst L5
def r_ldc_snd_L5 := ldc_snd L5
def r_ldc_nl_L5 := ldc_nl L5
def r_ldg_cells_L5 := ldg_cells L5
def r_stc_nl_N5 := stc_nl N5
def r_ld_iptr_L9 := ld_iptr L9
def r_ldc_fst_L9 := ldc_fst L9
def r_ldc_snd_L9 := ldc_snd L9
def r_ldc_nl_L9 := ldc_nl L9
def r_ldg_cells_L9 := ldg_cells L9
def r_stc_nl_N9 := stc_nl N9
def r_ld_iptr_L21 := ld_iptr L21
def r_ldc_fst_L21 := ldc_fst L21
def r_ldc_snd_L21 := ldc_snd L21
def r_ldc_nl_L21 := ldc_nl L21
def r_ldg_cells_L21 := ldg_cells L21
def r_stc_nl_N21 := stc_nl N21
def r_ia_slice_E24_L86 := ia_slice E24 L86
def r_ia_arr_E24_L86 := ia_arr E24 L86
def r_slc_init_E24_L86 := slc_init E24 L86
def r_slc_arr_E24_L86 := slc_arr E24 L86
def r_ld_iptr_L24 := ld_iptr L24
def r_ldc_fst_L24 := ldc_fst L24
def r_ldc_snd_L24 := ldc_snd L24
def r_ldc_nl_L24 := ldc_nl L24
def r_ldg_cells_L24 := ldg_cells L24
def r_stc_nl_N24 := stc_nl N24
def r_ldc_two_L26 := ldc_two L26
def r_stc_two_N26 := stc_two N26
def r_al_eq_Z26_S26_rfl_rfl := al_eq Z26 S26 rfl rfl
def r_ia_slice_E29_L3 := ia_slice E29 L3
def r_ia_arr_E29_L3 := ia_arr E29 L3
def r_slc_init_E29_L3 := slc_init E29 L3
def r_slc_arr_E29_L3 := slc_arr E29 L3
def r_ld_iptr_L29 := ld_iptr L29
def r_ldc_fst_L29 := ldc_fst L29
def r_ldc_snd_L29 := ldc_snd L29
def r_ldc_nl_L29 := ldc_nl L29
def r_ldg_cells_L29 := ldg_cells L29
def r_stc_nl_N29 := stc_nl N29
def r_ia_slice_E51_L5 := ia_slice E51 L5
def r_ia_arr_E51_L5 := ia_arr E51 L5
def r_slc_init_E51_L5 := slc_init E51 L5
def r_slc_arr_E51_L5 := slc_arr E51 L5
def r_ld_iptr_L51 := ld_iptr L51
def r_ldc_fst_L51 := ldc_fst L51
def r_ldc_snd_L51 := ldc_snd L51
def r_ldc_nl_L51 := ldc_nl L51
def r_ldg_cells_L51 := ldg_cells L51
def r_stc_nl_N51 := stc_nl N51
def r_ld_iptr_L80 := ld_iptr L80
def r_ldc_fst_L80 := ldc_fst L80
def r_ldc_snd_L80 := ldc_snd L80
def r_ldc_nl_L80 := ldc_nl L80
def r_ldg_cells_L80 := ldg_cells L80
def r_stc_nl_N80 := stc_nl N80
def r_ld_iptr_L86 := ld_iptr L86
def r_ldc_fst_L86 := ldc_fst L86
def r_ldc_snd_L86 := ldc_snd L86
def r_ldc_nl_L86 := ldc_nl L86
def r_ldg_cells_L86 := ldg_cells L86
def r_stc_nl_N86 := stc_nl N86
def r_ld_iptr_L87 := ld_iptr L87
def r_ldc_fst_L87 := ldc_fst L87
def r_ldc_snd_L87 := ldc_snd L87
def r_ldc_nl_L87 := ldc_nl L87
def r_ldg_cells_L87 := ldg_cells L87
def r_stc_nl_N87 := stc_nl N87
theorem d25_2_8 {s g off : Nat} {v : V} {c : CallF} {t' : Tm} {l : Lo} {h : Hp} {J : JD} {X : XD} (ha : gt t' 4 = .ptr (.loc s g) off) (hx : gt t' 18 = v) : gD Try.f25 25 2 8 c t' l h J X = stc Pg 26 g off v (lg l s) (fun row => J (.tuple []) ⟨[s], [s], false, false, false, false⟩ (lp l s row) h) := by subst hx; exact genD_store (C := Cg) (gl := Cg.glob 25) (call := c) (o := opA Try.f25 2 8) (by kernel_rfl) (by kernel_rfl) ha
theorem dd25_2_8 (s g off : Nat) (v : V) (c : CallF) (t : Tm) (l : Lo) (h : Hp) (J : JD) (X : XD) : gD Try.f25 25 2 8 c (pt (pt t 4 (.ptr (.loc s g) off)) 18 v) l h J X = stc Pg 26 g off v (lg l s) (fun row => J (.tuple []) ⟨[s], [s], false, false, false, false⟩ (lp l s row) h) := d25_2_8 (by rw [gt_pt, if_neg (by decide), gt_pt, if_pos rfl]) (by rw [gt_pt, if_pos rfl])
theorem d25_4_8 {s g off : Nat} {v : V} {c : CallF} {t' : Tm} {l : Lo} {h : Hp} {J : JD} {X : XD} (ha : gt t' 4 = .ptr (.loc s g) off) (hx : gt t' 33 = v) : gD Try.f25 25 4 8 c t' l h J X = stc Pg 26 g off v (lg l s) (fun row => J (.tuple []) ⟨[s], [s], false, false, false, false⟩ (lp l s row) h) := by subst hx; exact genD_store (C := Cg) (gl := Cg.glob 25) (call := c) (o := opA Try.f25 4 8) (by kernel_rfl) (by kernel_rfl) ha
theorem dd25_4_8 (s g off : Nat) (v : V) (c : CallF) (t : Tm) (l : Lo) (h : Hp) (J : JD) (X : XD) : gD Try.f25 25 4 8 c (pt (pt t 4 (.ptr (.loc s g) off)) 33 v) l h J X = stc Pg 26 g off v (lg l s) (fun row => J (.tuple []) ⟨[s], [s], false, false, false, false⟩ (lp l s row) h) := d25_4_8 (by rw [gt_pt, if_neg (by decide), gt_pt, if_pos rfl]) (by rw [gt_pt, if_pos rfl])
theorem d25_5_8 {s g off : Nat} {v : V} {c : CallF} {t' : Tm} {l : Lo} {h : Hp} {J : JD} {X : XD} (ha : gt t' 4 = .ptr (.loc s g) off) (hx : gt t' 41 = v) : gD Try.f25 25 5 8 c t' l h J X = stc Pg 26 g off v (lg l s) (fun row => J (.tuple []) ⟨[s], [s], false, false, false, false⟩ (lp l s row) h) := by subst hx; exact genD_store (C := Cg) (gl := Cg.glob 25) (call := c) (o := opA Try.f25 5 8) (by kernel_rfl) (by kernel_rfl) ha
theorem dd25_5_8 (s g off : Nat) (v : V) (c : CallF) (t : Tm) (l : Lo) (h : Hp) (J : JD) (X : XD) : gD Try.f25 25 5 8 c (pt (pt t 4 (.ptr (.loc s g) off)) 41 v) l h J X = stc Pg 26 g off v (lg l s) (fun row => J (.tuple []) ⟨[s], [s], false, false, false, false⟩ (lp l s row) h) := d25_5_8 (by rw [gt_pt, if_neg (by decide), gt_pt, if_pos rfl]) (by rw [gt_pt, if_pos rfl])
theorem d27_1_4 {s g off : Nat} {v : V} {c : CallF} {t' : Tm} {l : Lo} {h : Hp} {J : JD} {X : XD} (ha : gt t' 4 = .ptr (.loc s g) off) (hx : gt t' 8 = v) : gD Try.f27 27 1 4 c t' l h J X = stc Pg 26 g off v (lg l s) (fun row => J (.tuple []) ⟨[s], [s], false, false, false, false⟩ (lp l s row) h) := by subst hx; exact genD_store (C := Cg) (gl := Cg.glob 27) (call := c) (o := opA Try.f27 1 4) (by kernel_rfl) (by kernel_rfl) ha
theorem dd27_1_4 (s g off : Nat) (v : V) (c : CallF) (t : Tm) (l : Lo) (h : Hp) (J : JD) (X : XD) : gD Try.f27 27 1 4 c (pt (pt t 4 (.ptr (.loc s g) off)) 8 v) l h J X = stc Pg 26 g off v (lg l s) (fun row => J (.tuple []) ⟨[s], [s], false, false, false, false⟩ (lp l s row) h) := d27_1_4 (by rw [gt_pt, if_neg (by decide), gt_pt, if_pos rfl]) (by rw [gt_pt, if_pos rfl])
theorem d37_2_2 {s g off : Nat} {v : V} {c : CallF} {t' : Tm} {l : Lo} {h : Hp} {J : JD} {X : XD} (ha : gt t' 4 = .ptr (.loc s g) off) (hx : gt t' 15 = v) : gD Try.f37 37 2 2 c t' l h J X = stc Pg 26 g off v (lg l s) (fun row => J (.tuple []) ⟨[s], [s], false, false, false, false⟩ (lp l s row) h) := by subst hx; exact genD_store (C := Cg) (gl := Cg.glob 37) (call := c) (o := opA Try.f37 2 2) (by kernel_rfl) (by kernel_rfl) ha
theorem dd37_2_2 (s g off : Nat) (v : V) (c : CallF) (t : Tm) (l : Lo) (h : Hp) (J : JD) (X : XD) : gD Try.f37 37 2 2 c (pt (pt t 4 (.ptr (.loc s g) off)) 15 v) l h J X = stc Pg 26 g off v (lg l s) (fun row => J (.tuple []) ⟨[s], [s], false, false, false, false⟩ (lp l s row) h) := d37_2_2 (by rw [gt_pt, if_neg (by decide), gt_pt, if_pos rfl]) (by rw [gt_pt, if_pos rfl])
theorem d37_2_3 {s g off : Nat} {v : V} {c : CallF} {t' : Tm} {l : Lo} {h : Hp} {J : JD} {X : XD} (ha : gt t' 5 = .ptr (.loc s g) off) (hx : gt t' 16 = v) : gD Try.f37 37 2 3 c t' l h J X = stc Pg 26 g off v (lg l s) (fun row => J (.tuple []) ⟨[s], [s], false, false, false, false⟩ (lp l s row) h) := by subst hx; exact genD_store (C := Cg) (gl := Cg.glob 37) (call := c) (o := opA Try.f37 2 3) (by kernel_rfl) (by kernel_rfl) ha
theorem dd37_2_3 (s g off : Nat) (v : V) (c : CallF) (t : Tm) (l : Lo) (h : Hp) (J : JD) (X : XD) : gD Try.f37 37 2 3 c (pt (pt t 5 (.ptr (.loc s g) off)) 16 v) l h J X = stc Pg 26 g off v (lg l s) (fun row => J (.tuple []) ⟨[s], [s], false, false, false, false⟩ (lp l s row) h) := d37_2_3 (by rw [gt_pt, if_neg (by decide), gt_pt, if_pos rfl]) (by rw [gt_pt, if_pos rfl])
theorem d37_8_5 {s g off : Nat} {v : V} {c : CallF} {t' : Tm} {l : Lo} {h : Hp} {J : JD} {X : XD} (ha : gt t' 7 = .ptr (.loc s g) off) (hx : gt t' 56 = v) : gD Try.f37 37 8 5 c t' l h J X = stc Pg 26 g off v (lg l s) (fun row => J (.tuple []) ⟨[s], [s], false, false, false, false⟩ (lp l s row) h) := by subst hx; exact genD_store (C := Cg) (gl := Cg.glob 37) (call := c) (o := opA Try.f37 8 5) (by kernel_rfl) (by kernel_rfl) ha
theorem dd37_8_5 (s g off : Nat) (v : V) (c : CallF) (t : Tm) (l : Lo) (h : Hp) (J : JD) (X : XD) : gD Try.f37 37 8 5 c (pt (pt t 7 (.ptr (.loc s g) off)) 56 v) l h J X = stc Pg 26 g off v (lg l s) (fun row => J (.tuple []) ⟨[s], [s], false, false, false, false⟩ (lp l s row) h) := d37_8_5 (by rw [gt_pt, if_neg (by decide), gt_pt, if_pos rfl]) (by rw [gt_pt, if_pos rfl])
theorem d37_13_2 {s g off : Nat} {v : V} {c : CallF} {t' : Tm} {l : Lo} {h : Hp} {J : JD} {X : XD} (ha : gt t' 4 = .ptr (.loc s g) off) (hx : gt t' 64 = v) : gD Try.f37 37 13 2 c t' l h J X = stc Pg 26 g off v (lg l s) (fun row => J (.tuple []) ⟨[s], [s], false, false, false, false⟩ (lp l s row) h) := by subst hx; exact genD_store (C := Cg) (gl := Cg.glob 37) (call := c) (o := opA Try.f37 13 2) (by kernel_rfl) (by kernel_rfl) ha
theorem dd37_13_2 (s g off : Nat) (v : V) (c : CallF) (t : Tm) (l : Lo) (h : Hp) (J : JD) (X : XD) : gD Try.f37 37 13 2 c (pt (pt t 4 (.ptr (.loc s g) off)) 64 v) l h J X = stc Pg 26 g off v (lg l s) (fun row => J (.tuple []) ⟨[s], [s], false, false, false, false⟩ (lp l s row) h) := d37_13_2 (by rw [gt_pt, if_neg (by decide), gt_pt, if_pos rfl]) (by rw [gt_pt, if_pos rfl])
theorem d37_13_3 {s g off : Nat} {v : V} {c : CallF} {t' : Tm} {l : Lo} {h : Hp} {J : JD} {X : XD} (ha : gt t' 5 = .ptr (.loc s g) off) (hx : gt t' 65 = v) : gD Try.f37 37 13 3 c t' l h J X = stc Pg 26 g off v (lg l s) (fun row => J (.tuple []) ⟨[s], [s], false, false, false, false⟩ (lp l s row) h) := by subst hx; exact genD_store (C := Cg) (gl := Cg.glob 37) (call := c) (o := opA Try.f37 13 3) (by kernel_rfl) (by kernel_rfl) ha
theorem dd37_13_3 (s g off : Nat) (v : V) (c : CallF) (t : Tm) (l : Lo) (h : Hp) (J : JD) (X : XD) : gD Try.f37 37 13 3 c (pt (pt t 5 (.ptr (.loc s g) off)) 65 v) l h J X = stc Pg 26 g off v (lg l s) (fun row => J (.tuple []) ⟨[s], [s], false, false, false, false⟩ (lp l s row) h) := d37_13_3 (by rw [gt_pt, if_neg (by decide), gt_pt, if_pos rfl]) (by rw [gt_pt, if_pos rfl])
theorem d69_3_13 {s g off : Nat} {v : V} {c : CallF} {t' : Tm} {l : Lo} {h : Hp} {J : JD} {X : XD} (ha : gt t' 26 = .ptr (.loc s g) off) (hx : gt t' 21 = v) : gD Try.f69 69 3 13 c t' l h J X = stc Pg 5 g off v (lg l s) (fun row => J (.tuple []) ⟨[s], [s], false, false, false, false⟩ (lp l s row) h) := by subst hx; exact genD_store (C := Cg) (gl := Cg.glob 69) (call := c) (o := opA Try.f69 3 13) (by kernel_rfl) (by kernel_rfl) ha
theorem dd69_3_13 (s g off : Nat) (v : V) (c : CallF) (t : Tm) (l : Lo) (h : Hp) (J : JD) (X : XD) : gD Try.f69 69 3 13 c (pt (pt t 26 (.ptr (.loc s g) off)) 21 v) l h J X = stc Pg 5 g off v (lg l s) (fun row => J (.tuple []) ⟨[s], [s], false, false, false, false⟩ (lp l s row) h) := d69_3_13 (by rw [gt_pt, if_neg (by decide), gt_pt, if_pos rfl]) (by rw [gt_pt, if_pos rfl])
theorem dg69_3_13 {r off n : Nat} {d : List Nat} {h : Hp} (hr : h.rows[r]? = some (.cells false (nl .u8 d))) (ho : off < d.length) (c : CallF) (t : Tm) (l : Lo) (J : JD) (X : XD) : gD Try.f69 69 3 13 c (pt (pt t 26 (.ptr (.glob r) off)) 21 (.int .u8 (.ofNat n))) l h J X = J (.tuple []) ⟨[], [], true, true, false, false⟩ l (hset h r (.cells false (nl .u8 (d.set off n)))) := genD_store_glob (C := Cg) (a := 26) (x := 21) (hp := h) (loc := l) (J := J) (X := X) (t' := pt (pt t 26 (.ptr (.glob r) off)) 21 (.int .u8 (.ofNat n))) (gl := Cg.glob 69) (call := c) (o := opA Try.f69 3 13) (t := 5) (by kernel_rfl) (by kernel_rfl) (by kernel_rfl) (by rw [gt_pt, if_neg (by decide), gt_pt, if_pos rfl]) (by rw [gt_pt, if_pos rfl]) hr ho
theorem d69_3_15 {s g off : Nat} {v : V} {c : CallF} {t' : Tm} {l : Lo} {h : Hp} {J : JD} {X : XD} (ha : gt t' 27 = .ptr (.loc s g) off) (hx : gt t' 25 = v) : gD Try.f69 69 3 15 c t' l h J X = stc Pg 5 g off v (lg l s) (fun row => J (.tuple []) ⟨[s], [s], false, false, false, false⟩ (lp l s row) h) := by subst hx; exact genD_store (C := Cg) (gl := Cg.glob 69) (call := c) (o := opA Try.f69 3 15) (by kernel_rfl) (by kernel_rfl) ha
theorem dd69_3_15 (s g off : Nat) (v : V) (c : CallF) (t : Tm) (l : Lo) (h : Hp) (J : JD) (X : XD) : gD Try.f69 69 3 15 c (pt (pt t 27 (.ptr (.loc s g) off)) 25 v) l h J X = stc Pg 5 g off v (lg l s) (fun row => J (.tuple []) ⟨[s], [s], false, false, false, false⟩ (lp l s row) h) := d69_3_15 (by rw [gt_pt, if_neg (by decide), gt_pt, if_pos rfl]) (by rw [gt_pt, if_pos rfl])
theorem dg69_3_15 {r off n : Nat} {d : List Nat} {h : Hp} (hr : h.rows[r]? = some (.cells false (nl .u8 d))) (ho : off < d.length) (c : CallF) (t : Tm) (l : Lo) (J : JD) (X : XD) : gD Try.f69 69 3 15 c (pt (pt t 27 (.ptr (.glob r) off)) 25 (.int .u8 (.ofNat n))) l h J X = J (.tuple []) ⟨[], [], true, true, false, false⟩ l (hset h r (.cells false (nl .u8 (d.set off n)))) := genD_store_glob (C := Cg) (a := 27) (x := 25) (hp := h) (loc := l) (J := J) (X := X) (t' := pt (pt t 27 (.ptr (.glob r) off)) 25 (.int .u8 (.ofNat n))) (gl := Cg.glob 69) (call := c) (o := opA Try.f69 3 15) (t := 5) (by kernel_rfl) (by kernel_rfl) (by kernel_rfl) (by rw [gt_pt, if_neg (by decide), gt_pt, if_pos rfl]) (by rw [gt_pt, if_pos rfl]) hr ho
attribute [go_sem] g0_ g1_ g2_ g3_ g4_ g5_ g6_ g7_ g8_ g9_ g10_ g11_ g12_ g13_ g14_ g15_ g20_ g21_ g22_ g28_ g29_ g30_ g57_ p0_ p1_ p2_ p3_ p4_ p5_ p6_ p7_ p8_ p9_ p10_ p11_ p12_ p13_ p14_ p15_ p16_ p17_ p18_ p19_ p20_ p21_ p22_ p23_ p24_ p25_ p26_ p27_ p28_ p29_ p30_ p31_ p32_ p33_ p34_ p35_ p36_ p37_ p38_ p39_ p40_ p41_ p42_ p43_ p44_ p45_ p46_ p50_ p51_ p52_ p54_ p55_ p56_ p57_ p58_ p59_ p60_ p61_ p62_ p63_ p64_ p65_ p66_ p67_ p68_ p75_ p76_ p77_ p82_ p83_ p84_ p86_ p87_ p88_ p97_ p105_ p112_ p126_ p131_ p132_ p133_ U2 U3 U4 U5 U9 U21 U24 U29 U51 U80 U86 U87 r_ld_iptr_L2 r_ldc_fst_L2 r_ldc_snd_L2 r_ldc_nl_L2 r_ldg_cells_L2 r_stc_nl_N2 r_ld_iptr_L3 r_ldc_fst_L3 r_ldc_snd_L3 r_ldc_nl_L3 r_ldg_cells_L3 r_stc_nl_N3 r_ld_iptr_L4 r_ldc_fst_L4 r_ldc_snd_L4 r_ldc_nl_L4 r_ldg_cells_L4 r_stc_nl_N4 r_ld_iptr_L5 r_ldc_fst_L5 r_ldc_snd_L5 r_ldc_nl_L5 r_ldg_cells_L5 r_stc_nl_N5 r_ld_iptr_L9 r_ldc_fst_L9 r_ldc_snd_L9 r_ldc_nl_L9 r_ldg_cells_L9 r_stc_nl_N9 r_ld_iptr_L21 r_ldc_fst_L21 r_ldc_snd_L21 r_ldc_nl_L21 r_ldg_cells_L21 r_stc_nl_N21 r_ia_slice_E24_L86 r_ia_arr_E24_L86 r_slc_init_E24_L86 r_slc_arr_E24_L86 r_ld_iptr_L24 r_ldc_fst_L24 r_ldc_snd_L24 r_ldc_nl_L24 r_ldg_cells_L24 r_stc_nl_N24 r_ldc_two_L26 r_stc_two_N26 r_al_eq_Z26_S26_rfl_rfl r_ia_slice_E29_L3 r_ia_arr_E29_L3 r_slc_init_E29_L3 r_slc_arr_E29_L3 r_ld_iptr_L29 r_ldc_fst_L29 r_ldc_snd_L29 r_ldc_nl_L29 r_ldg_cells_L29 r_stc_nl_N29 r_ia_slice_E51_L5 r_ia_arr_E51_L5 r_slc_init_E51_L5 r_slc_arr_E51_L5 r_ld_iptr_L51 r_ldc_fst_L51 r_ldc_snd_L51 r_ldc_nl_L51 r_ldg_cells_L51 r_stc_nl_N51 r_ld_iptr_L80 r_ldc_fst_L80 r_ldc_snd_L80 r_ldc_nl_L80 r_ldg_cells_L80 r_stc_nl_N80 r_ld_iptr_L86 r_ldc_fst_L86 r_ldc_snd_L86 r_ldc_nl_L86 r_ldg_cells_L86 r_stc_nl_N86 r_ld_iptr_L87 r_ldc_fst_L87 r_ldc_snd_L87 r_ldc_nl_L87 r_ldg_cells_L87 r_stc_nl_N87 FA26_0 FA26_1 n5_11_4 n18_0_0 n18_10_6 n18_11_4 m18_11_6 n18_17_4 m18_17_5 q18_17_5 m18_17_6 q18_23_1 m18_23_2 m18_25_1 n21_1_1 n21_4_1 n21_4_4 m21_4_5 n25_0_0 n25_0_1 n27_0_0 n27_0_1 n29_0_0 n29_0_1 m29_1_7 q29_1_7 n29_9_2 n29_9_4 n29_9_12 n29_10_5 m29_10_7 n29_13_7 m29_13_9 n31_0_0 n33_0_0 n33_0_1 n35_0_0 q35_1_1 n37_0_0 n37_0_1 q37_3_0 n64_4_2 n64_5_3 m64_5_5 n64_9_2 m64_9_3 q64_9_3 m64_9_4 m65_3_7 m68_3_2 n71_7_5 n71_9_5 n71_10_2 m71_10_3 q71_10_3 m71_10_4 m73_10_2 q73_10_2 m73_10_3 m78_2_2 q78_2_2 n78_6_6 n78_7_6 n78_7_8 m78_7_10 n78_8_4 n78_9_2 m78_9_3 q78_9_3 n78_10_7 m78_13_2 q78_13_2 n78_19_5 n78_22_3 m78_22_5 m85_1_3 n85_5_1 n85_6_5 m85_6_8 n85_7_5 m85_7_7 m86_7_2 m87_1_2 q87_1_2 n87_5_1 n87_6_6 m87_6_9 n87_8_6 m87_8_9 n89_7_2 n89_7_4 dd25_2_8 dd25_4_8 dd25_5_8 dd27_1_4 dd37_2_2 dd37_2_3 dd37_8_5 dd37_13_2 dd37_13_3 dd69_3_13 dd69_3_15
end Go.AM.S
end
section
namespace NumL
def vl (B : Nat) : List Nat → Nat
 | [] => 0
 | x :: l => x + B * vl B l
def Dg (B : Nat) (l : List Nat) : Prop := ∀ x ∈ l, x < B
theorem vl_append (B : Nat) (a b : List Nat) : vl B (a ++ b) = vl B a + B ^ a.length * vl B b := by
 induction a with
 | nil => simp [vl]
 | cons x a ih =>
  simp only [List.cons_append, vl, ih, List.length_cons, Nat.pow_succ, Nat.mul_add]
  have : B * (B ^ a.length * vl B b) = B ^ a.length * B * vl B b := by rw [← Nat.mul_assoc, Nat.mul_comm B]
  omega
theorem vl_one (B x : Nat) : vl B [x] = x := by simp [vl]
theorem vl_lt {B : Nat} (hB : 0 < B) {l : List Nat} (h : Dg B l) : vl B l < B ^ l.length := by
 induction l with
 | nil => simp [vl]
 | cons x l ih =>
  have h1 : x < B := h x (by simp)
  have h2 := ih (fun y hy => h y (by simp [hy]))
  simp only [vl, List.length_cons, Nat.pow_succ]
  have h3 : B * vl B l + B ≤ B * B ^ l.length := by
   have := Nat.mul_le_mul_left B (Nat.succ_le_of_lt h2)
   rw [Nat.mul_succ] at this; exact this
  rw [Nat.mul_comm (B ^ l.length)]
  omega
theorem vl_take_succ (B : Nat) (l : List Nat) (i : Nat) (h : i < l.length) : vl B (l.take (i + 1)) = vl B (l.take i) + B ^ i * l.getD i 0 := by
 have e : l.take (i + 1) = l.take i ++ [l.getD i 0] := by
  rw [List.take_add_one, List.getD_eq_getElem?_getD, List.getElem?_eq_getElem h]; simp
 rw [e, vl_append, vl_one, List.length_take, Nat.min_eq_left (Nat.le_of_lt h)]
theorem Dg.nil (B : Nat) : Dg B [] := fun x hx => by simp at hx
theorem Dg.snoc {B : Nat} {l : List Nat} (h : Dg B l) {x : Nat} (hx : x < B) : Dg B (l ++ [x]) := by
 intro y hy
 rcases List.mem_append.1 hy with h1 | h1
 ·exact h y h1
 ·rw [List.mem_singleton.1 h1]; exact hx
theorem Dg.get {B : Nat} (hB : 0 < B) {l : List Nat} (h : Dg B l) (i : Nat) : l.getD i 0 < B := by
 rw [List.getD_eq_getElem?_getD]
 cases he : l[i]? with
 | none => exact hB
 | some x => exact h x (List.mem_of_getElem? he)
theorem Dg.take {B : Nat} {l : List Nat} (h : Dg B l) (n : Nat) : Dg B (l.take n) := fun x hx => h x (List.mem_of_mem_take hx)
theorem Dg.drop {B : Nat} {l : List Nat} (h : Dg B l) (n : Nat) : Dg B (l.drop n) := fun x hx => h x (List.mem_of_mem_drop hx)
theorem Dg.set {B : Nat} {l : List Nat} (h : Dg B l) (i : Nat) {x : Nat} (hx : x < B) : Dg B (l.set i x) := by
 intro y hy
 rcases List.mem_or_eq_of_mem_set hy with h1 | h1
 ·exact h y h1
 ·rw [h1]; exact hx
theorem vl_take_ge (B : Nat) (l : List Nat) (i : Nat) (h : l.length ≤ i) : vl B (l.take i) = vl B l := by rw [List.take_of_length_le h]
theorem getD_ge {a : List Nat} {i : Nat} (h : ¬ i < a.length) : a.getD i 0 = 0 := by rw [List.getD_eq_getElem?_getD, List.getElem?_eq_none (by omega)]; rfl
theorem vl_take_next (B : Nat) (a : List Nat) (i : Nat) : vl B (a.take (i + 1)) = vl B (a.take i) + B ^ i * a.getD i 0 := by
 by_cases h : i < a.length
 ·exact vl_take_succ B a i h
 ·rw [List.take_of_length_le (by omega), List.take_of_length_le (by omega), getD_ge h]; simp
theorem plus_step {B : Nat} (hB : 0 < B) {out : List Nat} {i n x y p q : Nat} (hl : out.length = i) (hv : vl B out + B ^ i * n = p + q) : vl B (out ++ [(n + x + y) % B]) + B ^ (i + 1) * ((n + x + y) / B) = (p + B ^ i * x) + (q + B ^ i * y) := by
 rw [vl_append, vl_one, hl, Nat.pow_succ, Nat.mul_assoc, Nat.add_assoc, ← Nat.mul_add, Nat.mod_add_div, Nat.mul_add, Nat.mul_add]
 omega
theorem top_none {B : Nat} {v w k n i : Nat} (hi : i = k + 1) (hB : 2 ≤ B) (h1 : v < B ^ k) (h2 : w < B ^ k) {u : Nat} (h : u + B ^ i * n = v + w) : n = 0 := by
 rcases Nat.eq_zero_or_pos n with h0 | h0
 ·exact h0
 ·exfalso
  subst hi
  have h3 : B ^ (k + 1) * 1 ≤ B ^ (k + 1) * n := Nat.mul_le_mul_left _ h0
  rw [Nat.mul_one, Nat.pow_succ] at h3
  have h4 : B ^ k * 2 ≤ B ^ k * B := Nat.mul_le_mul_left _ hB
  rw [Nat.pow_succ] at h
  omega
theorem vl_lt_of {B : Nat} (hB : 0 < B) {l : List Nat} (h : Dg B l) {k : Nat} (hk : l.length ≤ k) : vl B l < B ^ k := Nat.lt_of_lt_of_le (vl_lt hB h) (Nat.pow_le_pow_right hB hk)
end NumL
end
section
namespace Go.AM.S
open Go Go.AM Go.Proofs NumL
open _root_.Go.AM.G (R)
noncomputable abbrev kn0 : Kn := fun _ => none
abbrev B : Nat := 4294967296
def Gives (f : FuncId) (args : List V) (p : V → Prop) : Prop := ∀ h : Hp, ∃ v, Runs Pg kn0 tbl f args h (.val v h) ∧ p v
theorem back_id (h h' : Hp) (vs : List V) (h1 : h'.dirty = none) (h2 : V.noRefsL vs = true) : backHp h h' vs = h := by
 unfold backHp cleanB
 rw [h1, h2]; rfl
theorem gives_of {f : FuncId} {rc : RC} {res : List ResultVar} {args : List V} {p : V → Prop} (ht : tbl f = some ⟨rc, res⟩)
  (hw : ∀ (h : Hp) (Q : St → Prop), (∀ s v, fin Pg h res s = some (.val v h) → p v → Q s) → WW Pg kn0 tbl rc ⟨startTm args, .lf, ⟨h.rows, none, h.mods⟩⟩ (fun _ => False) (fun _ _ => False) Q) : Gives f args p := by
 intro h
 obtain ⟨o, h1, v, rfl, h2⟩ := runs_ex (Post := fun o => ∃ v, o = .val v h ∧ p v) (kn := kn0) rfl ht (ww_mono (hw h (fun s => ∃ v, fin Pg h res s = some (.val v h) ∧ p v) (fun s v a b => ⟨v, a, b⟩)) (fun s hs => hs.elim) (fun _ _ h => h) (fun s ⟨v, h1, h2⟩ => ⟨_, h1, v, rfl, h2⟩))
 exact ⟨v, h1, h2⟩
theorem ww_if {t : Nat} {a b : RC} {s : St} {N : St → Prop} {X : Nat → St → Prop} {Q : St → Prop} {p : Prop} [Decidable p] (hx : gt s.tm t = .bool (decide p)) (h1 : p → WW Pg kn0 tbl a s N X Q) (h2 : ¬ p → WW Pg kn0 tbl b s N X Q) : WW Pg kn0 tbl (.cond (.tmp t) a b) s N X Q := by
 by_cases h : p
 ·exact ww_true (by rw [hx, decide_eq_true h]) (h1 h)
 ·exact ww_false (by rw [hx, decide_eq_false h]) (h2 h)
theorem ww_for {c : RC} {id : Nat} {s : St} {N : St → Prop} {X : Nat → St → Prop} {Q : St → Prop} (I : Nat → St → Prop) (m : Nat) (hi : I m s)
  (hb : ∀ m s, I m s → WW Pg kn0 tbl c s (fun s' => ∃ m', m' < m ∧ I m' s') (fun i s => if i = id then N s else X i s) Q) : WW Pg kn0 tbl (.block id (.loop c)) s N X Q :=
 ww_block (ww_loop I hb m hi)
theorem fin_tmp {h : Hp} {t : Nat} {s : St} {v v' : V} {st : St} (hv : gt s.tm t = v) (he : AM.exp false s v = some (v', st)) (hh : st.hp.dirty = none) (hr : v'.noRefs = true) : fin Pg h [.tmp t] s = some (.val v' h) := by
 unfold fin
 simp only [resV, rho_gt, hv, Option.map_some, exps, he]
 rw [back_id h st.hp [v'] hh (by simp [V.noRefsL, hr])]
theorem Sl.noRefs {k : IntKind} {v : V} {d : List Nat} (h : Sl k v d) : v.noRefs = true := by
 rcases h with ⟨f, rfl⟩ | ⟨rfl, _⟩ <;> rfl
end Go.AM.S
end
section
namespace Go.AM.S
open Go Go.AM Go.Proofs NumL
open _root_.Go.AM.G (R)
set_option maxRecDepth 100000
theorem tbl65 : tbl 65 = some ⟨rc65, [.cell 4 26]⟩ := by kernel_rfl
def Cn (d : List Nat) : Prop := ∀ i, d.length = i + 1 → d.getD i 0 ≠ 0
def Tr0 (a d : List Nat) : Prop := ∃ n, a = d ++ List.replicate n 0
theorem Tr0.refl (a : List Nat) : Tr0 a a := ⟨0, by simp⟩
theorem Tr0.next {a d : List Nat} (h : Tr0 a d) (h0 : 0 < d.length) (hz : d.getD (d.length - 1) 0 = 0) : Tr0 a (d.take (d.length - 1)) := by
 obtain ⟨n, rfl⟩ := h
 refine ⟨n + 1, ?_⟩
 have e : d = d.take (d.length - 1) ++ [0] := by
  conv => lhs; rw [← List.take_append_drop (d.length - 1) d]
  congr 1
  have e2 : (d.drop (d.length - 1)).length = 1 := by simp; omega
  obtain ⟨x, hx⟩ := List.length_eq_one_iff.1 e2
  rw [hx]
  have e3 : d[d.length - 1]? = some x := by
   have := congrArg (fun l => l[0]?) hx
   simpa using this
  rw [List.getD_eq_getElem?_getD, e3] at hz
  simp at hz
  rw [hz]
 conv => lhs; rw [e]
 rw [List.append_assoc]; rfl
theorem vl_zeros (B n : Nat) : vl B (List.replicate n 0) = 0 := by
 induction n with
 | zero => rfl
 | succ n ih => simp only [List.replicate_succ, vl, ih, Nat.mul_zero, Nat.add_zero]
theorem Tr0.vl {a d : List Nat} (h : Tr0 a d) (B : Nat) : NumL.vl B d = NumL.vl B a := by
 obtain ⟨n, rfl⟩ := h
 rw [vl_append, vl_zeros]; simp
theorem Tr0.dg {a d : List Nat} (h : Tr0 a d) {B : Nat} (hd : Dg B a) : Dg B d := by
 obtain ⟨n, rfl⟩ := h
 exact fun x hx => hd x (by simp [hx])
theorem Tr0.len {a d : List Nat} (h : Tr0 a d) : d.length ≤ a.length := by
 obtain ⟨n, rfl⟩ := h
 simp
def NI (v : V) (d : List Nat) (b : Bool) : Prop := (∃ s, v = .agg [s, .bool b] ∧ Sl .u32 s d) ∧ Dg B d ∧ Cn d ∧ (d = [] → b = false)
theorem made_spec {va : V} {a : List Nat} (ha : Sl .u32 va a) (da : Dg B a) (la : a.length ≤ 1000000000) (ng : Bool) :
  Gives 65 [va, .bool ng] fun r => ∃ d, NI r d (ng && !d.isEmpty) ∧ Tr0 a d := by
 refine gives_of tbl65 fun h Q hQ => ?_
 unfold rc65
 refine sR ?_
 refine ww_seq (ww_for (fun m s => ∃ d v, m = d.length ∧ gt s.tm 0 = v ∧ Sl .u32 v d ∧ Tr0 a d ∧ gt s.tm 1 = .bool ng ∧ gt s.tm 4 = .ptr (.loc 4 1) 0 ∧ lg s.loc 4 = (1, .cells false [.nils, .bool false]) ∧ s.hp = ⟨h.rows, none, h.mods⟩) a.length ⟨a, va, rfl, (by simp -implicitDefEqProofs (disch := omega) only [go_sem, reduceIte, Nat.reduceEqDiff, gt_start, List.getD_cons_zero]), ha, Tr0.refl a, sSG, sS, sS, rfl⟩ ?_)
 intro m s ⟨d, v, hm, h0, hv, ht, h1, h4, hl4, hhp⟩
 have hln := ht.len
 have stop : Cn d → gt (pt s.tm 16 (.bool false)) 16 = .bool false → WW Pg kn0 tbl (.seq (.reg fun c t l h k => jn (fun v0 l0 h0 => jn (fun v1 l1 h1 => jn (fun v2 l2 h2 => bO (pick (g1 t) v2 (.bool false)) fun v3 => gn Try.f65 65 3 7 c (p28 (p22 t (g0 t)) v3) t l2 h2 (fun v4 l4 h4 => jn (fun v5 l5 h5 => k t l5 h5) fun j5 => sto 26 (g4 t) v4 l4 h4 j5 (gn Try.f65 65 3 8 c (p29 (p4 t (g4 t)) v4) t l4 h4 j5))) fun j2 => brB (wv (g1 t) true) (j2 (.tuple []) l1 h1) (bO (bin Pg .gtr 3 true v1 (I 0)) fun v3 => j2 v3 l1 h1)) fun j1 => brB (wv (g1 t) true) (j1 (.tuple []) l0 h0) (bO (len (Pg.underlying 24) v0) fun v2 => j1 v2 l0 h0)) fun j0 => brB (wv (g1 t) true) (j0 (.tuple []) l h) (j0 (g0 t) l h))
 .ret) ⟨pt s.tm 16 (.bool false), s.loc, s.hp⟩ (fun _ => False) (fun _ _ => False) Q := by
  intro hcn _
  have key : ∀ b : Bool, b = (ng && !d.isEmpty) → NI (.agg [v, .bool b]) d (ng && !d.isEmpty) := by
   intro b hb
   subst hb
   exact ⟨⟨v, rfl, hv⟩, ht.dg da, hcn, fun e => by subst e; simp⟩
  cases ng with
  | false =>
   refine ww_seq (ww_reg (fun n k => by simp -implicitDefEqProofs (disch := omega) only [go_sem, reduceIte, Nat.reduceEqDiff, h0, h1, h4, hl4, b65_3_7 hv.pl (Pl.bool false), stc_two N26 1 v (.bool false) .nils (.bool false) _ hv.pl.ok rfl]; rfl) ?_)
   exact ww_ret (hQ _ _ (fin_cell (x := v) (y := .bool false) (f := false) (d := 4) (g := 1) (by kernel_rfl) (sS1 h4) (sS1 hl4) hv.pl (Pl.bool _) (by rw [hhp])) ⟨d, key false (by simp), ht⟩)
  | true =>
   refine ww_seq (ww_reg (fun n k => by simp -implicitDefEqProofs (disch := omega) only [go_sem, reduceIte, Nat.reduceEqDiff, h0, h1, h4, hl4, len_sl hv, b65_3_7 hv.pl (Pl.bool _), stc_two N26 1 v (.bool (decide (0 < d.length))) .nils (.bool false) _ hv.pl.ok rfl]; rfl) ?_)
   refine ww_ret (hQ _ _ (fin_cell (x := v) (y := .bool (decide (0 < d.length))) (f := false) (d := 4) (g := 1) (by kernel_rfl) (sS1 h4) (sS1 hl4) hv.pl (Pl.bool _) (by rw [hhp])) ⟨d, key _ ?_, ht⟩)
   cases d with
   | nil => rfl
   | cons x l => simp
 rcases Nat.eq_zero_or_pos d.length with hd | hd
 ·refine ww_seq (ww_seq (ww_reg (fun n k => by simp -implicitDefEqProofs (disch := omega) only [go_sem, reduceIte, Nat.reduceEqDiff, h0, len_sl hv, d_false]; rfl) ?_))
  refine ww_false sS (ww_exit ?_)
  rw [if_pos rfl]
  exact stop (fun i hi => by omega) sS
 ·have hx : d.getD (d.length - 1) 0 < 4294967296 := (ht.dg da).get (by decide) _
  by_cases hz : d.getD (d.length - 1) 0 = 0
  ·refine ww_seq (ww_seq (ww_reg (fun n k => by simp -implicitDefEqProofs (disch := omega) only [go_sem, reduceIte, Nat.reduceEqDiff, h0, len_sl hv, d_true, ia24 hv, hz]; rfl) ?_))
   refine ww_true sS (ww_skip (ww_block ?_))
   refine ww_reg (fun n k => by simp -implicitDefEqProofs (disch := omega) only [go_sem, reduceIte, Nat.reduceEqDiff, h0, len_sl hv, sl24 hv]; rfl) ?_
   exact ⟨d.length - 1, by omega, d.take (d.length - 1), _, by simp, sS, .inl ⟨false, rfl⟩, ht.next hd hz, (sS1 h1), (sS1 h4), (sS1 hl4), hhp⟩
  ·refine ww_seq (ww_seq (ww_reg (fun n k => by simp -implicitDefEqProofs (disch := omega) only [go_sem, reduceIte, Nat.reduceEqDiff, h0, len_sl hv, d_true, ia24 hv, d_false]; rfl) ?_))
   refine ww_false sS (ww_exit ?_)
   rw [if_pos rfl]
   exact stop (fun i hi => by rw [show i = d.length - 1 by omega]; exact hz) sS
end Go.AM.S
end
section
namespace Go.AM.S
open Go Go.AM Go.Proofs NumL
open _root_.Go.AM.G (R)
set_option maxRecDepth 100000
theorem tbl83 : tbl 83 = some ⟨rc83, [.tmp 6, .tmp 7]⟩ := by kernel_rfl
theorem top_bit {n : Nat} (h : n < 4294967296) : n / 2 ^ 31 = (n.testBit 31).toNat := by
 rw [Nat.testBit_eq_decide_div_mod_eq]
 have : n / 2 ^ 31 < 2 := by omega
 rcases Nat.lt_or_ge (n / 2 ^ 31) 1 with h1 | h1
 ·have e : n / 2 ^ 31 = 0 := by omega
  rw [e]; rfl
 ·have e : n / 2 ^ 31 = 1 := by omega
  rw [e]; rfl
theorem bit_of {n : Nat} (h : n < 4294967296) : n.testBit 31 = decide (2147483648 ≤ n) := by
 rw [Nat.testBit_eq_decide_div_mod_eq]
 congr 1
 apply propext
 omega
theorem borrow {x y w : Nat} (hx : x < 4294967296) (hy : y < 4294967296) (hw : w ≤ 1) :
  ((((4294967295 ^^^ x) &&& y) ||| ((4294967295 ^^^ (x ^^^ y)) &&& (((x + 4294967296 - y) % 4294967296 + 4294967296 - w) % 4294967296))) / 2 ^ 31) = if x < y + w then 1 else 0 := by
 have hd : ((x + 4294967296 - y) % 4294967296 + 4294967296 - w) % 4294967296 < 4294967296 := Nat.mod_lt _ (by decide)
 have h1 : (4294967295 ^^^ x) < 4294967296 := Nat.xor_lt_two_pow (n := 32) (by decide) hx
 have h2 : (4294967295 ^^^ (x ^^^ y)) < 4294967296 := Nat.xor_lt_two_pow (n := 32) (by decide) (Nat.xor_lt_two_pow (n := 32) hx hy)
 rw [top_bit (Nat.or_lt_two_pow (n := 32) (Nat.lt_of_le_of_lt Nat.and_le_left h1) (Nat.lt_of_le_of_lt Nat.and_le_left h2))]
 simp only [Nat.testBit_or, Nat.testBit_and, Nat.testBit_xor, bit_of hx, bit_of hy, bit_of hd]
 have e31 : Nat.testBit 4294967295 31 = true := by decide
 rw [e31]
 by_cases a : 2147483648 ≤ x <;> by_cases b : 2147483648 ≤ y <;> by_cases c : 2147483648 ≤ ((x + 4294967296 - y) % 4294967296 + 4294967296 - w) % 4294967296 <;> simp only [a, b, c, decide_true, decide_false] <;> split <;> first | rfl | (exfalso; omega)
theorem sub32_spec {x y w : Nat} (hx : x < 4294967296) (hy : y < 4294967296) (hw : w ≤ 1) :
  Gives 83 [.int .u32 (.ofNat x), .int .u32 (.ofNat y), .int .u32 (.ofNat w)] fun r => ∃ d c, r = .tuple [.int .u32 (.ofNat d), .int .u32 (.ofNat c)] ∧ d < 4294967296 ∧ c ≤ 1 ∧ x + 4294967296 * c = d + y + w := by
 refine gives_of tbl83 fun h Q hQ => ?_
 unfold rc83
 have h1 : (4294967295 ^^^ x) < 4294967296 := Nat.xor_lt_two_pow (n := 32) (by decide) hx
 have h0 : (x ^^^ y) < 4294967296 := Nat.xor_lt_two_pow (n := 32) hx hy
 have h2 : (4294967295 ^^^ (x ^^^ y)) < 4294967296 := Nat.xor_lt_two_pow (n := 32) (by decide) h0
 have hd : ((x + 4294967296 - y) % 4294967296 + 4294967296 - w) % 4294967296 < 4294967296 := Nat.mod_lt _ (by decide)
 have h3 : ((4294967295 ^^^ x) &&& y) < 4294967296 := Nat.lt_of_le_of_lt Nat.and_le_left h1
 have h4 : ((4294967295 ^^^ (x ^^^ y)) &&& (((x + 4294967296 - y) % 4294967296 + 4294967296 - w) % 4294967296)) < 4294967296 := Nat.lt_of_le_of_lt Nat.and_le_left h2
 refine sR ?_
 refine sRG ?_
 refine ww_seq (ww_reg (fun n k => by simp -implicitDefEqProofs (disch := omega) only [go_sem, reduceIte, Nat.reduceEqDiff, gt_start, List.getD_cons_zero, List.getD_cons_succ, i_and32 h1 hy, i_and32 h2 hd, i_or32 h3 h4, borrow hx hy hw]; rfl) ?_)
 refine ww_ret (hQ _ _ (fin_two (a := 6) (b := 7) (v := .int .u32 (.ofNat (((x + 4294967296 - y) % 4294967296 + 4294967296 - w) % 4294967296))) (w := .int .u32 (.ofNat (if x < y + w then 1 else 0))) sS sS (Ex1.int _ _) (Ex1.int _ _) rfl rfl rfl) ⟨_, _, rfl, hd, ?_, ?_⟩)
 ·split <;> omega
 ·split <;> omega
end Go.AM.S
end
section
namespace Go.AM.S
open Go Go.AM Go.Proofs NumL
open _root_.Go.AM.G (R)
set_option maxRecDepth 100000
theorem tbl72 : tbl 72 = some ⟨rc72, [.tmp 4]⟩ := by kernel_rfl
theorem vl_split (B : Nat) (a : List Nat) (i : Nat) : vl B a = vl B (a.take i) + B ^ (min i a.length) * vl B (a.drop i) := by
 conv => lhs; rw [← List.take_append_drop i a]
 rw [vl_append, List.length_take]
theorem vl_drop_cons (B : Nat) (a : List Nat) (i : Nat) (h : i < a.length) : vl B (a.drop i) = a.getD i 0 + B * vl B (a.drop (i + 1)) := by
 rw [List.drop_eq_getElem_cons h]
 simp only [vl]
 congr 1
 rw [List.getD_eq_getElem?_getD, List.getElem?_eq_getElem h]; rfl
theorem vl_at (B : Nat) (a : List Nat) (i : Nat) (h : i < a.length) : vl B a = vl B (a.take i) + B ^ i * (a.getD i 0 + B * vl B (a.drop (i + 1))) := by
 rw [vl_split B a i, vl_drop_cons B a i h, Nat.min_eq_left (Nat.le_of_lt h)]
theorem vl_lt_at {B : Nat} (hB : 0 < B) {a b : List Nat} (da : Dg B a) {i : Nat} (ha : i < a.length) (hb : i < b.length) (he : a.drop (i + 1) = b.drop (i + 1)) (h : a.getD i 0 < b.getD i 0) : vl B a < vl B b := by
 rw [vl_at B a i ha, vl_at B b i hb, he]
 have h1 : vl B (a.take i) < B ^ i := vl_lt_of hB (da.take i) (by simp; omega)
 have h2 : B ^ i * (a.getD i 0 + B * vl B (b.drop (i + 1)) + 1) ≤ B ^ i * (b.getD i 0 + B * vl B (b.drop (i + 1))) := Nat.mul_le_mul_left _ (by omega)
 rw [Nat.mul_add, Nat.mul_one] at h2
 omega
theorem vl_ge {B : Nat} {d : List Nat} (hc : Cn d) (hd : d ≠ []) : B ^ (d.length - 1) ≤ vl B d := by
 have hp : 0 < d.length := List.length_pos_iff.2 hd
 rw [vl_at B d (d.length - 1) (by omega)]
 have h1 := hc (d.length - 1) (by omega)
 have h2 : B ^ (d.length - 1) * 1 ≤ B ^ (d.length - 1) * (d.getD (d.length - 1) 0 + B * vl B (d.drop (d.length - 1 + 1))) := Nat.mul_le_mul_left _ (by omega)
 omega
theorem vl_lt_len {B : Nat} (hB : 0 < B) {a b : List Nat} (da : Dg B a) (cb : Cn b) (h : a.length < b.length) : vl B a < vl B b := by
 have h1 := vl_lt_of hB da (k := b.length - 1) (by omega)
 have h2 := vl_ge (B := B) cb (by intro e; subst e; simp at h)
 omega
def cmpI (x y : Nat) : Int := if x < y then .negSucc 0 else if y < x then .ofNat 1 else .ofNat 0
theorem getD_drop (a : List Nat) (i : Nat) : a.drop i = if i < a.length then a.getD i 0 :: a.drop (i + 1) else [] := by
 split
 ·rename_i h
  rw [List.drop_eq_getElem_cons h, List.getD_eq_getElem?_getD, List.getElem?_eq_getElem h]; rfl
 ·exact List.drop_eq_nil_of_le (by omega)
theorem compare_spec {va vb : V} {a b : List Nat} (ha : Sl .u32 va a) (hb : Sl .u32 vb b) (da : Dg B a) (db : Dg B b) (ca : Cn a) (cb : Cn b) (la : a.length ≤ 1000000000) (lb : b.length ≤ 1000000000) :
  Gives 72 [va, vb] fun r => r = .int .i64 (cmpI (vl B a) (vl B b)) := by
 refine gives_of tbl72 fun h Q hQ => ?_
 unfold rc72
 refine sR ?_
 rcases Nat.lt_trichotomy a.length b.length with hl | hl | hl
 ·refine ww_seq (ww_seq (ww_reg (fun n k => by simp -implicitDefEqProofs (disch := omega) only [go_sem, reduceIte, Nat.reduceEqDiff, gt_start, List.getD_cons_zero, List.getD_cons_succ, len_sl ha, len_sl hb, d_true]; rfl) ?_))
  refine ww_true sS ?_
  refine ww_seq (ww_reg (fun n k => by simp -implicitDefEqProofs (disch := omega) only [go_sem, reduceIte, Nat.reduceEqDiff, gt_start, List.getD_cons_zero, List.getD_cons_succ, len_sl ha, len_sl hb, i_sub_neg]; rfl) ?_)
  refine ww_ret (hQ _ _ (fin_tmp (v := .int .i64 (.negSucc 0)) sS (Ex1.int _ _ _) rfl rfl) ?_)
  unfold cmpI
  rw [if_pos (vl_lt_len (by decide) da cb hl)]
 ·refine ww_seq (ww_seq (ww_reg (fun n k => by simp -implicitDefEqProofs (disch := omega) only [go_sem, reduceIte, Nat.reduceEqDiff, gt_start, List.getD_cons_zero, List.getD_cons_succ, len_sl ha, len_sl hb, d_false]; rfl) ?_))
  refine ww_false sS (ww_skip ?_)
  refine ww_seq (ww_seq (ww_reg (fun n k => by simp -implicitDefEqProofs (disch := omega) only [go_sem, reduceIte, Nat.reduceEqDiff, gt_start, List.getD_cons_zero, List.getD_cons_succ, len_sl ha, i_dec]; rfl) ?_))
  refine ww_for (fun m s => m ≤ a.length ∧ gt s.tm 5 = .int .i64 (dn m) ∧ a.drop m = b.drop m ∧ gt s.tm 0 = va ∧ gt s.tm 1 = vb ∧ s.hp = ⟨h.rows, none, h.mods⟩) a.length ⟨Nat.le_refl _, sS, ?_, (by simp -implicitDefEqProofs (disch := omega) only [go_sem, reduceIte, Nat.reduceEqDiff, gt_start, List.getD_cons_zero]), sSG, rfl⟩ ?_
  ·rw [List.drop_eq_nil_of_le (Nat.le_refl _), List.drop_eq_nil_of_le (by omega)]
  intro m s ⟨hm, h5, he, h0, h1, hhp⟩
  cases m with
  | zero =>
   refine ww_seq (ww_seq (ww_reg (fun n k => by simp -implicitDefEqProofs (disch := omega) only [go_sem, reduceIte, Nat.reduceEqDiff, h5, dn]; rfl) ?_))
   refine ww_false sS (ww_exit ?_)
   rw [if_pos rfl]
   refine sR ?_
   refine ww_ret (hQ _ _ (fin_tmp (v := .int .i64 (.ofNat 0)) sS (Ex1.int _ _ _) (by rw [hhp]) rfl) ?_)
   have e : a = b := by simpa using he
   subst e
   simp [cmpI]
  | succ i =>
   have h5' : gt s.tm 5 = .int .i64 (.ofNat i) := h5
   refine ww_seq (ww_seq (ww_reg (fun n k => by simp -implicitDefEqProofs (disch := omega) only [go_sem, reduceIte, Nat.reduceEqDiff, h5', d_true]; rfl) ?_))
   refine ww_true sS (ww_skip ?_)
   refine ww_seq (ww_block (ww_block ?_))
   refine ww_seq (ww_reg (fun n k => by simp -implicitDefEqProofs (disch := omega) only [go_sem, reduceIte, Nat.reduceEqDiff, h0, h1, h5', ia24 ha, ia24 hb]; rfl) ?_)
   refine ww_if (by simp only [gt_pt, reduceIte]; rfl) (fun hx => ?_) (fun hx => ?_)
   ·refine sR ?_
    refine ww_ret (hQ _ _ (fin_tmp (v := .int .i64 (.negSucc 0)) sS (Ex1.int _ _ _) (by rw [hhp]) rfl) ?_)
    unfold cmpI
    rw [if_pos (vl_lt_at (by decide) da (by omega) (by omega) he hx)]
   ·refine ww_seq (ww_reg (fun n k => by simp -implicitDefEqProofs (disch := omega) only [go_sem, reduceIte, Nat.reduceEqDiff, h0, h1, h5', ia24 ha, ia24 hb]; rfl) ?_)
    refine ww_if (by simp only [gt_pt, reduceIte]; rfl) (fun hy => ?_) (fun hy => ww_skip ?_)
    ·refine sR ?_
     refine ww_ret (hQ _ _ (fin_tmp (v := .int .i64 (.ofNat 1)) sS (Ex1.int _ _ _) (by rw [hhp]) rfl) ?_)
     have hlt := vl_lt_at (B := B) (by decide) db (by omega) (by omega) he.symm hy
     unfold cmpI
     rw [if_neg (by omega), if_pos hlt]
    ·refine ww_reg (fun n k => by simp -implicitDefEqProofs (disch := omega) only [go_sem, reduceIte, Nat.reduceEqDiff, h5', i_dec]; rfl) ?_
     refine ⟨i, by omega, by omega, sS, ?_, (sS1 h0), (sS1 h1), hhp⟩
     rw [getD_drop a i, getD_drop b i, if_pos (by omega), if_pos (by omega), he]
     congr 1
     omega
 ·refine ww_seq (ww_seq (ww_reg (fun n k => by simp -implicitDefEqProofs (disch := omega) only [go_sem, reduceIte, Nat.reduceEqDiff, gt_start, List.getD_cons_zero, List.getD_cons_succ, len_sl ha, len_sl hb, d_true]; rfl) ?_))
  refine ww_true sS ?_
  have hmin : min (a.length - b.length) 1 = 1 := by omega
  refine ww_seq (ww_reg (fun n k => by simp -implicitDefEqProofs (disch := omega) only [go_sem, reduceIte, Nat.reduceEqDiff, gt_start, List.getD_cons_zero, List.getD_cons_succ, len_sl ha, len_sl hb, hmin]; rfl) ?_)
  refine ww_ret (hQ _ _ (fin_tmp (v := .int .i64 (.ofNat 1)) sS (Ex1.int _ _ _) rfl rfl) ?_)
  have hlt := vl_lt_len (B := B) (by decide) db ca hl
  unfold cmpI
  rw [if_neg (by omega), if_pos hlt]
end Go.AM.S
end
section
namespace Go.AM.S
open Go Go.AM Go.Proofs NumL
open _root_.Go.AM.G (R)
set_option maxRecDepth 100000
theorem tbl73 : tbl 73 = some ⟨rc73, [.tmp 4]⟩ := by kernel_rfl
structure I73 (va vb : V) (a b : List Nat) (h : Hp) (m : Nat) (s : St) (i n : Nat) (out : List Nat) : Prop where
 m : m + i = a.length
 h1 : gt s.tm 1 = vb
 h10 : gt s.tm 10 = va
 h11 : gt s.tm 11 = .int .i64 (.ofNat a.length)
 h12 : gt s.tm 12 = .int .i64 (.ofNat i)
 h6 : gt s.tm 6 = .int .u32 (.ofNat n)
 hp : s.hp = h
 h5 : Ar s.loc 35 (gt s.tm 5) .u32 out
 len : out.length = i
 dg : Dg B out
 n1 : n ≤ 1
 v : vl B (a.take i) + B ^ i * n = vl B out + vl B (b.take i)
theorem minus_step {B : Nat} {out : List Nat} {i n x y d c p q : Nat} (hl : out.length = i) (hv : p + B ^ i * n = vl B out + q) (he : x + B * c = d + y + n) : (p + B ^ i * x) + B ^ (i + 1) * c = vl B (out ++ [d]) + (q + B ^ i * y) := by
 rw [vl_append, vl_one, hl, Nat.pow_succ, Nat.mul_assoc]
 have h1 : B ^ i * (x + B * c) = B ^ i * (d + y + n) := by rw [he]
 simp only [Nat.mul_add] at h1
 omega
theorem minus_spec {va vb : V} {a b : List Nat} (ha : Sl .u32 va a) (hb : Sl .u32 vb b) (da : Dg B a) (db : Dg B b) (la : a.length ≤ 1000000) (lb : b.length ≤ a.length) (hle : vl B b ≤ vl B a) :
  Gives 73 [va, vb] fun r => ∃ c, Sl .u32 r c ∧ Dg B c ∧ vl B c + vl B b = vl B a ∧ c.length = a.length := by
 refine gives_of tbl73 fun h Q hQ => ?_
 unfold rc73
 refine sR ?_
 refine sR ?_
 refine sR ?_
 refine ww_seq (ww_seq (ww_reg (fun n k => by simp -implicitDefEqProofs (disch := omega) only [go_sem, reduceIte, Nat.reduceEqDiff, gt_start, List.getD_cons_zero, List.getD_cons_succ, len_sl ha]; rfl) ?_))
 refine ww_for (fun m s => ∃ i n out, I73 va vb a b ⟨h.rows, none, h.mods⟩ m s i n out) a.length ⟨0, 0, [], rfl, sSG, (by simp -implicitDefEqProofs (disch := omega) only [go_sem, reduceIte, Nat.reduceEqDiff, gt_start, List.getD_cons_zero]), sS, sS, sS, rfl, .inl ⟨rfl, sS⟩, rfl, Dg.nil B, by decide, by simp [vl]⟩ ?_
 intro m s ⟨i, n, out, hm, h1, h10, h11, h12, h6, hhp, h5, hlen, hdg, hn, hv⟩
 refine sR2 h11 h12 ?_
 refine ww_seq (ww_if (by simp only [gt_pt, reduceIte]; rfl) (fun hi => ww_skip ?_) (fun hi => ww_exit ?_))
 ·have da1 : a.getD i 0 < 4294967296 := da.get (by decide) i
  have db1 : b.getD i 0 < 4294967296 := db.get (by decide) i
  refine ww_seq (ww_block ?_)
  refine ww_seq (ww_reg (fun n k => by simp -implicitDefEqProofs (disch := omega) only [go_sem, reduceIte, Nat.reduceEqDiff, h10, h12, ia24 ha]; rfl) ?_)
  refine sR ?_
  refine ww_join (M := fun s1 => gt s1.tm 9 = .int .u32 (.ofNat (b.getD i 0)) ∧ gt s1.tm 8 = .int .u32 (.ofNat (a.getD i 0)) ∧ Kp [1, 5, 6, 10, 11, 12] s.tm s1.tm ∧ s1.loc = s.loc ∧ s1.hp = s.hp) ?_ (fun s1 ⟨a9, a8, ak, al, ah⟩ => ?_)
  ·refine ww_seq (ww_reg (fun n k => by simp -implicitDefEqProofs (disch := omega) only [go_sem, reduceIte, Nat.reduceEqDiff, h1, len_sl hb]; rfl) ?_)
   refine ww_if (by simp only [gt_pt, reduceIte]; rfl) (fun hia => ?_) (fun hia => ww_skip ?_)
   ·refine ww_reg (fun n k => by simp -implicitDefEqProofs (disch := omega) only [go_sem, reduceIte, Nat.reduceEqDiff, h1, ia24 hb]; rfl) ?_
    exact ⟨sS, sS, (by (try dsimp only); repeat (first | with_reducible exact Kp_refl _ _ | with_reducible refine Kp_pt (by decide) ?_)), rfl, rfl⟩
   ·exact ⟨(by simp -implicitDefEqProofs (disch := omega) only [go_sem, reduceIte, Nat.reduceEqDiff, getD_ge hia]), sS, (by (try dsimp only); repeat (first | with_reducible exact Kp_refl _ _ | with_reducible refine Kp_pt (by decide) ?_)), rfl, rfl⟩
  have k5 := ak 5 (by decide); have k6 := (ak 6 (by decide)).trans h6; have k12 := (ak 12 (by decide)).trans h12
  obtain ⟨r, hr, d, c, hrr, hd, hc, he⟩ := sub32_spec da1 db1 hn s1.hp
  subst hrr
  obtain ⟨v5, l5, happ, hAr, hfr⟩ := a73_10_3 d h5 (by omega)
  refine ww_seq (ww_call (hr) (fun n hn k => by simp -implicitDefEqProofs (disch := omega) only [go_sem, reduceIte, Nat.reduceEqDiff, a8, a9, k6, clc3 hn (Ex1.int _ _) (Ex1.int _ _) (Ex1.int _ _)]; rfl) ?_)
  refine ww_reg (fun n k => by simp -implicitDefEqProofs (disch := omega) only [go_sem, reduceIte, Nat.reduceEqDiff, k5, al, happ]; rfl) ?_
  refine sE1 k12 ?_
  refine ⟨m - 1, by omega, i + 1, c, out ++ [d], by omega, ?_, ?_, ?_, sS, sS, ah.trans hhp, ?_, by simp [hlen], hdg.snoc hd, hc, ?_⟩
  ·exact (by simp -implicitDefEqProofs (disch := omega) only [go_sem, reduceIte, Nat.reduceEqDiff, ak 1 (by decide), h1])
  ·exact (by simp -implicitDefEqProofs (disch := omega) only [go_sem, reduceIte, Nat.reduceEqDiff, ak 10 (by decide), h10])
  ·exact (by simp -implicitDefEqProofs (disch := omega) only [go_sem, reduceIte, Nat.reduceEqDiff, ak 11 (by decide), h11])
  ·dsimp only
   rw [show ∀ t, gt (pt (pt t 5 v5) 12 (.int .i64 (.ofNat (i + 1)))) 5 = v5 from fun t => sS]
   exact hAr
  ·rw [vl_take_next, vl_take_next]
   exact minus_step hlen hv he
 ·rw [if_pos rfl]
  refine sR ?_
  obtain ⟨r, l', hex, hsl, _⟩ := exp_Ar h5
  rw [vl_take_ge _ _ _ (by omega), vl_take_ge _ _ _ (by omega)] at hv
  have hlt := vl_lt_of (B := B) (by decide) hdg (k := i) (by omega)
  have hn0 : n = 0 := by
   rcases Nat.eq_zero_or_pos n with h0 | h0
   ·exact h0
   ·exfalso
    have : B ^ i * 1 ≤ B ^ i * n := Nat.mul_le_mul_left _ h0
    omega
  subst hn0
  exact ww_ret (hQ _ r (fin_tmp (v := gt s.tm 5) sS (hex _ _) (by rw [hhp]) hsl.noRefs) ⟨out, hsl, hdg, by simpa using hv.symm, by omega⟩)
end Go.AM.S
end
section
namespace Go.AM.S
open Go Go.AM Go.Proofs NumL
open _root_.Go.AM.G (R)
set_option maxRecDepth 100000
def zv (d : List Nat) (b : Bool) : Int := bif b then -(vl B d : Int) else (vl B d : Int)
def IsI (k : Nat) (v : V) (z : Int) : Prop := ∃ d b, NI v d b ∧ z = zv d b ∧ d.length ≤ k
theorem IsI.mono {k l : Nat} {v : V} {z : Int} (h : IsI k v z) (hl : k ≤ l) : IsI l v z := by
 obtain ⟨d, b, h1, h2, h3⟩ := h
 exact ⟨d, b, h1, h2, by omega⟩
theorem NI.quiet {v : V} {d : List Nat} {b : Bool} (h : NI v d b) : AM.quiet v = true := by
 obtain ⟨⟨s, rfl, hs⟩, _⟩ := h
 rcases hs with ⟨f, rfl⟩ | ⟨rfl, _⟩ <;> rfl
theorem NI.ex {v : V} {d : List Nat} {b : Bool} (h : NI v d b) : Ex1 v := by
 obtain ⟨⟨s, rfl, hs⟩, _⟩ := h
 exact fun st => exp_agg (by intro u hu; simp at hu; rcases hu with rfl | rfl; exact hs.pl; exact Pl.bool _) st
theorem Sl.quiet {k : IntKind} {v : V} {d : List Nat} (h : Sl k v d) : AM.quiet v = true := by
 rcases h with ⟨f, rfl⟩ | ⟨rfl, _⟩ <;> rfl
theorem vl_zero {d : List Nat} (hc : Cn d) : vl B d = 0 ↔ d = [] := by
 constructor
 ·intro h
  rcases Classical.em (d = []) with e | e
  ·exact e
  ·have h1 := vl_ge (B := B) hc e
   have h2 : 0 < B ^ (d.length - 1) := Nat.pow_pos (by decide)
   omega
 ·intro h; subst h; rfl
theorem zv_neg_iff {d : List Nat} {b : Bool} (hc : Cn d) (h0 : d = [] → b = false) : zv d b < 0 ↔ b = true := by
 cases b with
 | false => simp only [zv, cond_false, Bool.false_eq_true, iff_false]; omega
 | true =>
  have : d ≠ [] := fun e => by have := h0 e; cases this
  have h1 : vl B d ≠ 0 := fun e => this ((vl_zero hc).1 e)
  simp only [zv, cond_true, iff_true]; omega
theorem tbl31 : tbl 31 = some ⟨rc31, [.cell 2 26]⟩ := by kernel_rfl
theorem exI {s : V} {d : List Nat} (hs : Sl .u32 s d) (b : Bool) : Ex1 (.agg [s, .bool b]) := fun st => exp_agg (by intro u hu; simp at hu; rcases hu with rfl | rfl; exact hs.pl; exact Pl.bool _) st
theorem neg_spec {k : Nat} {va : V} {x : Int} (ha : IsI k va x) (hk : k ≤ 1000000) : Gives 31 [va] fun r => IsI k r (-x) := by
 obtain ⟨d, b, ⟨⟨s, rfl, hs⟩, dd, cd, h0⟩, hx, hl⟩ := ha
 refine gives_of tbl31 fun h Q hQ => ?_
 unfold rc31
 refine sRG ?_
 obtain ⟨r, hr, e, ⟨⟨s2, rfl, hs2⟩, de, ce, he0⟩, ht⟩ := made_spec hs dd (by omega) (!b) ⟨h.rows, none, h.mods⟩
 have hlen := ht.len
 refine ww_seq (ww_call (hr) (fun n hn k => by simp -implicitDefEqProofs (disch := omega) only [go_sem, reduceIte, Nat.reduceEqDiff, gt_start, List.getD_cons_zero, List.getD_cons_succ, ldc_fst L24, ldc_snd L4, clc2 hn hs.ex (Ex1.bool _), stc_two N26 1 s2 (.bool (!b && !e.isEmpty)) .nils (.bool false) _ hs2.pl.ok rfl]; rfl) ?_)
 refine ww_ret (hQ _ _ (fin_cell (x := s2) (y := .bool (!b && !e.isEmpty)) (f := false) (d := 2) (g := 1) (by kernel_rfl) sS sS hs2.pl (Pl.bool _) rfl) ⟨e, _, ⟨⟨s2, rfl, hs2⟩, de, ce, he0⟩, ?_, by omega⟩)
 subst hx
 have hv := ht.vl B
 unfold zv
 cases b with
 | true => simp [hv]
 | false =>
  cases e with
  | nil => simp [← hv, vl]
  | cons y l => simp [hv]
end Go.AM.S
end
section
namespace Go.AM.S
open Go Go.AM Go.Proofs NumL
open _root_.Go.AM.G (R)
set_option maxRecDepth 100000
theorem tbl77 : tbl 77 = some ⟨rc77, [.tmp 2]⟩ := by kernel_rfl
theorem truth_spec (b : Bool) : Gives 77 [.bool b] fun r => r = .int .i64 (.ofNat (bif b then 1 else 0)) := by
 refine gives_of tbl77 fun h Q hQ => ?_
 unfold rc77
 refine sR ?_
 cases b with
 | true =>
  refine sQG ?_
  refine ww_true sS ?_
  refine sR ?_
  exact ww_ret (hQ _ _ (fin_tmp (v := .int .i64 (.ofNat 1)) sS (Ex1.int _ _ _) rfl rfl) rfl)
 | false =>
  refine sQG ?_
  refine ww_false sS (ww_skip ?_)
  refine sR ?_
  exact ww_ret (hQ _ _ (fin_tmp (v := .int .i64 (.ofNat 0)) sS (Ex1.int _ _ _) rfl rfl) rfl)
def cmpZ (x y : Int) : Int := if x < y then .negSucc 0 else if y < x then .ofNat 1 else .ofNat 0
theorem tbl33 : tbl 33 = some ⟨rc33, [.tmp 4]⟩ := by kernel_rfl
theorem bin_eqb (t : TypeId) (cn : Bool) (a b : Bool) (h : Pg.underlying t = some .bool) : bin Pg .eql t cn (.bool a) (.bool b) = some (.bool (a == b)) := by
 show F.eqV .eql (Pg.underlying t) cn (.bool a) (.bool b) = _
 rw [h]; rfl
theorem bin_neb (t : TypeId) (cn : Bool) (a b : Bool) (h : Pg.underlying t = some .bool) : bin Pg .neq t cn (.bool a) (.bool b) = some (.bool (!(a == b))) := by
 show F.eqV .neq (Pg.underlying t) cn (.bool a) (.bool b) = _
 rw [h]; rfl
theorem cmp_spec {k l : Nat} {va vb : V} {x y : Int} (ha : IsI k va x) (hb : IsI l vb y) (hk : k ≤ 1000000) (hl : l ≤ 1000000) : Gives 33 [va, vb] fun r => r = .int .i64 (cmpZ x y) := by
 obtain ⟨d, b, ⟨⟨s, rfl, hs⟩, dd, cd, h0⟩, rfl, hdl⟩ := ha
 obtain ⟨e, c, ⟨⟨u, rfl, hu⟩, de, ce, he0⟩, rfl, hel⟩ := hb
 have n1 := zv_neg_iff cd h0
 have n2 := zv_neg_iff ce he0
 refine gives_of tbl33 fun h Q hQ => ?_
 unfold rc33
 refine sRG ?_
 have done : ∀ (t : Tm) (lo : Lo) (z : Int), z = cmpZ (zv d b) (zv e c) → Q ⟨pt t 4 (.int .i64 z), lo, ⟨h.rows, none, h.mods⟩⟩ := fun t lo z hz => by
  subst hz
  exact hQ _ _ (fin_tmp (v := .int .i64 (cmpZ (zv d b) (zv e c))) sS (Ex1.int _ _ _) rfl rfl) rfl
 cases b with
 | true =>
  cases c with
  | true =>
   have neb : bin Pg .neq 4 false (.bool true) (.bool true) = some (.bool false) := bin_neb 4 false true true U4
   refine ww_seq (ww_block ?_)
   refine ww_seq (ww_reg (fun n k => by simp -implicitDefEqProofs (disch := omega) only [go_sem, reduceIte, Nat.reduceEqDiff, gt_start, List.getD_cons_zero, List.getD_cons_succ, ldc_snd L4, neb]; rfl) ?_)
   refine ww_false sS ?_
   refine ww_seq (ww_reg (fun n k => by simp -implicitDefEqProofs (disch := omega) only [go_sem, reduceIte, Nat.reduceEqDiff, gt_start, List.getD_cons_zero, List.getD_cons_succ, ldc_snd L4]; rfl) ?_)
   refine ww_true sS ?_
   obtain ⟨r, hr, rfl⟩ := compare_spec hu hs de dd ce cd (by omega) (by omega) ⟨h.rows, none, h.mods⟩
   refine ww_seq (ww_call (hr) (fun n hn k => by simp -implicitDefEqProofs (disch := omega) only [go_sem, reduceIte, Nat.reduceEqDiff, gt_start, List.getD_cons_zero, List.getD_cons_succ, ldc_fst L24, clc2 hn hu.ex hs.ex]; rfl) ?_)
   refine ww_ret (done _ _ _ ?_)
   unfold cmpI cmpZ zv
   simp only [cond_true]
   split <;> split <;> first | rfl | omega | (split <;> first | rfl | omega)
  | false =>
   have neb : bin Pg .neq 4 false (.bool true) (.bool false) = some (.bool true) := bin_neb 4 false true false U4
   refine ww_seq (ww_block ?_)
   refine ww_seq (ww_reg (fun n k => by simp -implicitDefEqProofs (disch := omega) only [go_sem, reduceIte, Nat.reduceEqDiff, gt_start, List.getD_cons_zero, List.getD_cons_succ, ldc_snd L4, neb]; rfl) ?_)
   refine ww_true sS ?_
   obtain ⟨r, hr, rfl⟩ := truth_spec true ⟨h.rows, none, h.mods⟩
   refine ww_seq (ww_call (hr) (fun n hn k => by simp -implicitDefEqProofs (disch := omega) only [go_sem, reduceIte, Nat.reduceEqDiff, gt_start, List.getD_cons_zero, List.getD_cons_succ, ldc_snd L4, clc1 hn (Ex1.bool _), cond_true, Nat.mul_one, i_sub_neg, Nat.reduceSub]; rfl) ?_)
   refine ww_ret (done _ _ _ ?_)
   have h1 := n1.2 rfl
   have h2 : ¬ zv e false < 0 := fun h => by have := n2.1 h; cases this
   unfold cmpZ
   rw [if_pos (by omega)]
 | false =>
  cases c with
  | true =>
   have neb : bin Pg .neq 4 false (.bool false) (.bool true) = some (.bool true) := bin_neb 4 false false true U4
   refine ww_seq (ww_block ?_)
   refine ww_seq (ww_reg (fun n k => by simp -implicitDefEqProofs (disch := omega) only [go_sem, reduceIte, Nat.reduceEqDiff, gt_start, List.getD_cons_zero, List.getD_cons_succ, ldc_snd L4, neb]; rfl) ?_)
   refine ww_true sS ?_
   obtain ⟨r, hr, rfl⟩ := truth_spec false ⟨h.rows, none, h.mods⟩
   refine ww_seq (ww_call (hr) (fun n hn k => by simp -implicitDefEqProofs (disch := omega) only [go_sem, reduceIte, Nat.reduceEqDiff, gt_start, List.getD_cons_zero, List.getD_cons_succ, ldc_snd L4, clc1 hn (Ex1.bool _), cond_false, Nat.mul_zero, Nat.reduceSub]; rfl) ?_)
   refine ww_ret (done _ _ _ ?_)
   have h1 := n2.2 rfl
   have h2 : ¬ zv d false < 0 := fun h => by have := n1.1 h; cases this
   unfold cmpZ
   rw [if_neg (by omega), if_pos (by omega)]
  | false =>
   have neb : bin Pg .neq 4 false (.bool false) (.bool false) = some (.bool false) := bin_neb 4 false false false U4
   refine ww_seq (ww_block ?_)
   refine ww_seq (ww_reg (fun n k => by simp -implicitDefEqProofs (disch := omega) only [go_sem, reduceIte, Nat.reduceEqDiff, gt_start, List.getD_cons_zero, List.getD_cons_succ, ldc_snd L4, neb]; rfl) ?_)
   refine ww_false sS ?_
   refine ww_seq (ww_reg (fun n k => by simp -implicitDefEqProofs (disch := omega) only [go_sem, reduceIte, Nat.reduceEqDiff, gt_start, List.getD_cons_zero, List.getD_cons_succ, ldc_snd L4]; rfl) ?_)
   refine ww_false sS (ww_skip ?_)
   obtain ⟨r, hr, rfl⟩ := compare_spec hs hu dd de cd ce (by omega) (by omega) ⟨h.rows, none, h.mods⟩
   refine ww_seq (ww_call (hr) (fun n hn k => by simp -implicitDefEqProofs (disch := omega) only [go_sem, reduceIte, Nat.reduceEqDiff, gt_start, List.getD_cons_zero, List.getD_cons_succ, ldc_fst L24, clc2 hn hs.ex hu.ex]; rfl) ?_)
   refine ww_ret (done _ _ _ ?_)
   unfold cmpI cmpZ zv
   simp only [cond_false]
   split <;> split <;> first | rfl | omega | (split <;> first | rfl | omega)
end Go.AM.S
end
