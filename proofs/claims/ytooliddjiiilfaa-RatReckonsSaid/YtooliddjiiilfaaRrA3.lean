/- Part 3 of the proof: what it says stands at its theorems. -/
import Derived.Test.YtooliddjiiilfaaProg
import Derived.Test.YtooliddjiiilfaaRrA2
import Derived.ChangeSame
set_option linter.unusedVariables false
set_option linter.unusedSimpArgs false
set_option linter.unusedSectionVars false
section
namespace Go.AM.S
open _root_.Go.AM.G (R)
open Go Go.AM Go.Proofs
set_option maxRecDepth 100000
noncomputable abbrev Pg:Program:=Try.prog
def lkD{α:Type}(d:α)(l:List (Nat × α))(i:Nat):α:=(lkL l i).getD d
def cArr:List Nat:=[51,24]
def Qer:List Nat:=[12,15,16,18,21,22,23,25,26,27,28,29,30,31,32,33,34,35,36,37,38,39,40,41,42,43,44,45,46,47,48,49,50,51,52,53,54,55,56,57,58,59,60,61,62,63,64,65,66,67,68,69,70,71,72,73,74,75,76,77,78,79,80,81,82,83,84,85,86,87,88,89]
def Qet:List (Nat × List Nat):=[(18,[65,85]),(64,[36]),(68,[7]),(85,[12])]
def Qep:List (Nat × List (Nat × List (Nat × Nat))):=[(37,[(2,[(1,2)]),(13,[(1,2)])]),(38,[(2,[(1,2)]),(4,[(1,11),(3,11),(8,11),(1,12),(3,12),(8,12),(11,12)]),(10,[(1,2)])]),(39,[(4,[(1,2)])]),(40,[(1,[(1,6),(4,6),(1,7),(4,7),(6,7),(4,8)]),(4,[(1,2)])]),(51,[(7,[(1,2)])]),(52,[(1,[(1,8),(2,8),(1,9),(2,9),(8,9)])]),(58,[(1,[(1,20),(3,20),(6,20),(8,20),(12,20),(14,20)])]),(60,[(1,[(1,14),(3,14),(6,14),(8,14)])])]
def Qee:List (Nat × List (Nat × List (Nat × Nat))):=[(12,[(9,[(2,3),(2,4),(11,12),(11,13),(12,14),(22,23),(22,24),(31,32),(40,41),(40,42),(48,50),(49,50),(56,57)])]),(25,[(2,[(4,6)]),(4,[(4,6)]),(5,[(4,6)])]),(26,[(2,[(1,6)]),(4,[(1,6)]),(5,[(1,6)])]),(27,[(1,[(0,2)])]),(28,[(1,[(0,2)])]),(37,[(2,[(1,2)]),(8,[(2,3)]),(13,[(1,2)])]),(38,[(2,[(1,2)]),(4,[(6,8),(1,11),(3,11),(6,11),(8,11),(10,11),(1,12),(3,12),(6,12),(8,12),(10,12),(11,12)]),(8,[(0,1)]),(9,[(0,1)]),(10,[(1,2)])]),(39,[(1,[(2,4)]),(4,[(1,2)])]),(40,[(1,[(1,6),(4,6),(1,7),(4,7),(6,7),(4,8)]),(4,[(1,2)])]),(43,[(2,[(0,2)])]),(44,[(4,[(1,2)]),(8,[(0,2),(1,2),(0,3)])]),(45,[(4,[(1,2)])]),(46,[(3,[(2,4)])]),(47,[(1,[(1,2)])]),(48,[(1,[(1,2)])]),(51,[(7,[(1,2)])]),(52,[(1,[(1,3),(1,8),(2,8),(3,8),(4,8),(1,9),(2,9),(3,9),(4,9),(8,9)])]),(53,[(1,[(0,5),(1,5),(3,5),(0,6),(1,6)])]),(54,[(1,[(1,3),(3,6),(4,6),(3,7),(4,7),(6,8)])]),(55,[(1,[(4,5),(4,7),(6,7)])]),(56,[(1,[(0,5),(1,5),(3,5),(0,6),(1,6)])]),(57,[(1,[(1,3)])]),(58,[(1,[(4,6),(4,8),(4,12),(9,12),(10,12),(4,14),(9,14),(10,14),(1,20),(3,20),(4,20),(6,20),(8,20),(9,20),(10,20),(12,20),(14,20),(15,20),(16,20)])]),(59,[(1,[(2,4)])]),(60,[(1,[(4,6),(4,8),(1,14),(3,14),(4,14),(6,14),(8,14),(9,14),(10,14)])]),(61,[(1,[(2,4)])]),(62,[(1,[(4,6),(4,8)])]),(80,[(1,[(1,2)]),(3,[(2,5)])]),(81,[(1,[(2,4),(4,7),(5,7),(6,7),(4,9),(5,9),(6,9),(8,9)])])]
def Cg:Cfg:={ QaN:=fun t=>cArr.contains t,use:=fun f=>Qer.contains f,glob:=fun f t=>(lkD [] Qet f).contains t,pairs:=fun f i=>lkD [] (lkD [] Qep f) i,QaU:=fun f i=>lkD [] (lkD [] Qee f) i }
noncomputable section
def I(n:Nat):V:=.int .i64 (.ofNat n)
def gl(f:Tm→V)(tm:Tm):V:=Tr.rec (motive:=fun _=>V) .dead (fun _ l _ _ _=>f l) tm
def gr(f:Tm→V)(tm:Tm):V:=Tr.rec (motive:=fun _=>V) .dead (fun _ _ r _ _=>f r) tm
def pl(f:Tm→V→Tm)(tm:Tm)(w:V):Tm:=Tr.rec (motive:=fun _=>Tm) (.nd none (f .lf w) .lf) (fun v l r _ _=>.nd v (f l w) r) tm
def pr(f:Tm→V→Tm)(tm:Tm)(w:V):Tm:=Tr.rec (motive:=fun _=>Tm) (.nd none .lf (f .lf w)) (fun v l r _ _=>.nd v l (f r w)) tm
def gn(F:Func)(f id i:Nat)(call:Qad):=gen Pg Cg call (Cg.glob f) (opA F id i)
def gD(F:Func)(f id i:Nat)(call:Qad):=qgN Pg Cg call (Cg.glob f) (opA F id i)
def sD(F:Func)(f id:Nat)(call:Qad):=qmo Pg Cg call (Cg.glob f) (rgA F id) (Cg.pairs f id) (Cg.QaU f id)
def sto(t:Nat)(a x:V)(loc:Lo)(hp:Hp)(j:V→Lo→Hp→R)(slow:R):R:=G.Qb7 a (fun r off=>G.QcT r (fun s g=>stL Pg t s g off x loc (fun loc=>j (.tuple []) loc hp)) (fun _=>slow)) (fun _=>none) none
def jE(c:List (Nat × V))(f:List (Nat × V)→R):R:=f c
def jF(c:List Foot)(f:List Foot→R):R:=f c
def g0(tm:Tm):V:=Tr.rec (motive:=fun _=>V) .dead (fun v _ _ _ _=>Option.rec (motive:=fun _=>V) .dead (fun a=>a) v) tm
def g1:Tm→V:=gl g0
def g2:Tm→V:=gr g0
def g3:Tm→V:=gl g1
def g4:Tm→V:=gr g1
def g5:Tm→V:=gl g2
def g6:Tm→V:=gr g2
def g7:Tm→V:=gl g3
def g8:Tm→V:=gr g3
def g9:Tm→V:=gl g4
def g10:Tm→V:=gr g4
def g11:Tm→V:=gl g5
def g12:Tm→V:=gr g5
def g13:Tm→V:=gl g6
def g14:Tm→V:=gr g6
def g15:Tm→V:=gl g7
def g16:Tm→V:=gr g7
def g17:Tm→V:=gl g8
def g20:Tm→V:=gr g9
def g21:Tm→V:=gl g10
def g22:Tm→V:=gr g10
def g28:Tm→V:=gr g13
def g29:Tm→V:=gl g14
def g30:Tm→V:=gr g14
def g34:Tm→V:=gr g16
def g35:Tm→V:=gl g17
def g41:Tm→V:=gl g20
def g42:Tm→V:=gr g20
def g57:Tm→V:=gl g28
def g70:Tm→V:=gr g34
def g71:Tm→V:=gl g35
def p0(tm:Tm)(w:V):Tm:=Tr.rec (motive:=fun _=>Tm) (.nd (some w) .lf .lf) (fun _ l r _ _=>.nd (some w) l r) tm
def p1:Tm→V→Tm:=pl p0
def p2:Tm→V→Tm:=pr p0
def p3:Tm→V→Tm:=pl p1
def p4:Tm→V→Tm:=pr p1
def p5:Tm→V→Tm:=pl p2
def p6:Tm→V→Tm:=pr p2
def p7:Tm→V→Tm:=pl p3
def p8:Tm→V→Tm:=pr p3
def p9:Tm→V→Tm:=pl p4
def p10:Tm→V→Tm:=pr p4
def p11:Tm→V→Tm:=pl p5
def p12:Tm→V→Tm:=pr p5
def p13:Tm→V→Tm:=pl p6
def p14:Tm→V→Tm:=pr p6
def p15:Tm→V→Tm:=pl p7
def p16:Tm→V→Tm:=pr p7
def p17:Tm→V→Tm:=pl p8
def p18:Tm→V→Tm:=pr p8
def p19:Tm→V→Tm:=pl p9
def p20:Tm→V→Tm:=pr p9
def p21:Tm→V→Tm:=pl p10
def p22:Tm→V→Tm:=pr p10
def p23:Tm→V→Tm:=pl p11
def p24:Tm→V→Tm:=pr p11
def p25:Tm→V→Tm:=pl p12
def p26:Tm→V→Tm:=pr p12
def p27:Tm→V→Tm:=pl p13
def p28:Tm→V→Tm:=pr p13
def p29:Tm→V→Tm:=pl p14
def p30:Tm→V→Tm:=pr p14
def p31:Tm→V→Tm:=pl p15
def p32:Tm→V→Tm:=pr p15
def p33:Tm→V→Tm:=pl p16
def p34:Tm→V→Tm:=pr p16
def p35:Tm→V→Tm:=pl p17
def p36:Tm→V→Tm:=pr p17
def p37:Tm→V→Tm:=pl p18
def p38:Tm→V→Tm:=pr p18
def p39:Tm→V→Tm:=pl p19
def p40:Tm→V→Tm:=pr p19
def p41:Tm→V→Tm:=pl p20
def p42:Tm→V→Tm:=pr p20
def p43:Tm→V→Tm:=pl p21
def p44:Tm→V→Tm:=pr p21
def p45:Tm→V→Tm:=pl p22
def p46:Tm→V→Tm:=pr p22
def p47:Tm→V→Tm:=pl p23
def p48:Tm→V→Tm:=pr p23
def p49:Tm→V→Tm:=pl p24
def p50:Tm→V→Tm:=pr p24
def p51:Tm→V→Tm:=pl p25
def p52:Tm→V→Tm:=pr p25
def p53:Tm→V→Tm:=pl p26
def p54:Tm→V→Tm:=pr p26
def p55:Tm→V→Tm:=pl p27
def p56:Tm→V→Tm:=pr p27
def p57:Tm→V→Tm:=pl p28
def p58:Tm→V→Tm:=pr p28
def p59:Tm→V→Tm:=pl p29
def p60:Tm→V→Tm:=pr p29
def p62:Tm→V→Tm:=pr p30
def p63:Tm→V→Tm:=pl p31
def p64:Tm→V→Tm:=pr p31
def p65:Tm→V→Tm:=pl p32
def p66:Tm→V→Tm:=pr p32
def p67:Tm→V→Tm:=pl p33
def p68:Tm→V→Tm:=pr p33
def p69:Tm→V→Tm:=pl p34
def p70:Tm→V→Tm:=pr p34
def p71:Tm→V→Tm:=pl p35
def p72:Tm→V→Tm:=pr p35
def p75:Tm→V→Tm:=pl p37
def p76:Tm→V→Tm:=pr p37
def p77:Tm→V→Tm:=pl p38
def p78:Tm→V→Tm:=pr p38
def p79:Tm→V→Tm:=pl p39
def p82:Tm→V→Tm:=pr p40
def p83:Tm→V→Tm:=pl p41
def p84:Tm→V→Tm:=pr p41
def p88:Tm→V→Tm:=pr p43
def p97:Tm→V→Tm:=pl p48
def p105:Tm→V→Tm:=pl p52
def p112:Tm→V→Tm:=pr p55
def qyV:Tm→V→Tm:=pl p56
def p115:Tm→V→Tm:=pl p57
def p126:Tm→V→Tm:=pr p62
def p131:Tm→V→Tm:=pl p65
def qyU:Tm→V→Tm:=pr p65
def qyT:Tm→V→Tm:=pl p66
def kp12:List Nat:=[0,1,2,3,8,9,10,11,12,13,14,15,18,25,113,115]
def rc12:RC:=(.seq (.reg fun c t l h k=>k (p8 t (.bool false)) l h)
 (.seq (.seq (.reg fun c t l h k=>cl c 41 [] t l h fun v0 l0 h0=>bO (G.un .not v0) fun v1=>k (p18 t v1) l0 h0)
 (.cond (.tmp 18) (.seq (.reg fun c t l h k=>k (p8 t (.bool false)) l h)
 .ret) .skip))
 (.seq (.seq (.reg fun c t l h k=>bO (bs Pg 79 4 [(0,(g0 t)),(1,(g1 t)),(2,(g2 t)),(3,(g3 t))]) fun v0=>cl c 42 [v0] t l h fun v1 l1 h1=>bO (G.un .not v1) fun v2=>k (p25 t v2) l1 h1)
 (.cond (.tmp 25) (.seq (.reg fun c t l h k=>k (p8 t (.bool true)) l h)
 .ret) .skip))
 (.seq (.reg fun c t l h k=>cl c 51 [(g0 t),(g1 t)] t l h fun v0 l0 h0=>bO (ext v0 0) fun v1=>bO (ext v0 1) fun v2=>al Pg 59 9 l0 fun v3 l3=>al Pg 63 10 l3 fun v4 l4=>jn (fun v5 l5 h5=>jn (fun v6 l6 h6=>k (p10 (p9 t v3) v4) l6 h6) fun j6=>sto 63 v4 v2 l5 h5 j6 (gn Try.f12 12 5 9 c (p31 (p10 t v4) v2) t l5 h5 j6)) fun j5=>sto 59 v3 v1 l4 h0 j5 (gn Try.f12 12 5 8 c (p30 (p9 t v3) v1) t l4 h0 j5))
 (.seq (.reg fun c t l h k=>cl c 51 [(g2 t),(g3 t)] t l h fun v0 l0 h0=>bO (ext v0 0) fun v1=>bO (ext v0 1) fun v2=>al Pg 59 11 l0 fun v3 l3=>al Pg 63 12 l3 fun v4 l4=>jn (fun v5 l5 h5=>jn (fun v6 l6 h6=>k (p12 (p11 t v3) v4) l6 h6) fun j6=>sto 63 v4 v2 l5 h5 j6 (gn Try.f12 12 6 9 c (p37 (p12 t v4) v2) t l5 h5 j6)) fun j5=>sto 59 v3 v1 l4 h0 j5 (gn Try.f12 12 6 8 c (p36 (p11 t v3) v1) t l4 h0 j5))
 (.seq (.reg fun c t l h k=>bO (ld Pg 59 (g9 t) l h) fun v0=>cl c 57 [v0] t l h fun v1 l1 h1=>bO (ext v1 0) fun v2=>bO (ext v1 1) fun v3=>al Pg 59 13 l1 fun v4 l4=>jn (fun v5 l5 h5=>k (p14 (p13 t v4) v3) l5 h5) fun j5=>sto 59 v4 v2 l4 h1 j5 (gn Try.f12 12 7 6 c (p41 (p13 t v4) v2) t l4 h1 j5))
 (.seq (.reg fun c t l h k=>bO (fa Pg 63 (g10 t) 0) fun v0=>bO (ld Pg 31 v0 l h) fun v1=>bO (fa Pg 63 (g10 t) 1) fun v2=>bO (ld Pg 31 v2 l h) fun v3=>cl c 38 [v1,v3] t l h fun v4 l4 h4=>bO (ext v4 0) fun v5=>bO (ext v4 1) fun v6=>al Pg 31 15 l4 fun v7 l7=>al Pg 31 16 l7 fun v8 l8=>jn (fun v9 l9 h9=>jn (fun v10 l10 h10=>k (p15 t v7) l10 h10) fun j10=>sto 31 v8 v6 l9 h9 j10 (gn Try.f12 12 8 11 c (p50 (p16 t v8) v6) t l9 h9 j10)) fun j9=>sto 31 v7 v5 l8 h4 j9 (gn Try.f12 12 8 10 c (p49 (p15 t v7) v5) t l8 h4 j9))
 (.seq (.seq (.reg fun c t l h k=>bO (ld Pg 59 (g9 t) l h) fun v0=>bO (ld Pg 59 (g11 t) l h) fun v1=>jE ((52,v1)::(51,v0)::[]) fun e2=>jF ((ldF (g11 t))::(ldF (g9 t))::[]) fun q2=>clD c 53 [v0,v1] l h (fun v2 f2 l2 h2=>bO (ld Pg 63 (g10 t) l2 h2) fun v3=>bO (ld Pg 63 (g12 t) l2 h2) fun v4=>jE ((55,v4)::(54,v3)::(53,v2)::e2) fun e5=>jF ((ldF (g12 t))::(ldF (g10 t))::f2::q2) fun q5=>clD c 58 [v3,v4] l2 h2 (fun v5 f5 l5 h5=>jE ((56,v5)::e5) fun e6=>jF (f5::q5) fun q6=>clD c 47 [v2,v5] l5 h5 (fun v6 f6 l6 h6=>bO (G.un .not v6) fun v7=>jn (fun v8 f8 l8 h8=>jn (fun v9 f9 l9 h9=>jn (fun v10 f10 l10 h10=>jn (fun v11 f11 l11 h11=>jn (fun v12 f12 l12 h12=>jn (fun v13 f13 l13 h13=>jn (fun v14 f14 l14 h14=>jn (fun v15 f15 l15 h15=>jn (fun v16 f16 l16 h16=>bO (pick v7 (.bool true) v16) fun v17=>jn (fun v18 f18 l18 h18=>jn (fun v19 f19 l19 h19=>jn (fun v20 f20 l20 h20=>jn (fun v21 f21 l21 h21=>jn (fun v22 f22 l22 h22=>jn (fun v23 f23 l23 h23=>jn (fun v24 f24 l24 h24=>jn (fun v25 f25 l25 h25=>bO (pick v17 (.bool true) v25) fun v26=>jn (fun v27 f27 l27 h27=>jn (fun v28 f28 l28 h28=>jn (fun v29 f29 l29 h29=>jn (fun v30 f30 l30 h30=>jn (fun v31 f31 l31 h31=>jn (fun v32 f32 l32 h32=>bO (pick v26 (.bool true) v32) fun v33=>jn (fun v34 f34 l34 h34=>jn (fun v35 f35 l35 h35=>jn (fun v36 f36 l36 h36=>jn (fun v37 f37 l37 h37=>jn (fun v38 f38 l38 h38=>jn (fun v39 f39 l39 h39=>jn (fun v40 f40 l40 h40=>bO (pick v33 (.bool true) v40) fun v41=>jn (fun v42 f42 l42 h42=>jn (fun v43 f43 l43 h43=>jn (fun v44 f44 l44 h44=>jn (fun v45 f45 l45 h45=>jn (fun v46 f46 l46 h46=>jn (fun v47 f47 l47 h47=>bO (pick v41 (.bool true) v47) fun v48=>jn (fun v49 f49 l49 h49=>jn (fun v50 f50 l50 h50=>jn (fun v51 f51 l51 h51=>jn (fun v52 f52 l52 h52=>jn (fun v53 f53 l53 h53=>jn (fun v54 f54 l54 h54=>jn (fun v55 f55 l55 h55=>bO (pick v48 (.bool true) v55) fun v56=>Qbw (rgA Try.f12 9).toList [] [(2,3),(2,4),(11,12),(11,13),(12,14),(22,23),(22,24),(31,32),(40,41),(40,42),(48,50),(49,50),(56,57)] (ft0::f55::f54::f53::f52::f51::f50::f49::ft0::ft0::f47::f46::f45::f44::f43::f42::ft0::ft0::f40::f39::f38::f37::f36::f35::f34::ft0::ft0::f32::f31::f30::f29::f28::f27::ft0::ft0::f25::f24::f23::f22::f21::f20::f19::f18::ft0::ft0::f16::f15::f14::f13::f12::f11::f10::f9::f8::ft0::ft0::f6::q6) (k (qyV t v56) l55 h55)) fun j55=>brB (wv v48 false) (j55 (.tuple []) ft0 l54 h54) (bO (bin Pg .neq 4 false v50 v54) fun v56=>j55 v56 ft0 l54 h54)) fun j54=>brB (wv v48 false) (j54 (.tuple []) ft0 l53 h53) (bO (bin Pg .eql 9 true v53 (.str ⟨1,49⟩)) fun v55=>j54 v55 ft0 l53 h53)) fun j53=>brB (wv v48 false) (j53 (.tuple []) ft0 l52 h52) (jE ((109,v52)::(108,v51)::(107,v50)::(106,v49)::(105,v48)::(104,v48)::(103,v47)::(102,v46)::(101,v45)::(100,v44)::(99,v43)::(98,v42)::(97,v41)::(96,v41)::(95,v40)::(94,v39)::(93,v38)::(92,v37)::(91,v36)::(90,v35)::(89,v34)::(88,v33)::(87,v33)::(86,v32)::(85,v31)::(84,v30)::(83,v29)::(82,v28)::(81,v27)::(80,v26)::(79,v26)::(78,v25)::(77,v24)::(76,v23)::(75,v22)::(74,v21)::(73,v20)::(72,v19)::(71,v18)::(70,v17)::(69,v17)::(68,v16)::(67,v15)::(66,v14)::(65,v13)::(64,v12)::(63,v11)::(62,v10)::(61,v9)::(60,v8)::(59,v7)::(58,v7)::(57,v6)::e6) fun e54=>jF (f52::f51::f50::f49::ft0::ft0::f47::f46::f45::f44::f43::f42::ft0::ft0::f40::f39::f38::f37::f36::f35::f34::ft0::ft0::f32::f31::f30::f29::f28::f27::ft0::ft0::f25::f24::f23::f22::f21::f20::f19::f18::ft0::ft0::f16::f15::f14::f13::f12::f11::f10::f9::f8::ft0::ft0::f6::q6) fun q54=>clD c 18 [v52] l52 h52 (fun v54 f54 l54 h54=>j53 v54 f54 l54 h54) (sD Try.f12 12 9 c 59 (some 110) e54 q54 t l52 h52))) fun j52=>brB (wv v48 false) (j52 (.tuple []) ft0 l51 h51) (jE ((108,v51)::(107,v50)::(106,v49)::(105,v48)::(104,v48)::(103,v47)::(102,v46)::(101,v45)::(100,v44)::(99,v43)::(98,v42)::(97,v41)::(96,v41)::(95,v40)::(94,v39)::(93,v38)::(92,v37)::(91,v36)::(90,v35)::(89,v34)::(88,v33)::(87,v33)::(86,v32)::(85,v31)::(84,v30)::(83,v29)::(82,v28)::(81,v27)::(80,v26)::(79,v26)::(78,v25)::(77,v24)::(76,v23)::(75,v22)::(74,v21)::(73,v20)::(72,v19)::(71,v18)::(70,v17)::(69,v17)::(68,v16)::(67,v15)::(66,v14)::(65,v13)::(64,v12)::(63,v11)::(62,v10)::(61,v9)::(60,v8)::(59,v7)::(58,v7)::(57,v6)::e6) fun e53=>jF (f51::f50::f49::ft0::ft0::f47::f46::f45::f44::f43::f42::ft0::ft0::f40::f39::f38::f37::f36::f35::f34::ft0::ft0::f32::f31::f30::f29::f28::f27::ft0::ft0::f25::f24::f23::f22::f21::f20::f19::f18::ft0::ft0::f16::f15::f14::f13::f12::f11::f10::f9::f8::ft0::ft0::f6::q6) fun q53=>clD c 48 [v51] l51 h51 (fun v53 f53 l53 h53=>j52 v53 f53 l53 h53) (sD Try.f12 12 9 c 58 (some 109) e53 q53 t l51 h51))) fun j51=>brB (wv v48 false) (j51 (.tuple []) ft0 l50 h50) (bO (ld Pg 59 (g9 t) l50 h50) fun v52=>j51 v52 (ldF (g9 t)) l50 h50)) fun j50=>brB (wv v48 false) (j50 (.tuple []) ft0 l49 h49) (jE ((106,v49)::(105,v48)::(104,v48)::(103,v47)::(102,v46)::(101,v45)::(100,v44)::(99,v43)::(98,v42)::(97,v41)::(96,v41)::(95,v40)::(94,v39)::(93,v38)::(92,v37)::(91,v36)::(90,v35)::(89,v34)::(88,v33)::(87,v33)::(86,v32)::(85,v31)::(84,v30)::(83,v29)::(82,v28)::(81,v27)::(80,v26)::(79,v26)::(78,v25)::(77,v24)::(76,v23)::(75,v22)::(74,v21)::(73,v20)::(72,v19)::(71,v18)::(70,v17)::(69,v17)::(68,v16)::(67,v15)::(66,v14)::(65,v13)::(64,v12)::(63,v11)::(62,v10)::(61,v9)::(60,v8)::(59,v7)::(58,v7)::(57,v6)::e6) fun e51=>jF (f49::ft0::ft0::f47::f46::f45::f44::f43::f42::ft0::ft0::f40::f39::f38::f37::f36::f35::f34::ft0::ft0::f32::f31::f30::f29::f28::f27::ft0::ft0::f25::f24::f23::f22::f21::f20::f19::f18::ft0::ft0::f16::f15::f14::f13::f12::f11::f10::f9::f8::ft0::ft0::f6::q6) fun q51=>clD c 63 [v49] l49 h49 (fun v51 f51 l51 h51=>j50 v51 f51 l51 h51) (sD Try.f12 12 9 c 56 (some 107) e51 q51 t l49 h49))) fun j49=>brB (wv v48 false) (j49 (.tuple []) ft0 l47 h47) (bO (ld Pg 59 (g9 t) l47 h47) fun v50=>j49 v50 (ldF (g9 t)) l47 h47)) fun j47=>brB (wv v41 false) (j47 (.tuple []) ft0 l46 h46) (bO (bin Pg .neq 9 false v44 v46) fun v48=>j47 v48 ft0 l46 h46)) fun j46=>brB (wv v41 false) (j46 (.tuple []) ft0 l45 h45) (jE ((101,v45)::(100,v44)::(99,v43)::(98,v42)::(97,v41)::(96,v41)::(95,v40)::(94,v39)::(93,v38)::(92,v37)::(91,v36)::(90,v35)::(89,v34)::(88,v33)::(87,v33)::(86,v32)::(85,v31)::(84,v30)::(83,v29)::(82,v28)::(81,v27)::(80,v26)::(79,v26)::(78,v25)::(77,v24)::(76,v23)::(75,v22)::(74,v21)::(73,v20)::(72,v19)::(71,v18)::(70,v17)::(69,v17)::(68,v16)::(67,v15)::(66,v14)::(65,v13)::(64,v12)::(63,v11)::(62,v10)::(61,v9)::(60,v8)::(59,v7)::(58,v7)::(57,v6)::e6) fun e47=>jF (f45::f44::f43::f42::ft0::ft0::f40::f39::f38::f37::f36::f35::f34::ft0::ft0::f32::f31::f30::f29::f28::f27::ft0::ft0::f25::f24::f23::f22::f21::f20::f19::f18::ft0::ft0::f16::f15::f14::f13::f12::f11::f10::f9::f8::ft0::ft0::f6::q6) fun q47=>clD c 23 [v45] l45 h45 (fun v47 f47 l47 h47=>j46 v47 f47 l47 h47) (sD Try.f12 12 9 c 51 (some 102) e47 q47 t l45 h45))) fun j45=>brB (wv v41 false) (j45 (.tuple []) ft0 l44 h44) (bO (ld Pg 31 (g15 t) l44 h44) fun v46=>j45 v46 (ldF (g15 t)) l44 h44)) fun j44=>brB (wv v41 false) (j44 (.tuple []) ft0 l43 h43) (jE ((99,v43)::(98,v42)::(97,v41)::(96,v41)::(95,v40)::(94,v39)::(93,v38)::(92,v37)::(91,v36)::(90,v35)::(89,v34)::(88,v33)::(87,v33)::(86,v32)::(85,v31)::(84,v30)::(83,v29)::(82,v28)::(81,v27)::(80,v26)::(79,v26)::(78,v25)::(77,v24)::(76,v23)::(75,v22)::(74,v21)::(73,v20)::(72,v19)::(71,v18)::(70,v17)::(69,v17)::(68,v16)::(67,v15)::(66,v14)::(65,v13)::(64,v12)::(63,v11)::(62,v10)::(61,v9)::(60,v8)::(59,v7)::(58,v7)::(57,v6)::e6) fun e45=>jF (f43::f42::ft0::ft0::f40::f39::f38::f37::f36::f35::f34::ft0::ft0::f32::f31::f30::f29::f28::f27::ft0::ft0::f25::f24::f23::f22::f21::f20::f19::f18::ft0::ft0::f16::f15::f14::f13::f12::f11::f10::f9::f8::ft0::ft0::f6::q6) fun q45=>clD c 18 [v43] l43 h43 (fun v45 f45 l45 h45=>j44 v45 f45 l45 h45) (sD Try.f12 12 9 c 49 (some 100) e45 q45 t l43 h43))) fun j43=>brB (wv v41 false) (j43 (.tuple []) ft0 l42 h42) (jE ((98,v42)::(97,v41)::(96,v41)::(95,v40)::(94,v39)::(93,v38)::(92,v37)::(91,v36)::(90,v35)::(89,v34)::(88,v33)::(87,v33)::(86,v32)::(85,v31)::(84,v30)::(83,v29)::(82,v28)::(81,v27)::(80,v26)::(79,v26)::(78,v25)::(77,v24)::(76,v23)::(75,v22)::(74,v21)::(73,v20)::(72,v19)::(71,v18)::(70,v17)::(69,v17)::(68,v16)::(67,v15)::(66,v14)::(65,v13)::(64,v12)::(63,v11)::(62,v10)::(61,v9)::(60,v8)::(59,v7)::(58,v7)::(57,v6)::e6) fun e44=>jF (f42::ft0::ft0::f40::f39::f38::f37::f36::f35::f34::ft0::ft0::f32::f31::f30::f29::f28::f27::ft0::ft0::f25::f24::f23::f22::f21::f20::f19::f18::ft0::ft0::f16::f15::f14::f13::f12::f11::f10::f9::f8::ft0::ft0::f6::q6) fun q44=>clD c 52 [v42] l42 h42 (fun v44 f44 l44 h44=>j43 v44 f44 l44 h44) (sD Try.f12 12 9 c 48 (some 99) e44 q44 t l42 h42))) fun j42=>brB (wv v41 false) (j42 (.tuple []) ft0 l40 h40) (bO (ld Pg 59 (g9 t) l40 h40) fun v43=>j42 v43 (ldF (g9 t)) l40 h40)) fun j40=>brB (wv v33 false) (j40 (.tuple []) ft0 l39 h39) (bO (bin Pg .neq 3 false v36 v39) fun v41=>j40 v41 ft0 l39 h39)) fun j39=>brB (wv v33 false) (j39 (.tuple []) ft0 l38 h38) (jE ((93,v38)::(92,v37)::(91,v36)::(90,v35)::(89,v34)::(88,v33)::(87,v33)::(86,v32)::(85,v31)::(84,v30)::(83,v29)::(82,v28)::(81,v27)::(80,v26)::(79,v26)::(78,v25)::(77,v24)::(76,v23)::(75,v22)::(74,v21)::(73,v20)::(72,v19)::(71,v18)::(70,v17)::(69,v17)::(68,v16)::(67,v15)::(66,v14)::(65,v13)::(64,v12)::(63,v11)::(62,v10)::(61,v9)::(60,v8)::(59,v7)::(58,v7)::(57,v6)::e6) fun e40=>jF (f38::f37::f36::f35::f34::ft0::ft0::f32::f31::f30::f29::f28::f27::ft0::ft0::f25::f24::f23::f22::f21::f20::f19::f18::ft0::ft0::f16::f15::f14::f13::f12::f11::f10::f9::f8::ft0::ft0::f6::q6) fun q40=>clD c 62 [v37,v38] l38 h38 (fun v40 f40 l40 h40=>j39 v40 f40 l40 h40) (sD Try.f12 12 9 c 43 (some 94) e40 q40 t l38 h38))) fun j38=>brB (wv v33 false) (j38 (.tuple []) ft0 l37 h37) (bO (ld Pg 63 (g12 t) l37 h37) fun v39=>j38 v39 (ldF (g12 t)) l37 h37)) fun j37=>brB (wv v33 false) (j37 (.tuple []) ft0 l36 h36) (bO (ld Pg 63 (g10 t) l36 h36) fun v38=>j37 v38 (ldF (g10 t)) l36 h36)) fun j36=>brB (wv v33 false) (j36 (.tuple []) ft0 l35 h35) (jE ((90,v35)::(89,v34)::(88,v33)::(87,v33)::(86,v32)::(85,v31)::(84,v30)::(83,v29)::(82,v28)::(81,v27)::(80,v26)::(79,v26)::(78,v25)::(77,v24)::(76,v23)::(75,v22)::(74,v21)::(73,v20)::(72,v19)::(71,v18)::(70,v17)::(69,v17)::(68,v16)::(67,v15)::(66,v14)::(65,v13)::(64,v12)::(63,v11)::(62,v10)::(61,v9)::(60,v8)::(59,v7)::(58,v7)::(57,v6)::e6) fun e37=>jF (f35::f34::ft0::ft0::f32::f31::f30::f29::f28::f27::ft0::ft0::f25::f24::f23::f22::f21::f20::f19::f18::ft0::ft0::f16::f15::f14::f13::f12::f11::f10::f9::f8::ft0::ft0::f6::q6) fun q37=>clD c 54 [v34,v35] l35 h35 (fun v37 f37 l37 h37=>j36 v37 f37 l37 h37) (sD Try.f12 12 9 c 40 (some 91) e37 q37 t l35 h35))) fun j35=>brB (wv v33 false) (j35 (.tuple []) ft0 l34 h34) (bO (ld Pg 59 (g11 t) l34 h34) fun v36=>j35 v36 (ldF (g11 t)) l34 h34)) fun j34=>brB (wv v33 false) (j34 (.tuple []) ft0 l32 h32) (bO (ld Pg 59 (g9 t) l32 h32) fun v35=>j34 v35 (ldF (g9 t)) l32 h32)) fun j32=>brB (wv v26 false) (j32 (.tuple []) ft0 l31 h31) (bO (G.un .not v31) fun v33=>j32 v33 ft0 l31 h31)) fun j31=>brB (wv v26 false) (j31 (.tuple []) ft0 l30 h30) (jE ((84,v30)::(83,v29)::(82,v28)::(81,v27)::(80,v26)::(79,v26)::(78,v25)::(77,v24)::(76,v23)::(75,v22)::(74,v21)::(73,v20)::(72,v19)::(71,v18)::(70,v17)::(69,v17)::(68,v16)::(67,v15)::(66,v14)::(65,v13)::(64,v12)::(63,v11)::(62,v10)::(61,v9)::(60,v8)::(59,v7)::(58,v7)::(57,v6)::e6) fun e32=>jF (f30::f29::f28::f27::ft0::ft0::f25::f24::f23::f22::f21::f20::f19::f18::ft0::ft0::f16::f15::f14::f13::f12::f11::f10::f9::f8::ft0::ft0::f6::q6) fun q32=>clD c 47 [v28,v30] l30 h30 (fun v32 f32 l32 h32=>j31 v32 f32 l32 h32) (sD Try.f12 12 9 c 34 (some 85) e32 q32 t l30 h30))) fun j30=>brB (wv v26 false) (j30 (.tuple []) ft0 l29 h29) (jE ((83,v29)::(82,v28)::(81,v27)::(80,v26)::(79,v26)::(78,v25)::(77,v24)::(76,v23)::(75,v22)::(74,v21)::(73,v20)::(72,v19)::(71,v18)::(70,v17)::(69,v17)::(68,v16)::(67,v15)::(66,v14)::(65,v13)::(64,v12)::(63,v11)::(62,v10)::(61,v9)::(60,v8)::(59,v7)::(58,v7)::(57,v6)::e6) fun e31=>jF (f29::f28::f27::ft0::ft0::f25::f24::f23::f22::f21::f20::f19::f18::ft0::ft0::f16::f15::f14::f13::f12::f11::f10::f9::f8::ft0::ft0::f6::q6) fun q31=>clD c 59 [v29] l29 h29 (fun v31 f31 l31 h31=>j30 v31 f31 l31 h31) (sD Try.f12 12 9 c 33 (some 84) e31 q31 t l29 h29))) fun j29=>brB (wv v26 false) (j29 (.tuple []) ft0 l28 h28) (bO (ld Pg 63 (g10 t) l28 h28) fun v30=>j29 v30 (ldF (g10 t)) l28 h28)) fun j28=>brB (wv v26 false) (j28 (.tuple []) ft0 l27 h27) (jE ((81,v27)::(80,v26)::(79,v26)::(78,v25)::(77,v24)::(76,v23)::(75,v22)::(74,v21)::(73,v20)::(72,v19)::(71,v18)::(70,v17)::(69,v17)::(68,v16)::(67,v15)::(66,v14)::(65,v13)::(64,v12)::(63,v11)::(62,v10)::(61,v9)::(60,v8)::(59,v7)::(58,v7)::(57,v6)::e6) fun e29=>jF (f27::ft0::ft0::f25::f24::f23::f22::f21::f20::f19::f18::ft0::ft0::f16::f15::f14::f13::f12::f11::f10::f9::f8::ft0::ft0::f6::q6) fun q29=>clD c 61 [v27] l27 h27 (fun v29 f29 l29 h29=>j28 v29 f29 l29 h29) (sD Try.f12 12 9 c 31 (some 82) e29 q29 t l27 h27))) fun j27=>brB (wv v26 false) (j27 (.tuple []) ft0 l25 h25) (bO (ld Pg 59 (g9 t) l25 h25) fun v28=>j27 v28 (ldF (g9 t)) l25 h25)) fun j25=>brB (wv v17 false) (j25 (.tuple []) ft0 l24 h24) (bO (G.un .not v24) fun v26=>j25 v26 ft0 l24 h24)) fun j24=>brB (wv v17 false) (j24 (.tuple []) ft0 l23 h23) (jE ((76,v23)::(75,v22)::(74,v21)::(73,v20)::(72,v19)::(71,v18)::(70,v17)::(69,v17)::(68,v16)::(67,v15)::(66,v14)::(65,v13)::(64,v12)::(63,v11)::(62,v10)::(61,v9)::(60,v8)::(59,v7)::(58,v7)::(57,v6)::e6) fun e25=>jF (f23::f22::f21::f20::f19::f18::ft0::ft0::f16::f15::f14::f13::f12::f11::f10::f9::f8::ft0::ft0::f6::q6) fun q25=>clD c 47 [v20,v23] l23 h23 (fun v25 f25 l25 h25=>j24 v25 f25 l25 h25) (sD Try.f12 12 9 c 26 (some 77) e25 q25 t l23 h23))) fun j23=>brB (wv v17 false) (j23 (.tuple []) ft0 l22 h22) (jE ((75,v22)::(74,v21)::(73,v20)::(72,v19)::(71,v18)::(70,v17)::(69,v17)::(68,v16)::(67,v15)::(66,v14)::(65,v13)::(64,v12)::(63,v11)::(62,v10)::(61,v9)::(60,v8)::(59,v7)::(58,v7)::(57,v6)::e6) fun e24=>jF (f22::f21::f20::f19::f18::ft0::ft0::f16::f15::f14::f13::f12::f11::f10::f9::f8::ft0::ft0::f6::q6) fun q24=>clD c 60 [v21,v22] l22 h22 (fun v24 f24 l24 h24=>j23 v24 f24 l24 h24) (sD Try.f12 12 9 c 25 (some 76) e24 q24 t l22 h22))) fun j22=>brB (wv v17 false) (j22 (.tuple []) ft0 l21 h21) (bO (ld Pg 63 (g12 t) l21 h21) fun v23=>j22 v23 (ldF (g12 t)) l21 h21)) fun j21=>brB (wv v17 false) (j21 (.tuple []) ft0 l20 h20) (bO (ld Pg 63 (g10 t) l20 h20) fun v22=>j21 v22 (ldF (g10 t)) l20 h20)) fun j20=>brB (wv v17 false) (j20 (.tuple []) ft0 l19 h19) (jE ((72,v19)::(71,v18)::(70,v17)::(69,v17)::(68,v16)::(67,v15)::(66,v14)::(65,v13)::(64,v12)::(63,v11)::(62,v10)::(61,v9)::(60,v8)::(59,v7)::(58,v7)::(57,v6)::e6) fun e21=>jF (f19::f18::ft0::ft0::f16::f15::f14::f13::f12::f11::f10::f9::f8::ft0::ft0::f6::q6) fun q21=>clD c 55 [v18,v19] l19 h19 (fun v21 f21 l21 h21=>j20 v21 f21 l21 h21) (sD Try.f12 12 9 c 22 (some 73) e21 q21 t l19 h19))) fun j19=>brB (wv v17 false) (j19 (.tuple []) ft0 l18 h18) (bO (ld Pg 59 (g11 t) l18 h18) fun v20=>j19 v20 (ldF (g11 t)) l18 h18)) fun j18=>brB (wv v17 false) (j18 (.tuple []) ft0 l16 h16) (bO (ld Pg 59 (g9 t) l16 h16) fun v19=>j18 v19 (ldF (g9 t)) l16 h16)) fun j16=>brB (wv v7 false) (j16 (.tuple []) ft0 l15 h15) (bO (G.un .not v15) fun v17=>j16 v17 ft0 l15 h15)) fun j15=>brB (wv v7 false) (j15 (.tuple []) ft0 l14 h14) (jE ((66,v14)::(65,v13)::(64,v12)::(63,v11)::(62,v10)::(61,v9)::(60,v8)::(59,v7)::(58,v7)::(57,v6)::e6) fun e16=>jF (f14::f13::f12::f11::f10::f9::f8::ft0::ft0::f6::q6) fun q16=>clD c 47 [v10,v14] l14 h14 (fun v16 f16 l16 h16=>j15 v16 f16 l16 h16) (sD Try.f12 12 9 c 16 (some 67) e16 q16 t l14 h14))) fun j14=>brB (wv v7 false) (j14 (.tuple []) ft0 l13 h13) (jE ((65,v13)::(64,v12)::(63,v11)::(62,v10)::(61,v9)::(60,v8)::(59,v7)::(58,v7)::(57,v6)::e6) fun e15=>jF (f13::f12::f11::f10::f9::f8::ft0::ft0::f6::q6) fun q15=>clD c 58 [v11,v13] l13 h13 (fun v15 f15 l15 h15=>j14 v15 f15 l15 h15) (sD Try.f12 12 9 c 15 (some 66) e15 q15 t l13 h13))) fun j13=>brB (wv v7 false) (j13 (.tuple []) ft0 l12 h12) (jE ((64,v12)::(63,v11)::(62,v10)::(61,v9)::(60,v8)::(59,v7)::(58,v7)::(57,v6)::e6) fun e14=>jF (f12::f11::f10::f9::f8::ft0::ft0::f6::q6) fun q14=>clD c 59 [v12] l12 h12 (fun v14 f14 l14 h14=>j13 v14 f14 l14 h14) (sD Try.f12 12 9 c 14 (some 65) e14 q14 t l12 h12))) fun j12=>brB (wv v7 false) (j12 (.tuple []) ft0 l11 h11) (bO (ld Pg 63 (g12 t) l11 h11) fun v13=>j12 v13 (ldF (g12 t)) l11 h11)) fun j11=>brB (wv v7 false) (j11 (.tuple []) ft0 l10 h10) (bO (ld Pg 63 (g10 t) l10 h10) fun v12=>j11 v12 (ldF (g10 t)) l10 h10)) fun j10=>brB (wv v7 false) (j10 (.tuple []) ft0 l9 h9) (jE ((61,v9)::(60,v8)::(59,v7)::(58,v7)::(57,v6)::e6) fun e11=>jF (f9::f8::ft0::ft0::f6::q6) fun q11=>clD c 56 [v8,v9] l9 h9 (fun v11 f11 l11 h11=>j10 v11 f11 l11 h11) (sD Try.f12 12 9 c 11 (some 62) e11 q11 t l9 h9))) fun j9=>brB (wv v7 false) (j9 (.tuple []) ft0 l8 h8) (bO (ld Pg 59 (g11 t) l8 h8) fun v10=>j9 v10 (ldF (g11 t)) l8 h8)) fun j8=>brB (wv v7 false) (j8 (.tuple []) ft0 l6 h6) (bO (ld Pg 59 (g9 t) l6 h6) fun v9=>j8 v9 (ldF (g9 t)) l6 h6)) (sD Try.f12 12 9 c 6 (some 57) e6 q6 t l5 h5)) (sD Try.f12 12 9 c 5 (some 56) e5 q5 t l2 h2)) (sD Try.f12 12 9 c 2 (some 53) e2 q2 t l h))
 (.cond (.tmp 113) (.seq (.reg fun c t l h k=>k (p8 t (.bool false)) l h)
 .ret) .skip))
 (.seq (.seq (.reg fun c t l h k=>bO (G.un .not (g14 t)) fun v0=>k (p115 t v0) l h)
 (.cond (.tmp 115) (.seq (.reg fun c t l h k=>bO (ld Pg 59 (g9 t) l h) fun v0=>cl c 49 [v0] t l h fun v1 l1 h1=>cl c 35 [v1] t l1 h1 fun v2 l2 h2=>bO (bin Pg .eql 3 true v2 (I 0)) fun v3=>jn (fun v4 l4 h4=>jn (fun v5 l5 h5=>jn (fun v6 l6 h6=>jn (fun v7 l7 h7=>bO (pick v3 v7 (.bool false)) fun v8=>k (p8 t v8) l7 h7) fun j7=>brB (wv v3 true) (j7 (.tuple []) l6 h6) (bO (bin Pg .eql 3 true v6 (I 0)) fun v8=>j7 v8 l6 h6)) fun j6=>brB (wv v3 true) (j6 (.tuple []) l5 h5) (cl c 35 [v5] t l5 h5 fun v7 l7 h7=>j6 v7 l7 h7)) fun j5=>brB (wv v3 true) (j5 (.tuple []) l4 h4) (cl c 49 [v4] t l4 h4 fun v6 l6 h6=>j5 v6 l6 h6)) fun j4=>brB (wv v3 true) (j4 (.tuple []) l2 h2) (bO (ld Pg 59 (g13 t) l2 h2) fun v5=>j4 v5 l2 h2))
 .ret) .skip))
 (.seq (.reg fun c t l h k=>bO (ld Pg 59 (g9 t) l h) fun v0=>bO (ld Pg 59 (g13 t) l h) fun v1=>cl c 55 [v0,v1] t l h fun v2 l2 h2=>cl c 46 [v2] t l2 h2 fun v3 l3 h3=>bO (bin Pg .eql 9 true v3 (.str ⟨1,49⟩)) fun v4=>k (p8 t v4) l3 h3)
 .ret))))))))))
def kp15:List Nat:=[0,2,3,4,5,6,7,8,9,10,11,21,38,41,42,43,51,69,70,71,72]
def rc15:RC:=(.seq (.reg fun c t l h k=>al Pg 26 2 l fun v0 l0=>k (p3 (p2 t v0) (.bool false)) l0 h)
 (.seq (.reg fun c t l h k=>bO (len (Pg.underlying 9) (g0 t)) fun v0=>bO (bin Pg .gtr 3 true v0 (I 0)) fun v1=>jn (fun v2 l2 h2=>jn (fun v3 l3 h3=>jn (fun v4 l4 h4=>bO (pick v1 v4 (.bool false)) fun v5=>k (p4 t v5) l4 h4) fun j4=>brB (wv v1 true) (j4 (.tuple []) l3 h3) (bO (bin Pg .eql 5 true v3 (.int .u8 (.ofNat 45))) fun v5=>j4 v5 l3 h3)) fun j3=>brB (wv v1 true) (j3 (.tuple []) l2 h2) (bO (idx Pg 9 v2 (I 0)) fun v4=>j3 v4 l2 h2)) fun j2=>brB (wv v1 true) (j2 (.tuple []) l h) (j2 (g0 t) l h))
 (.seq (.reg fun c t l h k=>k (p5 t (g0 t)) l h)
 (.seq (.seq (.reg fun c t l h k=>k (p21 t (g4 t)) l h)
 (.cond (.tmp 21) (.reg fun c t l h k=>bO (slc Pg 9 (g0 t) (some (I 1)) none none) fun v0=>k (p5 t v0) l h) .skip))
 (.seq (.seq (.reg fun c t l h k=>bO (bin Pg .eql 9 true (g5 t) (.str ⟨0,0⟩)) fun v0=>jn (fun v1 l1 h1=>jn (fun v2 l2 h2=>jn (fun v3 l3 h3=>jn (fun v4 l4 h4=>jn (fun v5 l5 h5=>jn (fun v6 l6 h6=>jn (fun v7 l7 h7=>jn (fun v8 l8 h8=>jn (fun v9 l9 h9=>jn (fun v10 l10 h10=>jn (fun v11 l11 h11=>bO (pick v0 (.bool true) v11) fun v12=>k (p38 t v12) l11 h11) fun j11=>brB (wv v0 false) (j11 (.tuple []) l10 h10) (bO (pick v4 v10 (.bool false)) fun v12=>j11 v12 l10 h10)) fun j10=>brB (wv v4 true) (j10 (.tuple []) l9 h9) (bO (pick v8 (.bool true) v9) fun v11=>j10 v11 l9 h9)) fun j9=>brB (wv v8 false) (j9 (.tuple []) l8 h8) (j9 (g4 t) l8 h8)) fun j8=>brB (wv v4 true) (j8 (.tuple []) l7 h7) (j8 v7 l7 h7)) fun j7=>brB (wv v4 true) (j7 (.tuple []) l6 h6) (bO (bin Pg .gtr 3 true v6 (I 1)) fun v8=>j7 v8 l6 h6)) fun j6=>brB (wv v4 true) (j6 (.tuple []) l5 h5) (bO (len (Pg.underlying 9) v5) fun v7=>j6 v7 l5 h5)) fun j5=>brB (wv v4 true) (j5 (.tuple []) l4 h4) (j5 (g5 t) l4 h4)) fun j4=>brB (wv v0 false) (j4 (.tuple []) l3 h3) (j4 v3 l3 h3)) fun j3=>brB (wv v0 false) (j3 (.tuple []) l2 h2) (bO (bin Pg .eql 5 true v2 (.int .u8 (.ofNat 48))) fun v4=>j3 v4 l2 h2)) fun j2=>brB (wv v0 false) (j2 (.tuple []) l1 h1) (bO (idx Pg 9 v1 (I 0)) fun v3=>j2 v3 l1 h1)) fun j1=>brB (wv v0 false) (j1 (.tuple []) l h) (j1 (g5 t) l h))
 (.cond (.tmp 38) (.seq (.reg fun c t l h k=>gn Try.f15 15 6 0 c t t l h (fun v0 l0 h0=>jn (fun v1 l1 h1=>k (p3 t (.bool false)) l1 h1) fun j1=>sto 26 (g2 t) v0 l0 h0 j1 (gn Try.f15 15 6 1 c (p39 (p2 t (g2 t)) v0) t l0 h0 j1)))
 .ret) .skip))
 (.seq (.reg fun c t l h k=>k (p6 t .nils) l h)
 (.seq (.reg fun c t l h k=>k (p8 (p7 t (.int .u64 (.ofNat 0))) (I 0)) l h)
 (.seq (.seq (.reg fun c t l h k=>gn Try.f15 15 9 1 c (p40 t (g5 t)) t l h (fun v0 l0 h0=>k (p41 t v0) l0 h0))
 (.block 0 (.loop (.seq (.reg fun c t l h k=>gn Try.f15 15 10 0 c (p41 t (g41 t)) t l h (fun v0 l0 h0=>bO (ext v0 0) fun v1=>k (p43 (p42 t v0) v1) l0 h0))
 (.seq (.cond (.tmp 43) .skip (.exit 0))
 (.block 1 (.seq (.reg fun c t l h k=>bO (ext (g42 t) 1) fun v0=>bO (ext (g42 t) 2) fun v1=>k (p10 (p9 t v0) v1) l h)
 (.seq (.seq (.reg fun c t l h k=>bO (bin Pg .lss 21 true (g10 t) (.int .i32 (.ofNat 48))) fun v0=>jn (fun v1 l1 h1=>jn (fun v2 l2 h2=>bO (pick v0 (.bool true) v2) fun v3=>k (p51 t v3) l2 h2) fun j2=>brB (wv v0 false) (j2 (.tuple []) l1 h1) (bO (bin Pg .gtr 21 true v1 (.int .i32 (.ofNat 57))) fun v3=>j2 v3 l1 h1)) fun j1=>brB (wv v0 false) (j1 (.tuple []) l h) (j1 (g10 t) l h))
 (.cond (.tmp 51) (.seq (.reg fun c t l h k=>gn Try.f15 15 13 0 c t t l h (fun v0 l0 h0=>jn (fun v1 l1 h1=>k (p3 t (.bool false)) l1 h1) fun j1=>sto 26 (g2 t) v0 l0 h0 j1 (gn Try.f15 15 13 1 c (p52 (p2 t (g2 t)) v0) t l0 h0 j1)))
 .ret) .skip))
 (.seq (.reg fun c t l h k=>bO (bin Pg .mul 80 true (.int .u64 (.ofNat 10)) (g7 t)) fun v0=>bO (bin Pg .sub 21 true (g10 t) (.int .i32 (.ofNat 48))) fun v1=>gn Try.f15 15 14 4 c (p56 t v1) t l h (fun v2 l2 h2=>bO (bin Pg .add 80 false v0 v2) fun v3=>k (p7 t v3) l2 h2))
 (.seq (.reg fun c t l h k=>bO (bin Pg .add 3 true (g8 t) (I 1)) fun v0=>k (p8 t v0) l h)
 (.seq (.reg fun c t l h k=>bO (bin Pg .eql 3 true (g8 t) (I 9)) fun v0=>jn (fun v1 l1 h1=>jn (fun v2 l2 h2=>jn (fun v3 l3 h3=>jn (fun v4 l4 h4=>jn (fun v5 l5 h5=>bO (pick v0 (.bool true) v5) fun v6=>k (p69 t v6) l5 h5) fun j5=>brB (wv v0 false) (j5 (.tuple []) l4 h4) (bO (bin Pg .eql 3 false v1 v4) fun v6=>j5 v6 l4 h4)) fun j4=>brB (wv v0 false) (j4 (.tuple []) l3 h3) (bO (bin Pg .sub 3 true v3 (I 1)) fun v5=>j4 v5 l3 h3)) fun j3=>brB (wv v0 false) (j3 (.tuple []) l2 h2) (bO (len (Pg.underlying 9) v2) fun v4=>j3 v4 l2 h2)) fun j2=>brB (wv v0 false) (j2 (.tuple []) l1 h1) (j2 (g5 t) l1 h1)) fun j1=>brB (wv v0 false) (j1 (.tuple []) l h) (j1 (g9 t) l h))
 (.cond (.tmp 69) (.seq (.reg fun c t l h k=>k (p11 t (.int .u64 (.ofNat 1))) l h)
 (.seq (.seq (.reg fun c t l h k=>k (p71 (p70 t (g8 t)) (I 0)) l h)
 (.block 2 (.loop (.seq (.reg fun c t l h k=>bO (bin Pg .lss 3 false (g71 t) (g70 t)) fun v0=>k (p72 t v0) l h)
 (.seq (.cond (.tmp 72) .skip (.exit 2))
 (.seq (.block 3 (.reg fun c t l h k=>bO (bin Pg .mul 80 true (g11 t) (.int .u64 (.ofNat 10))) fun v0=>k (p11 t v0) l h))
 (.reg fun c t l h k=>bO (bin Pg .add 3 true (g71 t) (I 1)) fun v0=>k (p71 t v0) l h)))))))
 (.seq (.reg fun c t l h k=>cl c 64 [(g6 t),(g11 t),(g7 t)] t l h fun v0 l0 h0=>k (p6 t v0) l0 h0)
 (.reg fun c t l h k=>k (p8 (p7 t (.int .u64 (.ofNat 0))) (I 0)) l h)))) .skip))))))))))))
 (.seq (.reg fun c t l h k=>cl c 65 [(g6 t),(g4 t)] t l h fun v0 l0 h0=>jn (fun v1 l1 h1=>k (p3 t (.bool true)) l1 h1) fun j1=>sto 26 (g2 t) v0 l0 h0 j1 (gn Try.f15 15 24 3 c (p82 (p2 t (g2 t)) v0) t l0 h0 j1))
 .ret)))))))))
def kp16:List Nat:=[0,2,3,4,5,6,7,8,11,16,22,30]
def rc16:RC:=(.seq (.reg fun c t l h k=>al Pg 31 2 l fun v0 l0=>k (p3 (p2 t v0) (.bool false)) l0 h)
 (.seq (.seq (.reg fun c t l h k=>cl c 66 [(g0 t)] t l h fun v0 l0 h0=>bO (G.un .not v0) fun v1=>k (p11 t v1) l0 h0)
 (.cond (.tmp 11) (.seq (.reg fun c t l h k=>gn Try.f16 16 2 0 c t t l h (fun v0 l0 h0=>jn (fun v1 l1 h1=>k (p3 t (.bool false)) l1 h1) fun j1=>sto 31 (g2 t) v0 l0 h0 j1 (gn Try.f16 16 2 1 c (p12 (p2 t (g2 t)) v0) t l0 h0 j1)))
 .ret) .skip))
 (.seq (.reg fun c t l h k=>bO (idx Pg 9 (g0 t) (I 0)) fun v0=>bO (bin Pg .eql 5 true v0 (.int .u8 (.ofNat 45))) fun v1=>k (p4 t v1) l h)
 (.seq (.seq (.reg fun c t l h k=>k (p16 t (g4 t)) l h)
 (.cond (.tmp 16) (.reg fun c t l h k=>bO (slc Pg 9 (g0 t) (some (I 1)) none none) fun v0=>k (p0 t v0) l h) .skip))
 (.seq (.reg fun c t l h k=>k (p5 t .nils) l h)
 (.seq (.seq (.reg fun c t l h k=>bO (len (Pg.underlying 9) (g0 t)) fun v0=>k (p6 t v0) l h)
 (.block 0 (.loop (.seq (.seq (.reg fun c t l h k=>bO (bin Pg .gtr 3 true (g6 t) (I 0)) fun v0=>k (p22 t v0) l h)
 (.cond (.tmp 22) .skip (.exit 0)))
 (.seq (.block 1 (.seq (.reg fun c t l h k=>k (p7 t (I 0)) l h)
 (.seq (.seq (.reg fun c t l h k=>bO (bin Pg .sub 3 true (g6 t) (I 4)) fun v0=>bO (mxV v0 (I 0)) fun v1=>k (p8 t v1) l h)
 (.block 2 (.loop (.seq (.seq (.reg fun c t l h k=>bO (bin Pg .lss 3 false (g8 t) (g6 t)) fun v0=>k (p30 t v0) l h)
 (.cond (.tmp 30) .skip (.exit 2)))
 (.seq (.block 3 (.reg fun c t l h k=>bO (bin Pg .mul 3 true (I 10) (g7 t)) fun v0=>bO (idx Pg 9 (g0 t) (g8 t)) fun v1=>bO (bin Pg .sub 5 true v1 (.int .u8 (.ofNat 48))) fun v2=>gn Try.f16 16 14 6 c (p38 t v2) t l h (fun v3 l3 h3=>bO (bin Pg .add 3 false v0 v3) fun v4=>k (p7 t v4) l3 h3)))
 (.reg fun c t l h k=>bO (bin Pg .add 3 true (g8 t) (I 1)) fun v0=>k (p8 t v0) l h))))))
 (.reg fun c t l h k=>bO (bs Pg 29 1 [(0,(g7 t))]) fun v0=>gn Try.f16 16 15 3 c (p43 (p41 t (g5 t)) v0) t l h (fun v1 l1 h1=>k (p5 t v1) l1 h1)))))
 (.reg fun c t l h k=>bO (bin Pg .sub 3 true (g6 t) (I 4)) fun v0=>k (p6 t v0) l h))))))
 (.seq (.reg fun c t l h k=>cl c 67 [(g4 t),(g5 t)] t l h fun v0 l0 h0=>jn (fun v1 l1 h1=>k (p3 t (.bool true)) l1 h1) fun j1=>sto 31 (g2 t) v0 l0 h0 j1 (gn Try.f16 16 16 3 c (p47 (p2 t (g2 t)) v0) t l0 h0 j1))
 .ret)))))))
def kp18:List Nat:=[0,1,2,3,4,5,6,10,16,21,51,57,58,75,82]
def rc18:RC:=(.seq (.reg fun c t l h k=>gn Try.f18 18 0 0 c (p0 t (g0 t)) t l h (fun v0 l0 h0=>k (p2 (p1 t v0) (.str ⟨0,0⟩)) l0 h0))
 (.seq (.seq (.reg fun c t l h k=>bO (fa Pg 26 (g1 t) 0) fun v0=>bO (ld Pg 24 v0 l h) fun v1=>bO (len (Pg.underlying 24) v1) fun v2=>bO (bin Pg .eql 3 true v2 (I 0)) fun v3=>k (p10 t v3) l h)
 (.cond (.tmp 10) (.seq (.reg fun c t l h k=>k (p2 t (.str ⟨1,48⟩)) l h)
 .ret) .skip))
 (.seq (.reg fun c t l h k=>k (p3 t .nils) l h)
 (.seq (.reg fun c t l h k=>bO (fa Pg 26 (g1 t) 0) fun v0=>bO (ld Pg 24 v0 l h) fun v1=>cl c 68 [v1] t l h fun v2 l2 h2=>k (p4 t v2) l2 h2)
 (.seq (.block 0 (.loop (.seq (.seq (.reg fun c t l h k=>bO (len (Pg.underlying 24) (g4 t)) fun v0=>bO (bin Pg .gtr 3 true v0 (I 0)) fun v1=>k (p16 t v1) l h)
 (.cond (.tmp 16) .skip (.exit 0)))
 (.block 1 (.seq (.reg fun c t l h k=>k (p5 t (.int .u64 (.ofNat 0))) l h)
 (.seq (.seq (.reg fun c t l h k=>bO (len (Pg.underlying 24) (g4 t)) fun v0=>bO (bin Pg .sub 3 true v0 (I 1)) fun v1=>k (p6 t v1) l h)
 (.block 2 (.loop (.seq (.seq (.reg fun c t l h k=>bO (bin Pg .geq 3 true (g6 t) (I 0)) fun v0=>k (p21 t v0) l h)
 (.cond (.tmp 21) .skip (.exit 2)))
 (.seq (.block 3 (.seq (.reg fun c t l h k=>bO (bin Pg .shl 80 true (g5 t) (.int .u64 (.ofNat 32))) fun v0=>bO (ia Pg 24 (g4 t) (g6 t)) fun v1=>bO (ld Pg 86 v1 l h) fun v2=>gn Try.f18 18 10 6 c (p29 t v2) t l h (fun v3 l3 h3=>bO (bin Pg .or 80 false v0 v3) fun v4=>k (p5 t v4) l3 h3))
 (.seq (.reg fun c t l h k=>bO (bin Pg .quo 80 true (g5 t) (.int .u64 (.ofNat 1000000000))) fun v0=>gn Try.f18 18 11 4 c (p35 t v0) t l h (fun v1 l1 h1=>bO (ia Pg 24 (g4 t) (g6 t)) fun v2=>jn (fun v3 l3 h3=>k t l3 h3) fun j3=>sto 86 v2 v1 l1 h1 j3 (gn Try.f18 18 11 6 c (p36 (p37 t v2) v1) t l1 h1 j3)))
 (.reg fun c t l h k=>bO (bin Pg .rem 80 true (g5 t) (.int .u64 (.ofNat 1000000000))) fun v0=>k (p5 t v0) l h))))
 (.reg fun c t l h k=>bO (bin Pg .sub 3 true (g6 t) (I 1)) fun v0=>k (p6 t v0) l h))))))
 (.seq (.block 4 (.loop (.seq (.seq (.reg fun c t l h k=>bO (len (Pg.underlying 24) (g4 t)) fun v0=>bO (bin Pg .gtr 3 true v0 (I 0)) fun v1=>jn (fun v2 l2 h2=>jn (fun v3 l3 h3=>jn (fun v4 l4 h4=>jn (fun v5 l5 h5=>jn (fun v6 l6 h6=>jn (fun v7 l7 h7=>jn (fun v8 l8 h8=>bO (pick v1 v8 (.bool false)) fun v9=>k (p51 t v9) l8 h8) fun j8=>brB (wv v1 true) (j8 (.tuple []) l7 h7) (bO (bin Pg .eql 86 true v7 (.int .u32 (.ofNat 0))) fun v9=>j8 v9 l7 h7)) fun j7=>brB (wv v1 true) (j7 (.tuple []) l6 h6) (bO (ld Pg 86 v6 l6 h6) fun v8=>j7 v8 l6 h6)) fun j6=>brB (wv v1 true) (j6 (.tuple []) l5 h5) (bO (ia Pg 24 v2 v5) fun v7=>j6 v7 l5 h5)) fun j5=>brB (wv v1 true) (j5 (.tuple []) l4 h4) (bO (bin Pg .sub 3 true v4 (I 1)) fun v6=>j5 v6 l4 h4)) fun j4=>brB (wv v1 true) (j4 (.tuple []) l3 h3) (bO (len (Pg.underlying 24) v3) fun v5=>j4 v5 l3 h3)) fun j3=>brB (wv v1 true) (j3 (.tuple []) l2 h2) (j3 (g4 t) l2 h2)) fun j2=>brB (wv v1 true) (j2 (.tuple []) l h) (j2 (g4 t) l h))
 (.cond (.tmp 51) .skip (.exit 4)))
 (.block 5 (.reg fun c t l h k=>bO (len (Pg.underlying 24) (g4 t)) fun v0=>bO (bin Pg .sub 3 true v0 (I 1)) fun v1=>bO (slc Pg 24 (g4 t) none (some v1) none) fun v2=>k (p4 t v2) l h)))))
 (.seq (.reg fun c t l h k=>k (p57 t (I 0)) l h)
 (.block 6 (.loop (.seq (.reg fun c t l h k=>bO (bin Pg .lss 3 true (g57 t) (I 9)) fun v0=>k (p58 t v0) l h)
 (.seq (.cond (.tmp 58) .skip (.exit 6))
 (.seq (.block 7 (.seq (.reg fun c t l h k=>bO (bin Pg .rem 80 true (g5 t) (.int .u64 (.ofNat 10))) fun v0=>bO (bin Pg .add 80 true (.int .u64 (.ofNat 48)) v0) fun v1=>gn Try.f18 18 17 4 c (p62 t v1) t l h (fun v2 l2 h2=>gn Try.f18 18 17 5 c (p63 t v2) t l2 h2 (fun v3 l3 h3=>gn Try.f18 18 17 6 c (p64 (p59 t (g3 t)) v3) t l3 h3 (fun v4 l4 h4=>k (p3 t v4) l4 h4))))
 (.reg fun c t l h k=>bO (bin Pg .quo 80 true (g5 t) (.int .u64 (.ofNat 10))) fun v0=>k (p5 t v0) l h)))
 (.reg fun c t l h k=>bO (bin Pg .add 3 true (g57 t) (I 1)) fun v0=>k (p57 t v0) l h))))))))))))))
 (.seq (.block 8 (.loop (.seq (.seq (.reg fun c t l h k=>bO (len (Pg.underlying 51) (g3 t)) fun v0=>bO (bin Pg .sub 3 true v0 (I 1)) fun v1=>bO (ia Pg 51 (g3 t) v1) fun v2=>bO (ld Pg 5 v2 l h) fun v3=>bO (bin Pg .eql 5 true v3 (.int .u8 (.ofNat 48))) fun v4=>k (p75 t v4) l h)
 (.cond (.tmp 75) .skip (.exit 8)))
 (.block 9 (.reg fun c t l h k=>bO (len (Pg.underlying 51) (g3 t)) fun v0=>bO (bin Pg .sub 3 true v0 (I 1)) fun v1=>bO (slc Pg 51 (g3 t) none (some v1) none) fun v2=>k (p3 t v2) l h)))))
 (.seq (.seq (.reg fun c t l h k=>bO (fa Pg 26 (g1 t) 1) fun v0=>bO (ld Pg 4 v0 l h) fun v1=>k (p82 t v1) l h)
 (.cond (.tmp 82) (.reg fun c t l h k=>gn Try.f18 18 23 1 c t t l h (fun v0 l0 h0=>gn Try.f18 18 23 2 c (p84 (p83 t (g3 t)) v0) t l0 h0 (fun v1 l1 h1=>k (p3 t v1) l1 h1))) .skip))
 (.seq (.reg fun c t l h k=>cl c 69 [(g3 t)] t l h fun v0 l0 h0=>k t l0 h0)
 (.seq (.reg fun c t l h k=>gn Try.f18 18 25 1 c (p88 t (g3 t)) t l h (fun v0 l0 h0=>k (p2 t v0) l0 h0))
 .ret)))))))))
def kp21:List Nat:=[0,2,3,7]
def rc21:RC:=(.seq (.reg fun c t l h k=>al Pg 26 2 l fun v0 l0=>k (p2 t v0) l0 h)
 (.seq (.reg fun c t l h k=>gn Try.f21 21 1 1 c (p4 t (g0 t)) t l h (fun v0 l0 h0=>k (p3 t v0) l0 h0))
 (.seq (.seq (.reg fun c t l h k=>bO (bin Pg .lss 2 true (g0 t) (I 0)) fun v0=>k (p7 t v0) l h)
 (.cond (.tmp 7) (.reg fun c t l h k=>bO (G.un .neg (g3 t)) fun v0=>k (p3 t v0) l h) .skip))
 (.seq (.reg fun c t l h k=>gn Try.f21 21 4 1 c (p10 t (g3 t)) t l h (fun v0 l0 h0=>bO (bin Pg .shr 80 true (g3 t) (.int .u64 (.ofNat 32))) fun v1=>gn Try.f21 21 4 4 c (p13 t v1) t l0 h0 (fun v2 l2 h2=>gn Try.f21 21 4 5 c (p14 (p11 t v0) v2) t l2 h2 (fun v3 l3 h3=>bO (bin Pg .lss 2 true (g0 t) (I 0)) fun v4=>cl c 65 [v3,v4] t l3 h3 fun v5 l5 h5=>jn (fun v6 l6 h6=>k t l6 h6) fun j6=>sto 26 (g2 t) v5 l5 h5 j6 (gn Try.f21 21 4 9 c (p18 (p2 t (g2 t)) v5) t l5 h5 j6)))))
 .ret))))
def kp22:List Nat:=[0,2,3,4,5,10,14]
def rc22:RC:=(.seq (.reg fun c t l h k=>al Pg 31 2 l fun v0 l0=>k (p2 t v0) l0 h)
 (.seq (.reg fun c t l h k=>bO (bin Pg .lss 2 true (g0 t) (I 0)) fun v0=>k (p3 t v0) l h)
 (.seq (.reg fun c t l h k=>gn Try.f22 22 2 1 c (p8 t (g0 t)) t l h (fun v0 l0 h0=>k (p4 t v0) l0 h0))
 (.seq (.seq (.reg fun c t l h k=>k (p10 t (g3 t)) l h)
 (.cond (.tmp 10) (.reg fun c t l h k=>bO (G.un .neg (g4 t)) fun v0=>k (p4 t v0) l h) .skip))
 (.seq (.reg fun c t l h k=>k (p5 t .nils) l h)
 (.seq (.block 0 (.loop (.seq (.seq (.reg fun c t l h k=>bO (bin Pg .gtr 80 true (g4 t) (.int .u64 (.ofNat 0))) fun v0=>k (p14 t v0) l h)
 (.cond (.tmp 14) .skip (.exit 0)))
 (.block 1 (.seq (.reg fun c t l h k=>bO (bin Pg .rem 80 true (g4 t) (.int .u64 (.ofNat 10000))) fun v0=>gn Try.f22 22 7 3 c (p17 t v0) t l h (fun v1 l1 h1=>bO (bs Pg 29 1 [(0,v1)]) fun v2=>gn Try.f22 22 7 5 c (p19 (p15 t (g5 t)) v2) t l1 h1 (fun v3 l3 h3=>k (p5 t v3) l3 h3)))
 (.reg fun c t l h k=>bO (bin Pg .quo 80 true (g4 t) (.int .u64 (.ofNat 10000))) fun v0=>k (p4 t v0) l h))))))
 (.seq (.reg fun c t l h k=>gn Try.f22 22 9 2 c (p24 (p23 t (g3 t)) (g5 t)) t l h (fun v0 l0 h0=>jn (fun v1 l1 h1=>k t l1 h1) fun j1=>sto 31 (g2 t) v0 l0 h0 j1 (gn Try.f22 22 9 3 c (p25 (p2 t (g2 t)) v0) t l0 h0 j1)))
 .ret)))))))
def kp23:List Nat:=[0,1,2,3,4,5,6,7,8,12,17,38,51,60]
def rc23:RC:=(.seq (.reg fun c t l h k=>gn Try.f23 23 0 0 c (p0 t (g0 t)) t l h (fun v0 l0 h0=>k (p2 (p1 t v0) (.str ⟨0,0⟩)) l0 h0))
 (.seq (.seq (.reg fun c t l h k=>bO (fa Pg 31 (g1 t) 1) fun v0=>bO (ld Pg 29 v0 l h) fun v1=>bO (len (Pg.underlying 29) v1) fun v2=>bO (bin Pg .eql 3 true v2 (I 0)) fun v3=>k (p12 t v3) l h)
 (.cond (.tmp 12) (.seq (.reg fun c t l h k=>k (p2 t (.str ⟨1,48⟩)) l h)
 .ret) .skip))
 (.seq (.reg fun c t l h k=>k (p3 t .nils) l h)
 (.seq (.seq (.reg fun c t l h k=>k (p4 t (I 0)) l h)
 (.block 0 (.loop (.seq (.seq (.reg fun c t l h k=>bO (fa Pg 31 (g1 t) 1) fun v0=>bO (ld Pg 29 v0 l h) fun v1=>bO (len (Pg.underlying 29) v1) fun v2=>bO (bin Pg .lss 3 false (g4 t) v2) fun v3=>k (p17 t v3) l h)
 (.cond (.tmp 17) .skip (.exit 0)))
 (.seq (.block 1 (.seq (.reg fun c t l h k=>bO (fa Pg 31 (g1 t) 1) fun v0=>bO (ld Pg 29 v0 l h) fun v1=>bO (ia Pg 29 v1 (g4 t)) fun v2=>bO (ld Pg 3 v2 l h) fun v3=>k (p5 t v3) l h)
 (.seq (.reg fun c t l h k=>k (p6 t (I 0)) l h)
 (.block 2 (.loop (.seq (.seq (.reg fun c t l h k=>bO (bin Pg .lss 3 true (g6 t) (I 4)) fun v0=>jn (fun v1 l1 h1=>jn (fun v2 l2 h2=>jn (fun v3 l3 h3=>jn (fun v4 l4 h4=>jn (fun v5 l5 h5=>jn (fun v6 l6 h6=>jn (fun v7 l7 h7=>jn (fun v8 l8 h8=>jn (fun v9 l9 h9=>jn (fun v10 l10 h10=>bO (pick v0 v10 (.bool false)) fun v11=>k (p38 t v11) l10 h10) fun j10=>brB (wv v0 true) (j10 (.tuple []) l9 h9) (bO (pick v7 (.bool true) v9) fun v11=>j10 v11 l9 h9)) fun j9=>brB (wv v7 false) (j9 (.tuple []) l8 h8) (bO (bin Pg .gtr 3 true v8 (I 0)) fun v10=>j9 v10 l8 h8)) fun j8=>brB (wv v7 false) (j8 (.tuple []) l7 h7) (j8 (g5 t) l7 h7)) fun j7=>brB (wv v0 true) (j7 (.tuple []) l6 h6) (j7 v6 l6 h6)) fun j6=>brB (wv v0 true) (j6 (.tuple []) l5 h5) (bO (bin Pg .lss 3 false v1 v5) fun v7=>j6 v7 l5 h5)) fun j5=>brB (wv v0 true) (j5 (.tuple []) l4 h4) (bO (bin Pg .sub 3 true v4 (I 1)) fun v6=>j5 v6 l4 h4)) fun j4=>brB (wv v0 true) (j4 (.tuple []) l3 h3) (bO (len (Pg.underlying 29) v3) fun v5=>j4 v5 l3 h3)) fun j3=>brB (wv v0 true) (j3 (.tuple []) l2 h2) (bO (ld Pg 29 v2 l2 h2) fun v4=>j3 v4 l2 h2)) fun j2=>brB (wv v0 true) (j2 (.tuple []) l1 h1) (bO (fa Pg 31 (g1 t) 1) fun v3=>j2 v3 l1 h1)) fun j1=>brB (wv v0 true) (j1 (.tuple []) l h) (j1 (g4 t) l h))
 (.cond (.tmp 38) .skip (.exit 2)))
 (.seq (.block 3 (.seq (.reg fun c t l h k=>bO (bin Pg .rem 3 true (g5 t) (I 10)) fun v0=>bO (bin Pg .add 3 true (I 48) v0) fun v1=>gn Try.f23 23 11 4 c (p44 t v1) t l h (fun v2 l2 h2=>gn Try.f23 23 11 5 c (p45 t v2) t l2 h2 (fun v3 l3 h3=>gn Try.f23 23 11 6 c (p46 (p41 t (g3 t)) v3) t l3 h3 (fun v4 l4 h4=>k (p3 t v4) l4 h4))))
 (.reg fun c t l h k=>bO (bin Pg .quo 3 true (g5 t) (I 10)) fun v0=>k (p5 t v0) l h)))
 (.reg fun c t l h k=>bO (bin Pg .add 3 true (g6 t) (I 1)) fun v0=>k (p6 t v0) l h))))))))
 (.reg fun c t l h k=>bO (bin Pg .add 3 true (g4 t) (I 1)) fun v0=>k (p4 t v0) l h))))))
 (.seq (.seq (.reg fun c t l h k=>bO (fa Pg 31 (g1 t) 0) fun v0=>bO (ld Pg 4 v0 l h) fun v1=>k (p51 t v1) l h)
 (.cond (.tmp 51) (.reg fun c t l h k=>gn Try.f23 23 14 1 c t t l h (fun v0 l0 h0=>gn Try.f23 23 14 2 c (p53 (p52 t (g3 t)) v0) t l0 h0 (fun v1 l1 h1=>k (p3 t v1) l1 h1))) .skip))
 (.seq (.seq (.reg fun c t l h k=>bO (len (Pg.underlying 51) (g3 t)) fun v0=>bO (bin Pg .sub 3 true v0 (I 1)) fun v1=>k (p8 (p7 t (I 0)) v1) l h)
 (.block 4 (.loop (.seq (.seq (.reg fun c t l h k=>bO (bin Pg .lss 3 false (g7 t) (g8 t)) fun v0=>k (p60 t v0) l h)
 (.cond (.tmp 60) .skip (.exit 4)))
 (.seq (.block 5 (.reg fun c t l h k=>bO (ia Pg 51 (g3 t) (g8 t)) fun v0=>bO (ld Pg 5 v0 l h) fun v1=>bO (ia Pg 51 (g3 t) (g7 t)) fun v2=>bO (ld Pg 5 v2 l h) fun v3=>bO (ia Pg 51 (g3 t) (g7 t)) fun v4=>jE ((77,v4)::(76,v3)::(75,v2)::(74,(g7 t))::(73,(g3 t))::(72,v1)::(71,v0)::(70,(g8 t))::(69,(g3 t))::(68,(g8 t))::(67,(g3 t))::(66,(g7 t))::(65,(g3 t))::[]) fun e5=>jF (ft0::(ldF v2)::ft0::ft0::ft0::(ldF v0)::ft0::ft0::ft0::ft0::ft0::ft0::ft0::[]) fun q5=>gD Try.f23 23 18 13 c (p72 (p77 t v4) v1) l h (fun v5 f5 l5 h5=>bO (ia Pg 51 (g3 t) (g8 t)) fun v6=>jE ((78,v6)::e5) fun e7=>jF (ft0::f5::q5) fun q7=>gD Try.f23 23 18 15 c (p76 (p78 t v6) v3) l5 h5 (fun v7 f7 l7 h7=>Qbw (rgA Try.f23 18).toList [] [] (f7::q7) (k t l7 h7)) (sD Try.f23 23 18 c 15 none e7 q7 t l5 h5)) (sD Try.f23 23 18 c 13 none e5 q5 t l h)))
 (.reg fun c t l h k=>bO (bin Pg .add 3 true (g7 t) (I 1)) fun v0=>bO (bin Pg .sub 3 true (g8 t) (I 1)) fun v1=>k (p8 (p7 t v0) v1) l h))))))
 (.seq (.reg fun c t l h k=>gn Try.f23 23 19 1 c (p79 t (g3 t)) t l h (fun v0 l0 h0=>k (p2 t v0) l0 h0))
 .ret)))))))
def kp25:List Nat:=[0,1,2,3,4,5,19]
def rc25:RC:=(.seq (.reg fun c t l h k=>gn Try.f25 25 0 0 c (p0 t (g0 t)) t l h (fun v0 l0 h0=>gn Try.f25 25 0 1 c (p1 t (g1 t)) t l0 h0 (fun v1 l1 h1=>al Pg 26 4 l1 fun v2 l2=>k (p4 (p3 (p2 t v0) v1) v2) l2 h1)))
 (.seq (.block 0 (.seq (.reg fun c t l h k=>bO (fa Pg 26 (g2 t) 1) fun v0=>bO (ld Pg 4 v0 l h) fun v1=>bO (fa Pg 26 (g3 t) 1) fun v2=>bO (ld Pg 4 v2 l h) fun v3=>bO (bin Pg .eql 4 false v1 v3) fun v4=>k (p5 t v4) l h)
 (.cond (.tmp 5) (.seq (.reg fun c t l h k=>bO (fa Pg 26 (g2 t) 0) fun v0=>bO (ld Pg 24 v0 l h) fun v1=>bO (fa Pg 26 (g3 t) 0) fun v2=>bO (ld Pg 24 v2 l h) fun v3=>jE ((14,v3)::(13,v2)::(12,v1)::(11,v0)::[]) fun e4=>jF ((ldF v2)::ft0::(ldF v0)::ft0::[]) fun q4=>clD c 71 [v1,v3] l h (fun v4 f4 l4 h4=>bO (fa Pg 26 (g2 t) 1) fun v5=>bO (ld Pg 4 v5 l4 h4) fun v6=>jE ((17,v6)::(16,v5)::(15,v4)::e4) fun e7=>jF ((ldF v5)::ft0::f4::q4) fun q7=>clD c 65 [v4,v6] l4 h4 (fun v7 f7 l7 h7=>jE ((18,v7)::e7) fun e8=>jF (f7::q7) fun q8=>gD Try.f25 25 2 8 c (p18 (p4 t (g4 t)) v7) l7 h7 (fun v8 f8 l8 h8=>Qbw (rgA Try.f25 2).toList [] [(4,6)] (f8::q8) (k t l8 h8)) (sD Try.f25 25 2 c 8 none e8 q8 t l7 h7)) (sD Try.f25 25 2 c 7 (some 18) e7 q7 t l4 h4)) (sD Try.f25 25 2 c 4 (some 15) e4 q4 t l h))
 .ret) (.seq (.reg fun c t l h k=>bO (fa Pg 26 (g2 t) 0) fun v0=>bO (ld Pg 24 v0 l h) fun v1=>bO (fa Pg 26 (g3 t) 0) fun v2=>bO (ld Pg 24 v2 l h) fun v3=>cl c 72 [v1,v3] t l h fun v4 l4 h4=>bO (bin Pg .geq 3 true v4 (I 0)) fun v5=>k (p19 t v5) l4 h4)
 (.cond (.tmp 19) (.seq (.reg fun c t l h k=>bO (fa Pg 26 (g2 t) 0) fun v0=>bO (ld Pg 24 v0 l h) fun v1=>bO (fa Pg 26 (g3 t) 0) fun v2=>bO (ld Pg 24 v2 l h) fun v3=>jE ((29,v3)::(28,v2)::(27,v1)::(26,v0)::[]) fun e4=>jF ((ldF v2)::ft0::(ldF v0)::ft0::[]) fun q4=>clD c 73 [v1,v3] l h (fun v4 f4 l4 h4=>bO (fa Pg 26 (g2 t) 1) fun v5=>bO (ld Pg 4 v5 l4 h4) fun v6=>jE ((32,v6)::(31,v5)::(30,v4)::e4) fun e7=>jF ((ldF v5)::ft0::f4::q4) fun q7=>clD c 65 [v4,v6] l4 h4 (fun v7 f7 l7 h7=>jE ((33,v7)::e7) fun e8=>jF (f7::q7) fun q8=>gD Try.f25 25 4 8 c (p33 (p4 t (g4 t)) v7) l7 h7 (fun v8 f8 l8 h8=>Qbw (rgA Try.f25 4).toList [] [(4,6)] (f8::q8) (k t l8 h8)) (sD Try.f25 25 4 c 8 none e8 q8 t l7 h7)) (sD Try.f25 25 4 c 7 (some 33) e7 q7 t l4 h4)) (sD Try.f25 25 4 c 4 (some 30) e4 q4 t l h))
 .ret) .skip)))))
 (.seq (.reg fun c t l h k=>bO (fa Pg 26 (g3 t) 0) fun v0=>bO (ld Pg 24 v0 l h) fun v1=>bO (fa Pg 26 (g2 t) 0) fun v2=>bO (ld Pg 24 v2 l h) fun v3=>jE ((37,v3)::(36,v2)::(35,v1)::(34,v0)::[]) fun e4=>jF ((ldF v2)::ft0::(ldF v0)::ft0::[]) fun q4=>clD c 73 [v1,v3] l h (fun v4 f4 l4 h4=>bO (fa Pg 26 (g3 t) 1) fun v5=>bO (ld Pg 4 v5 l4 h4) fun v6=>jE ((40,v6)::(39,v5)::(38,v4)::e4) fun e7=>jF ((ldF v5)::ft0::f4::q4) fun q7=>clD c 65 [v4,v6] l4 h4 (fun v7 f7 l7 h7=>jE ((41,v7)::e7) fun e8=>jF (f7::q7) fun q8=>gD Try.f25 25 5 8 c (p41 (p4 t (g4 t)) v7) l7 h7 (fun v8 f8 l8 h8=>Qbw (rgA Try.f25 5).toList [] [(4,6)] (f8::q8) (k t l8 h8)) (sD Try.f25 25 5 c 8 none e8 q8 t l7 h7)) (sD Try.f25 25 5 c 7 (some 41) e7 q7 t l4 h4)) (sD Try.f25 25 5 c 4 (some 38) e4 q4 t l h))
 .ret)))
def kp26:List Nat:=[0,1,2,3,4,9,23]
def rc26:RC:=(.seq (.reg fun c t l h k=>gn Try.f26 26 0 0 c (p0 t (g0 t)) t l h (fun v0 l0 h0=>gn Try.f26 26 0 1 c (p1 t (g1 t)) t l0 h0 (fun v1 l1 h1=>al Pg 31 4 l1 fun v2 l2=>k (p4 (p3 (p2 t v0) v1) v2) l2 h1)))
 (.seq (.seq (.reg fun c t l h k=>bO (fa Pg 31 (g2 t) 0) fun v0=>bO (ld Pg 4 v0 l h) fun v1=>bO (fa Pg 31 (g3 t) 0) fun v2=>bO (ld Pg 4 v2 l h) fun v3=>bO (bin Pg .eql 4 false v1 v3) fun v4=>k (p9 t v4) l h)
 (.cond (.tmp 9) (.seq (.reg fun c t l h k=>bO (fa Pg 31 (g2 t) 0) fun v0=>bO (ld Pg 4 v0 l h) fun v1=>bO (fa Pg 31 (g2 t) 1) fun v2=>bO (ld Pg 29 v2 l h) fun v3=>bO (fa Pg 31 (g3 t) 1) fun v4=>bO (ld Pg 29 v4 l h) fun v5=>jE ((15,v5)::(14,v4)::(13,v3)::(12,v2)::(11,v1)::(10,v0)::[]) fun e6=>jF ((ldF v4)::ft0::(ldF v2)::ft0::(ldF v0)::ft0::[]) fun q6=>clD c 74 [v3,v5] l h (fun v6 f6 l6 h6=>jE ((16,v6)::e6) fun e7=>jF (f6::q6) fun q7=>clD c 67 [v1,v6] l6 h6 (fun v7 f7 l7 h7=>jE ((17,v7)::e7) fun e8=>jF (f7::q7) fun q8=>gD Try.f26 26 2 8 c (p17 (p4 t (g4 t)) v7) l7 h7 (fun v8 f8 l8 h8=>Qbw (rgA Try.f26 2).toList [] [(1,6)] (f8::q8) (k t l8 h8)) (sD Try.f26 26 2 c 8 none e8 q8 t l7 h7)) (sD Try.f26 26 2 c 7 (some 17) e7 q7 t l6 h6)) (sD Try.f26 26 2 c 6 (some 16) e6 q6 t l h))
 .ret) .skip))
 (.seq (.seq (.reg fun c t l h k=>bO (fa Pg 31 (g2 t) 1) fun v0=>bO (ld Pg 29 v0 l h) fun v1=>bO (fa Pg 31 (g3 t) 1) fun v2=>bO (ld Pg 29 v2 l h) fun v3=>cl c 75 [v1,v3] t l h fun v4 l4 h4=>bO (bin Pg .geq 3 true v4 (I 0)) fun v5=>k (p23 t v5) l4 h4)
 (.cond (.tmp 23) (.seq (.reg fun c t l h k=>bO (fa Pg 31 (g2 t) 0) fun v0=>bO (ld Pg 4 v0 l h) fun v1=>bO (fa Pg 31 (g2 t) 1) fun v2=>bO (ld Pg 29 v2 l h) fun v3=>bO (fa Pg 31 (g3 t) 1) fun v4=>bO (ld Pg 29 v4 l h) fun v5=>jE ((29,v5)::(28,v4)::(27,v3)::(26,v2)::(25,v1)::(24,v0)::[]) fun e6=>jF ((ldF v4)::ft0::(ldF v2)::ft0::(ldF v0)::ft0::[]) fun q6=>clD c 76 [v3,v5] l h (fun v6 f6 l6 h6=>jE ((30,v6)::e6) fun e7=>jF (f6::q6) fun q7=>clD c 67 [v1,v6] l6 h6 (fun v7 f7 l7 h7=>jE ((31,v7)::e7) fun e8=>jF (f7::q7) fun q8=>gD Try.f26 26 4 8 c (p31 (p4 t (g4 t)) v7) l7 h7 (fun v8 f8 l8 h8=>Qbw (rgA Try.f26 4).toList [] [(1,6)] (f8::q8) (k t l8 h8)) (sD Try.f26 26 4 c 8 none e8 q8 t l7 h7)) (sD Try.f26 26 4 c 7 (some 31) e7 q7 t l6 h6)) (sD Try.f26 26 4 c 6 (some 30) e6 q6 t l h))
 .ret) .skip))
 (.seq (.reg fun c t l h k=>bO (fa Pg 31 (g3 t) 0) fun v0=>bO (ld Pg 4 v0 l h) fun v1=>bO (fa Pg 31 (g3 t) 1) fun v2=>bO (ld Pg 29 v2 l h) fun v3=>bO (fa Pg 31 (g2 t) 1) fun v4=>bO (ld Pg 29 v4 l h) fun v5=>jE ((37,v5)::(36,v4)::(35,v3)::(34,v2)::(33,v1)::(32,v0)::[]) fun e6=>jF ((ldF v4)::ft0::(ldF v2)::ft0::(ldF v0)::ft0::[]) fun q6=>clD c 76 [v3,v5] l h (fun v6 f6 l6 h6=>jE ((38,v6)::e6) fun e7=>jF (f6::q6) fun q7=>clD c 67 [v1,v6] l6 h6 (fun v7 f7 l7 h7=>jE ((39,v7)::e7) fun e8=>jF (f7::q7) fun q8=>gD Try.f26 26 5 8 c (p39 (p4 t (g4 t)) v7) l7 h7 (fun v8 f8 l8 h8=>Qbw (rgA Try.f26 5).toList [] [(1,6)] (f8::q8) (k t l8 h8)) (sD Try.f26 26 5 c 8 none e8 q8 t l7 h7)) (sD Try.f26 26 5 c 7 (some 39) e7 q7 t l6 h6)) (sD Try.f26 26 5 c 6 (some 38) e6 q6 t l h))
 .ret))))
def kp27:List Nat:=[0,1,2,3,4]
def rc27:RC:=(.seq (.reg fun c t l h k=>gn Try.f27 27 0 0 c (p0 t (g0 t)) t l h (fun v0 l0 h0=>gn Try.f27 27 0 1 c (p1 t (g1 t)) t l0 h0 (fun v1 l1 h1=>al Pg 26 4 l1 fun v2 l2=>k (p4 (p3 (p2 t v0) v1) v2) l2 h1)))
 (.seq (.reg fun c t l h k=>bO (ld Pg 26 (g2 t) l h) fun v0=>bO (ld Pg 26 (g3 t) l h) fun v1=>jE ((6,v1)::(5,v0)::[]) fun e2=>jF ((ldF (g3 t))::(ldF (g2 t))::[]) fun q2=>clD c 31 [v1] l h (fun v2 f2 l2 h2=>jE ((7,v2)::e2) fun e3=>jF (f2::q2) fun q3=>clD c 25 [v0,v2] l2 h2 (fun v3 f3 l3 h3=>jE ((8,v3)::e3) fun e4=>jF (f3::q3) fun q4=>gD Try.f27 27 1 4 c (p8 (p4 t (g4 t)) v3) l3 h3 (fun v4 f4 l4 h4=>Qbw (rgA Try.f27 1).toList [] [(0,2)] (f4::q4) (k t l4 h4)) (sD Try.f27 27 1 c 4 none e4 q4 t l3 h3)) (sD Try.f27 27 1 c 3 (some 8) e3 q3 t l2 h2)) (sD Try.f27 27 1 c 2 (some 7) e2 q2 t l h))
 .ret))
def kp28:List Nat:=[0,1,2,3,4]
def rc28:RC:=(.seq (.reg fun c t l h k=>gn Try.f28 28 0 0 c (p0 t (g0 t)) t l h (fun v0 l0 h0=>gn Try.f28 28 0 1 c (p1 t (g1 t)) t l0 h0 (fun v1 l1 h1=>al Pg 31 4 l1 fun v2 l2=>k (p4 (p3 (p2 t v0) v1) v2) l2 h1)))
 (.seq (.reg fun c t l h k=>bO (ld Pg 31 (g2 t) l h) fun v0=>bO (ld Pg 31 (g3 t) l h) fun v1=>jE ((6,v1)::(5,v0)::[]) fun e2=>jF ((ldF (g3 t))::(ldF (g2 t))::[]) fun q2=>clD c 32 [v1] l h (fun v2 f2 l2 h2=>jE ((7,v2)::e2) fun e3=>jF (f2::q2) fun q3=>clD c 26 [v0,v2] l2 h2 (fun v3 f3 l3 h3=>jE ((8,v3)::e3) fun e4=>jF (f3::q3) fun q4=>gD Try.f28 28 1 4 c (p8 (p4 t (g4 t)) v3) l3 h3 (fun v4 f4 l4 h4=>Qbw (rgA Try.f28 1).toList [] [(0,2)] (f4::q4) (k t l4 h4)) (sD Try.f28 28 1 c 4 none e4 q4 t l3 h3)) (sD Try.f28 28 1 c 3 (some 8) e3 q3 t l2 h2)) (sD Try.f28 28 1 c 2 (some 7) e2 q2 t l h))
 .ret))
def kp29:List Nat:=[0,1,2,3,4,5,6,7,8,9,10,20,21,22,23,28,29,30,31]
def rc29:RC:=(.seq (.reg fun c t l h k=>gn Try.f29 29 0 0 c (p0 t (g0 t)) t l h (fun v0 l0 h0=>gn Try.f29 29 0 1 c (p1 t (g1 t)) t l0 h0 (fun v1 l1 h1=>al Pg 26 4 l1 fun v2 l2=>k (p4 (p3 (p2 t v0) v1) v2) l2 h1)))
 (.seq (.reg fun c t l h k=>bO (fa Pg 26 (g2 t) 0) fun v0=>bO (ld Pg 24 v0 l h) fun v1=>bO (len (Pg.underlying 24) v1) fun v2=>bO (fa Pg 26 (g3 t) 0) fun v3=>bO (ld Pg 24 v3 l h) fun v4=>bO (len (Pg.underlying 24) v4) fun v5=>bO (bin Pg .add 3 false v2 v5) fun v6=>gn Try.f29 29 1 7 c (p17 (p17 t v6) v6) t l h (fun v7 l7 h7=>k (p5 t v7) l7 h7))
 (.seq (.seq (.reg fun c t l h k=>bO (fa Pg 26 (g2 t) 0) fun v0=>bO (ld Pg 24 v0 l h) fun v1=>bO (len (Pg.underlying 24) v1) fun v2=>k (p22 (p21 (p20 t v1) v2) (I 0)) l h)
 (.block 0 (.loop (.seq (.reg fun c t l h k=>bO (bin Pg .lss 3 false (g22 t) (g21 t)) fun v0=>k (p23 t v0) l h)
 (.seq (.cond (.tmp 23) .skip (.exit 0))
 (.seq (.block 1 (.seq (.reg fun c t l h k=>bO (ia Pg 24 (g20 t) (g22 t)) fun v0=>bO (ld Pg 86 v0 l h) fun v1=>k (p7 (p6 t (g22 t)) v1) l h)
 (.seq (.reg fun c t l h k=>k (p8 t (.int .u64 (.ofNat 0))) l h)
 (.seq (.seq (.reg fun c t l h k=>bO (fa Pg 26 (g3 t) 0) fun v0=>bO (ld Pg 24 v0 l h) fun v1=>bO (len (Pg.underlying 24) v1) fun v2=>k (p30 (p29 (p28 t v1) v2) (I 0)) l h)
 (.block 2 (.loop (.seq (.reg fun c t l h k=>bO (bin Pg .lss 3 false (g30 t) (g29 t)) fun v0=>k (p31 t v0) l h)
 (.seq (.cond (.tmp 31) .skip (.exit 2))
 (.seq (.block 3 (.seq (.reg fun c t l h k=>bO (ia Pg 24 (g28 t) (g30 t)) fun v0=>bO (ld Pg 86 v0 l h) fun v1=>k (p10 (p9 t (g30 t)) v1) l h)
 (.seq (.reg fun c t l h k=>gn Try.f29 29 9 2 c (p36 t (g7 t)) t l h (fun v0 l0 h0=>gn Try.f29 29 9 4 c (p38 t (g10 t)) t l0 h0 (fun v1 l1 h1=>bO (bin Pg .mul 80 false v0 v1) fun v2=>bO (bin Pg .add 3 false (g6 t) (g9 t)) fun v3=>bO (ia Pg 24 (g5 t) v3) fun v4=>bO (ld Pg 86 v4 l1 h1) fun v5=>gn Try.f29 29 9 12 c (p46 t v5) t l1 h1 (fun v6 l6 h6=>bO (bin Pg .add 80 false v2 v6) fun v7=>bO (bin Pg .add 80 false (g8 t) v7) fun v8=>k (p8 t v8) l6 h6))))
 (.seq (.reg fun c t l h k=>bO (bin Pg .add 3 false (g6 t) (g9 t)) fun v0=>gn Try.f29 29 10 5 c (p54 t (g8 t)) t l h (fun v1 l1 h1=>bO (ia Pg 24 (g5 t) v0) fun v2=>jn (fun v3 l3 h3=>k t l3 h3) fun j3=>sto 86 v2 v1 l1 h1 j3 (gn Try.f29 29 10 7 c (p55 (p56 t v2) v1) t l1 h1 j3)))
 (.reg fun c t l h k=>bO (bin Pg .shr 80 true (g8 t) (.int .u64 (.ofNat 32))) fun v0=>k (p8 t v0) l h)))))
 (.reg fun c t l h k=>bO (bin Pg .add 3 true (g30 t) (I 1)) fun v0=>k (p30 t v0) l h)))))))
 (.reg fun c t l h k=>bO (fa Pg 26 (g3 t) 0) fun v0=>bO (ld Pg 24 v0 l h) fun v1=>bO (len (Pg.underlying 24) v1) fun v2=>bO (bin Pg .add 3 false (g6 t) v2) fun v3=>gn Try.f29 29 13 7 c (p66 t (g8 t)) t l h (fun v4 l4 h4=>bO (ia Pg 24 (g5 t) v3) fun v5=>jn (fun v6 l6 h6=>k t l6 h6) fun j6=>sto 86 v5 v4 l4 h4 j6 (gn Try.f29 29 13 9 c (p67 (p68 t v5) v4) t l4 h4 j6)))))))
 (.reg fun c t l h k=>bO (bin Pg .add 3 true (g22 t) (I 1)) fun v0=>k (p22 t v0) l h)))))))
 (.seq (.reg fun c t l h k=>bO (fa Pg 26 (g2 t) 1) fun v0=>bO (ld Pg 4 v0 l h) fun v1=>bO (fa Pg 26 (g3 t) 1) fun v2=>bO (ld Pg 4 v2 l h) fun v3=>bO (bin Pg .neq 4 false v1 v3) fun v4=>cl c 65 [(g5 t),v4] t l h fun v5 l5 h5=>jn (fun v6 l6 h6=>k t l6 h6) fun j6=>sto 26 (g4 t) v5 l5 h5 j6 (gn Try.f29 29 15 7 c (p76 (p4 t (g4 t)) v5) t l5 h5 j6))
 .ret))))
def kp30:List Nat:=[0,1,2,3,4,5,6,7,8,9,22,33,48]
def rc30:RC:=(.seq (.reg fun c t l h k=>gn Try.f30 30 0 0 c (p0 t (g0 t)) t l h (fun v0 l0 h0=>gn Try.f30 30 0 1 c (p1 t (g1 t)) t l0 h0 (fun v1 l1 h1=>al Pg 31 4 l1 fun v2 l2=>k (p4 (p3 (p2 t v0) v1) v2) l2 h1)))
 (.seq (.reg fun c t l h k=>bO (fa Pg 31 (g2 t) 1) fun v0=>bO (ld Pg 29 v0 l h) fun v1=>bO (len (Pg.underlying 29) v1) fun v2=>bO (fa Pg 31 (g3 t) 1) fun v3=>bO (ld Pg 29 v3 l h) fun v4=>bO (len (Pg.underlying 29) v4) fun v5=>bO (bin Pg .add 3 false v2 v5) fun v6=>gn Try.f30 30 1 7 c (p16 (p16 t v6) v6) t l h (fun v7 l7 h7=>k (p5 t v7) l7 h7))
 (.seq (.seq (.reg fun c t l h k=>k (p6 t (I 0)) l h)
 (.block 0 (.loop (.seq (.seq (.reg fun c t l h k=>bO (fa Pg 31 (g2 t) 1) fun v0=>bO (ld Pg 29 v0 l h) fun v1=>bO (len (Pg.underlying 29) v1) fun v2=>bO (bin Pg .lss 3 false (g6 t) v2) fun v3=>k (p22 t v3) l h)
 (.cond (.tmp 22) .skip (.exit 0)))
 (.seq (.block 1 (.seq (.reg fun c t l h k=>k (p7 t (I 0)) l h)
 (.seq (.reg fun c t l h k=>k (p8 t (I 0)) l h)
 (.block 2 (.loop (.seq (.seq (.reg fun c t l h k=>bO (fa Pg 31 (g3 t) 1) fun v0=>bO (ld Pg 29 v0 l h) fun v1=>bO (len (Pg.underlying 29) v1) fun v2=>bO (bin Pg .lss 3 false (g8 t) v2) fun v3=>jn (fun v4 l4 h4=>jn (fun v5 l5 h5=>bO (pick v3 (.bool true) v5) fun v6=>k (p33 t v6) l5 h5) fun j5=>brB (wv v3 false) (j5 (.tuple []) l4 h4) (bO (bin Pg .gtr 3 true v4 (I 0)) fun v6=>j5 v6 l4 h4)) fun j4=>brB (wv v3 false) (j4 (.tuple []) l h) (j4 (g7 t) l h))
 (.cond (.tmp 33) .skip (.exit 2)))
 (.seq (.block 3 (.seq (.reg fun c t l h k=>bO (bin Pg .add 3 false (g6 t) (g8 t)) fun v0=>bO (ia Pg 29 (g5 t) v0) fun v1=>bO (ld Pg 3 v1 l h) fun v2=>bO (bin Pg .add 3 false v2 (g7 t)) fun v3=>k (p9 t v3) l h)
 (.seq (.seq (.reg fun c t l h k=>bO (fa Pg 31 (g3 t) 1) fun v0=>bO (ld Pg 29 v0 l h) fun v1=>bO (len (Pg.underlying 29) v1) fun v2=>bO (bin Pg .lss 3 false (g8 t) v2) fun v3=>k (p48 t v3) l h)
 (.cond (.tmp 48) (.reg fun c t l h k=>bO (fa Pg 31 (g2 t) 1) fun v0=>bO (ld Pg 29 v0 l h) fun v1=>bO (ia Pg 29 v1 (g6 t)) fun v2=>bO (ld Pg 3 v2 l h) fun v3=>bO (fa Pg 31 (g3 t) 1) fun v4=>bO (ld Pg 29 v4 l h) fun v5=>bO (ia Pg 29 v5 (g8 t)) fun v6=>bO (ld Pg 3 v6 l h) fun v7=>bO (bin Pg .mul 3 false v3 v7) fun v8=>bO (bin Pg .add 3 false (g9 t) v8) fun v9=>k (p9 t v9) l h) .skip))
 (.reg fun c t l h k=>bO (bin Pg .add 3 false (g6 t) (g8 t)) fun v0=>bO (bin Pg .rem 3 true (g9 t) (I 10000)) fun v1=>bO (bin Pg .quo 3 true (g9 t) (I 10000)) fun v2=>bO (ia Pg 29 (g5 t) v0) fun v3=>jn (fun v4 l4 h4=>k (p7 t v2) l4 h4) fun j4=>sto 3 v3 v1 l h j4 (gn Try.f30 30 12 9 c (p67 (p70 t v3) v1) t l h j4)))))
 (.reg fun c t l h k=>bO (bin Pg .add 3 true (g8 t) (I 1)) fun v0=>k (p8 t v0) l h))))))))
 (.reg fun c t l h k=>bO (bin Pg .add 3 true (g6 t) (I 1)) fun v0=>k (p6 t v0) l h))))))
 (.seq (.reg fun c t l h k=>bO (fa Pg 31 (g2 t) 0) fun v0=>bO (ld Pg 4 v0 l h) fun v1=>bO (fa Pg 31 (g3 t) 0) fun v2=>bO (ld Pg 4 v2 l h) fun v3=>bO (bin Pg .neq 4 false v1 v3) fun v4=>cl c 67 [v4,(g5 t)] t l h fun v5 l5 h5=>jn (fun v6 l6 h6=>k t l6 h6) fun j6=>sto 31 (g4 t) v5 l5 h5 j6 (gn Try.f30 30 13 7 c (p77 (p4 t (g4 t)) v5) t l5 h5 j6))
 .ret))))
def kp31:List Nat:=[0,1,2]
def rc31:RC:=(.seq (.reg fun c t l h k=>gn Try.f31 31 0 0 c (p0 t (g0 t)) t l h (fun v0 l0 h0=>al Pg 26 2 l0 fun v1 l1=>k (p2 (p1 t v0) v1) l1 h0))
 (.seq (.reg fun c t l h k=>bO (fa Pg 26 (g1 t) 0) fun v0=>bO (ld Pg 24 v0 l h) fun v1=>bO (fa Pg 26 (g1 t) 1) fun v2=>bO (ld Pg 4 v2 l h) fun v3=>bO (G.un .not v3) fun v4=>cl c 65 [v1,v4] t l h fun v5 l5 h5=>jn (fun v6 l6 h6=>k t l6 h6) fun j6=>sto 26 (g2 t) v5 l5 h5 j6 (gn Try.f31 31 1 6 c (p8 (p2 t (g2 t)) v5) t l5 h5 j6))
 .ret))
def kp32:List Nat:=[0,1,2]
def rc32:RC:=(.seq (.reg fun c t l h k=>gn Try.f32 32 0 0 c (p0 t (g0 t)) t l h (fun v0 l0 h0=>al Pg 31 2 l0 fun v1 l1=>k (p2 (p1 t v0) v1) l1 h0))
 (.seq (.reg fun c t l h k=>bO (fa Pg 31 (g1 t) 0) fun v0=>bO (ld Pg 4 v0 l h) fun v1=>bO (G.un .not v1) fun v2=>jn (fun v3 l3 h3=>jn (fun v4 l4 h4=>jn (fun v5 l5 h5=>jn (fun v6 l6 h6=>bO (pick v2 v6 (.bool false)) fun v7=>bO (fa Pg 31 (g1 t) 1) fun v8=>bO (ld Pg 29 v8 l6 h6) fun v9=>gn Try.f32 32 1 11 c (p13 (p11 t v7) v9) t l6 h6 (fun v10 l10 h10=>jn (fun v11 l11 h11=>k t l11 h11) fun j11=>sto 31 (g2 t) v10 l10 h10 j11 (gn Try.f32 32 1 12 c (p14 (p2 t (g2 t)) v10) t l10 h10 j11))) fun j6=>brB (wv v2 true) (j6 (.tuple []) l5 h5) (bO (bin Pg .gtr 3 true v5 (I 0)) fun v7=>j6 v7 l5 h5)) fun j5=>brB (wv v2 true) (j5 (.tuple []) l4 h4) (bO (len (Pg.underlying 29) v4) fun v6=>j5 v6 l4 h4)) fun j4=>brB (wv v2 true) (j4 (.tuple []) l3 h3) (bO (ld Pg 29 v3 l3 h3) fun v5=>j4 v5 l3 h3)) fun j3=>brB (wv v2 true) (j3 (.tuple []) l h) (bO (fa Pg 31 (g1 t) 1) fun v4=>j3 v4 l h))
 .ret))
def kp33:List Nat:=[0,1,2,3,4,5,16]
def rc33:RC:=(.seq (.reg fun c t l h k=>gn Try.f33 33 0 0 c (p0 t (g0 t)) t l h (fun v0 l0 h0=>gn Try.f33 33 0 1 c (p1 t (g1 t)) t l0 h0 (fun v1 l1 h1=>k (p4 (p3 (p2 t v0) v1) (I 0)) l1 h1)))
 (.seq (.block 0 (.seq (.reg fun c t l h k=>bO (fa Pg 26 (g2 t) 1) fun v0=>bO (ld Pg 4 v0 l h) fun v1=>bO (fa Pg 26 (g3 t) 1) fun v2=>bO (ld Pg 4 v2 l h) fun v3=>bO (bin Pg .neq 4 false v1 v3) fun v4=>k (p5 t v4) l h)
 (.cond (.tmp 5) (.seq (.reg fun c t l h k=>bO (fa Pg 26 (g2 t) 1) fun v0=>bO (ld Pg 4 v0 l h) fun v1=>cl c 77 [v1] t l h fun v2 l2 h2=>bO (bin Pg .mul 3 true (I 2) v2) fun v3=>bO (bin Pg .sub 3 true (I 1) v3) fun v4=>k (p4 t v4) l2 h2)
 .ret) (.seq (.reg fun c t l h k=>bO (fa Pg 26 (g2 t) 1) fun v0=>bO (ld Pg 4 v0 l h) fun v1=>k (p16 t v1) l h)
 (.cond (.tmp 16) (.seq (.reg fun c t l h k=>bO (fa Pg 26 (g3 t) 0) fun v0=>bO (ld Pg 24 v0 l h) fun v1=>bO (fa Pg 26 (g2 t) 0) fun v2=>bO (ld Pg 24 v2 l h) fun v3=>cl c 72 [v1,v3] t l h fun v4 l4 h4=>k (p4 t v4) l4 h4)
 .ret) .skip)))))
 (.seq (.reg fun c t l h k=>bO (fa Pg 26 (g2 t) 0) fun v0=>bO (ld Pg 24 v0 l h) fun v1=>bO (fa Pg 26 (g3 t) 0) fun v2=>bO (ld Pg 24 v2 l h) fun v3=>cl c 72 [v1,v3] t l h fun v4 l4 h4=>k (p4 t v4) l4 h4)
 .ret)))
def kp34:List Nat:=[0,1,2,3,4]
def rc34:RC:=(.seq (.reg fun c t l h k=>gn Try.f34 34 0 0 c (p0 t (g0 t)) t l h (fun v0 l0 h0=>gn Try.f34 34 0 1 c (p1 t (g1 t)) t l0 h0 (fun v1 l1 h1=>k (p4 (p3 (p2 t v0) v1) (I 0)) l1 h1)))
 (.seq (.reg fun c t l h k=>bO (ld Pg 31 (g2 t) l h) fun v0=>bO (ld Pg 31 (g3 t) l h) fun v1=>cl c 28 [v0,v1] t l h fun v2 l2 h2=>cl c 36 [v2] t l2 h2 fun v3 l3 h3=>k (p4 t v3) l3 h3)
 .ret))
def kp35:List Nat:=[0,1,2]
def rc35:RC:=(.seq (.reg fun c t l h k=>gn Try.f35 35 0 0 c (p0 t (g0 t)) t l h (fun v0 l0 h0=>k (p2 (p1 t v0) (I 0)) l0 h0))
 (.seq (.reg fun c t l h k=>bO (ld Pg 26 (g1 t) l h) fun v0=>gn Try.f35 35 1 1 c t t l h (fun v1 l1 h1=>cl c 33 [v0,v1] t l1 h1 fun v2 l2 h2=>k (p2 t v2) l2 h2))
 .ret))
def kp36:List Nat:=[0,1,2,3,8]
def rc36:RC:=(.seq (.reg fun c t l h k=>gn Try.f36 36 0 0 c (p0 t (g0 t)) t l h (fun v0 l0 h0=>k (p2 (p1 t v0) (I 0)) l0 h0))
 (.seq (.block 0 (.seq (.reg fun c t l h k=>bO (fa Pg 31 (g1 t) 1) fun v0=>bO (ld Pg 29 v0 l h) fun v1=>bO (len (Pg.underlying 29) v1) fun v2=>bO (bin Pg .eql 3 true v2 (I 0)) fun v3=>k (p3 t v3) l h)
 (.cond (.tmp 3) (.seq (.reg fun c t l h k=>k (p2 t (I 0)) l h)
 .ret) (.seq (.reg fun c t l h k=>bO (fa Pg 31 (g1 t) 0) fun v0=>bO (ld Pg 4 v0 l h) fun v1=>k (p8 t v1) l h)
 (.cond (.tmp 8) (.seq (.reg fun c t l h k=>k (p2 t (.int .i64 (.negSucc 0))) l h)
 .ret) .skip)))))
 (.seq (.reg fun c t l h k=>k (p2 t (I 1)) l h)
 .ret)))
def kp37:List Nat:=[0,1,2,3,4,5,6,7,8,9,10,14,26,51,59]
def rc37:RC:=(.seq (.reg fun c t l h k=>gn Try.f37 37 0 0 c (p0 t (g0 t)) t l h (fun v0 l0 h0=>gn Try.f37 37 0 1 c (p1 t (g1 t)) t l0 h0 (fun v1 l1 h1=>al Pg 26 4 l1 fun v2 l2=>al Pg 26 5 l2 fun v3 l3=>k (p5 (p4 (p3 (p2 t v0) v1) v2) v3) l3 h1)))
 (.seq (.seq (.reg fun c t l h k=>bO (fa Pg 26 (g3 t) 0) fun v0=>bO (ld Pg 24 v0 l h) fun v1=>bO (len (Pg.underlying 24) v1) fun v2=>bO (bin Pg .eql 3 true v2 (I 0)) fun v3=>k (p14 t v3) l h)
 (.cond (.tmp 14) (.seq (.reg fun c t l h k=>gD Try.f37 37 2 0 c t l h (fun v0 f0 l0 h0=>bO (ld Pg 26 (g2 t) l0 h0) fun v1=>jE ((16,v1)::(15,v0)::[]) fun e2=>jF ((ldF (g2 t))::f0::[]) fun q2=>gD Try.f37 37 2 2 c (p15 (p4 t (g4 t)) v0) l0 h0 (fun v2 f2 l2 h2=>jF (f2::q2) fun q3=>gD Try.f37 37 2 3 c (p16 (p5 t (g5 t)) v1) l2 h2 (fun v3 f3 l3 h3=>Qbw (rgA Try.f37 2).toList [(1,2)] [(1,2)] (f3::q3) (k t l3 h3)) (sD Try.f37 37 2 c 3 none e2 q3 t l2 h2)) (sD Try.f37 37 2 c 2 none e2 q2 t l0 h0)) (sD Try.f37 37 2 c 0 (some 15) [] [] t l h))
 .ret) .skip))
 (.seq (.reg fun c t l h k=>gn Try.f37 37 3 0 c t t l h (fun v0 l0 h0=>bO (fa Pg 26 (g2 t) 0) fun v1=>bO (ld Pg 24 v1 l0 h0) fun v2=>cl c 65 [v2,(.bool false)] t l0 h0 fun v3 l3 h3=>al Pg 26 6 l3 fun v4 l4=>al Pg 26 7 l4 fun v5 l5=>jn (fun v6 l6 h6=>jn (fun v7 l7 h7=>k (p7 (p6 t v4) v5) l7 h7) fun j7=>sto 26 v5 v3 l6 h6 j7 (gn Try.f37 37 3 7 c (p20 (p7 t v5) v3) t l6 h6 j7)) fun j6=>sto 26 v4 v0 l5 h3 j6 (gn Try.f37 37 3 6 c (p17 (p6 t v4) v0) t l5 h3 j6)))
 (.seq (.seq (.reg fun c t l h k=>bO (fa Pg 26 (g2 t) 0) fun v0=>bO (ld Pg 24 v0 l h) fun v1=>bO (fa Pg 26 (g3 t) 0) fun v2=>bO (ld Pg 24 v2 l h) fun v3=>cl c 72 [v1,v3] t l h fun v4 l4 h4=>bO (bin Pg .geq 3 true v4 (I 0)) fun v5=>k (p26 t v5) l4 h4)
 (.cond (.tmp 26) (.seq (.reg fun c t l h k=>bO (fa Pg 26 (g2 t) 0) fun v0=>bO (ld Pg 24 v0 l h) fun v1=>bO (fa Pg 26 (g3 t) 0) fun v2=>bO (ld Pg 24 v2 l h) fun v3=>cl c 78 [v1,v3] t l h fun v4 l4 h4=>bO (ext v4 0) fun v5=>bO (ext v4 1) fun v6=>k (p9 (p8 t v5) v6) l4 h4)
 (.reg fun c t l h k=>bO (fa Pg 26 (g2 t) 1) fun v0=>bO (ld Pg 4 v0 l h) fun v1=>bO (fa Pg 26 (g3 t) 1) fun v2=>bO (ld Pg 4 v2 l h) fun v3=>bO (bin Pg .neq 4 false v1 v3) fun v4=>cl c 65 [(g8 t),v4] t l h fun v5 l5 h5=>cl c 65 [(g9 t),(.bool false)] t l5 h5 fun v6 l6 h6=>jn (fun v7 l7 h7=>jn (fun v8 l8 h8=>k t l8 h8) fun j8=>sto 26 (g7 t) v6 l7 h7 j8 (gn Try.f37 37 6 10 c (p43 (p7 t (g7 t)) v6) t l7 h7 j8)) fun j7=>sto 26 (g6 t) v5 l6 h6 j7 (gn Try.f37 37 6 9 c (p41 (p6 t (g6 t)) v5) t l6 h6 j7))) .skip))
 (.seq (.seq (.reg fun c t l h k=>bO (fa Pg 26 (g2 t) 1) fun v0=>bO (ld Pg 4 v0 l h) fun v1=>jn (fun v2 l2 h2=>jn (fun v3 l3 h3=>jn (fun v4 l4 h4=>jn (fun v5 l5 h5=>bO (pick v1 v5 (.bool false)) fun v6=>k (p51 t v6) l5 h5) fun j5=>brB (wv v1 true) (j5 (.tuple []) l4 h4) (bO (bin Pg .gtr 3 true v4 (I 0)) fun v6=>j5 v6 l4 h4)) fun j4=>brB (wv v1 true) (j4 (.tuple []) l3 h3) (bO (len (Pg.underlying 24) v3) fun v5=>j4 v5 l3 h3)) fun j3=>brB (wv v1 true) (j3 (.tuple []) l2 h2) (bO (ld Pg 24 v2 l2 h2) fun v4=>j3 v4 l2 h2)) fun j2=>brB (wv v1 true) (j2 (.tuple []) l h) (bO (fa Pg 26 (g7 t) 0) fun v3=>j2 v3 l h))
 (.cond (.tmp 51) (.seq (.reg fun c t l h k=>bO (fa Pg 26 (g3 t) 0) fun v0=>bO (ld Pg 24 v0 l h) fun v1=>jE ((53,v1)::(52,v0)::[]) fun e2=>jF ((ldF v0)::ft0::[]) fun q2=>clD c 65 [v1,(.bool false)] l h (fun v2 f2 l2 h2=>bO (ld Pg 26 (g7 t) l2 h2) fun v3=>jE ((55,v3)::(54,v2)::e2) fun e4=>jF ((ldF (g7 t))::f2::q2) fun q4=>clD c 27 [v2,v3] l2 h2 (fun v4 f4 l4 h4=>jE ((56,v4)::e4) fun e5=>jF (f4::q4) fun q5=>gD Try.f37 37 8 5 c (p56 (p7 t (g7 t)) v4) l4 h4 (fun v5 f5 l5 h5=>Qbw (rgA Try.f37 8).toList [] [(2,3)] (f5::q5) (k t l5 h5)) (sD Try.f37 37 8 c 5 none e5 q5 t l4 h4)) (sD Try.f37 37 8 c 4 (some 56) e4 q4 t l2 h2)) (sD Try.f37 37 8 c 2 (some 54) e2 q2 t l h))
 (.seq (.reg fun c t l h k=>cl c 21 [(I 1)] t l h fun v0 l0 h0=>al Pg 26 10 l0 fun v1 l1=>jn (fun v2 l2 h2=>k (p10 t v1) l2 h2) fun j2=>sto 26 v1 v0 l1 h0 j2 (gn Try.f37 37 9 2 c (p57 (p10 t v1) v0) t l1 h0 j2))
 (.seq (.seq (.reg fun c t l h k=>bO (fa Pg 26 (g3 t) 1) fun v0=>bO (ld Pg 4 v0 l h) fun v1=>k (p59 t v1) l h)
 (.cond (.tmp 59) (.reg fun c t l h k=>cl c 21 [(.int .i64 (.negSucc 0))] t l h fun v0 l0 h0=>jn (fun v1 l1 h1=>k t l1 h1) fun j1=>sto 26 (g10 t) v0 l0 h0 j1 (gn Try.f37 37 11 1 c (p60 (p10 t (g10 t)) v0) t l0 h0 j1)) .skip))
 (.reg fun c t l h k=>bO (ld Pg 26 (g6 t) l h) fun v0=>bO (ld Pg 26 (g10 t) l h) fun v1=>cl c 27 [v0,v1] t l h fun v2 l2 h2=>jn (fun v3 l3 h3=>k t l3 h3) fun j3=>sto 26 (g6 t) v2 l2 h2 j3 (gn Try.f37 37 12 3 c (p63 (p6 t (g6 t)) v2) t l2 h2 j3))))) .skip))
 (.seq (.reg fun c t l h k=>bO (ld Pg 26 (g6 t) l h) fun v0=>bO (ld Pg 26 (g7 t) l h) fun v1=>jE ((65,v1)::(64,v0)::[]) fun e2=>jF ((ldF (g7 t))::(ldF (g6 t))::[]) fun q2=>gD Try.f37 37 13 2 c (p64 (p4 t (g4 t)) v0) l h (fun v2 f2 l2 h2=>jF (f2::q2) fun q3=>gD Try.f37 37 13 3 c (p65 (p5 t (g5 t)) v1) l2 h2 (fun v3 f3 l3 h3=>Qbw (rgA Try.f37 13).toList [(1,2)] [(1,2)] (f3::q3) (k t l3 h3)) (sD Try.f37 37 13 c 3 none e2 q3 t l2 h2)) (sD Try.f37 37 13 c 2 none e2 q2 t l h))
 .ret))))))
def kp38:List Nat:=[0,1,2,3,4,5,6,7,8,9,13,36,43]
def rc38:RC:=(.seq (.reg fun c t l h k=>gn Try.f38 38 0 0 c (p0 t (g0 t)) t l h (fun v0 l0 h0=>gn Try.f38 38 0 1 c (p1 t (g1 t)) t l0 h0 (fun v1 l1 h1=>al Pg 31 4 l1 fun v2 l2=>al Pg 31 5 l2 fun v3 l3=>k (p5 (p4 (p3 (p2 t v0) v1) v2) v3) l3 h1)))
 (.seq (.seq (.reg fun c t l h k=>bO (fa Pg 31 (g3 t) 1) fun v0=>bO (ld Pg 29 v0 l h) fun v1=>bO (len (Pg.underlying 29) v1) fun v2=>bO (bin Pg .eql 3 true v2 (I 0)) fun v3=>k (p13 t v3) l h)
 (.cond (.tmp 13) (.seq (.reg fun c t l h k=>gD Try.f38 38 2 0 c t l h (fun v0 f0 l0 h0=>bO (ld Pg 31 (g2 t) l0 h0) fun v1=>jE ((15,v1)::(14,v0)::[]) fun e2=>jF ((ldF (g2 t))::f0::[]) fun q2=>gD Try.f38 38 2 2 c (p14 (p4 t (g4 t)) v0) l0 h0 (fun v2 f2 l2 h2=>jF (f2::q2) fun q3=>gD Try.f38 38 2 3 c (p15 (p5 t (g5 t)) v1) l2 h2 (fun v3 f3 l3 h3=>Qbw (rgA Try.f38 2).toList [(1,2)] [(1,2)] (f3::q3) (k t l3 h3)) (sD Try.f38 38 2 c 3 none e2 q3 t l2 h2)) (sD Try.f38 38 2 c 2 none e2 q2 t l0 h0)) (sD Try.f38 38 2 c 0 (some 14) [] [] t l h))
 .ret) .skip))
 (.seq (.reg fun c t l h k=>bO (fa Pg 31 (g2 t) 1) fun v0=>bO (ld Pg 29 v0 l h) fun v1=>bO (fa Pg 31 (g3 t) 1) fun v2=>bO (ld Pg 29 v2 l h) fun v3=>cl c 79 [v1,v3] t l h fun v4 l4 h4=>bO (ext v4 0) fun v5=>bO (ext v4 1) fun v6=>k (p7 (p6 t v5) v6) l4 h4)
 (.seq (.reg fun c t l h k=>bO (fa Pg 31 (g2 t) 0) fun v0=>bO (ld Pg 4 v0 l h) fun v1=>bO (fa Pg 31 (g3 t) 0) fun v2=>bO (ld Pg 4 v2 l h) fun v3=>bO (bin Pg .neq 4 false v1 v3) fun v4=>jE ((29,(g6 t))::(28,v4)::(27,v3)::(26,v2)::(25,v1)::(24,v0)::[]) fun e5=>jF (ft0::ft0::(ldF v2)::ft0::(ldF v0)::ft0::[]) fun q5=>clD c 67 [v4,(g6 t)] l h (fun v5 f5 l5 h5=>bO (fa Pg 31 (g2 t) 0) fun v6=>bO (ld Pg 4 v6 l5 h5) fun v7=>jE ((33,(g7 t))::(32,v7)::(31,v6)::(30,v5)::e5) fun e8=>jF (ft0::(ldF v6)::ft0::f5::q5) fun q8=>clD c 67 [v7,(g7 t)] l5 h5 (fun v8 f8 l8 h8=>jE ((34,v8)::e8) fun e9=>jF (f8::q8) fun q9=>gD Try.f38 38 4 11 c t l8 h8 (fun v9 f9 l9 h9=>jE ((8,v9)::e9) fun e10=>jF (f9::q9) fun q10=>gD Try.f38 38 4 12 c t l9 h9 (fun v10 f10 l10 h10=>jE ((9,v10)::e10) fun e11=>jF (f10::q10) fun q11=>gD Try.f38 38 4 13 c (p30 (p8 t v9) v5) l10 h10 (fun v11 f11 l11 h11=>jF (f11::q11) fun q12=>gD Try.f38 38 4 14 c (p34 (p9 t v10) v8) l11 h11 (fun v12 f12 l12 h12=>Qbw (rgA Try.f38 4).toList [(1,11),(3,11),(8,11),(1,12),(3,12),(8,12),(11,12)] [(6,8),(1,11),(3,11),(6,11),(8,11),(10,11),(1,12),(3,12),(6,12),(8,12),(10,12),(11,12)] (f12::q12) (k (p9 (p8 t v9) v10) l12 h12)) (sD Try.f38 38 4 c 14 none e11 q12 t l11 h11)) (sD Try.f38 38 4 c 13 none e11 q11 t l10 h10)) (sD Try.f38 38 4 c 12 (some 9) e10 q10 t l9 h9)) (sD Try.f38 38 4 c 11 (some 8) e9 q9 t l8 h8)) (sD Try.f38 38 4 c 10 (some 34) e8 q8 t l5 h5)) (sD Try.f38 38 4 c 6 (some 30) e5 q5 t l h))
 (.seq (.seq (.reg fun c t l h k=>bO (fa Pg 31 (g9 t) 0) fun v0=>bO (ld Pg 4 v0 l h) fun v1=>k (p36 t v1) l h)
 (.cond (.tmp 36) (.seq (.reg fun c t l h k=>bO (ld Pg 31 (g9 t) l h) fun v0=>bO (fa Pg 31 (g3 t) 1) fun v1=>bO (ld Pg 29 v1 l h) fun v2=>gn Try.f38 38 6 3 c (p39 t v2) t l h (fun v3 l3 h3=>cl c 26 [v0,v3] t l3 h3 fun v4 l4 h4=>jn (fun v5 l5 h5=>k t l5 h5) fun j5=>sto 31 (g9 t) v4 l4 h4 j5 (gn Try.f38 38 6 5 c (p41 (p9 t (g9 t)) v4) t l4 h4 j5)))
 (.seq (.reg fun c t l h k=>bO (fa Pg 31 (g3 t) 0) fun v0=>bO (ld Pg 4 v0 l h) fun v1=>k (p43 t v1) l h)
 (.cond (.tmp 43) (.reg fun c t l h k=>bO (ld Pg 31 (g8 t) l h) fun v0=>jE ((44,v0)::[]) fun e1=>jF ((ldF (g8 t))::[]) fun q1=>clD c 22 [(I 1)] l h (fun v1 f1 l1 h1=>jE ((45,v1)::e1) fun e2=>jF (f1::q1) fun q2=>clD c 26 [v0,v1] l1 h1 (fun v2 f2 l2 h2=>jE ((46,v2)::e2) fun e3=>jF (f2::q2) fun q3=>gD Try.f38 38 8 3 c (p46 (p8 t (g8 t)) v2) l2 h2 (fun v3 f3 l3 h3=>Qbw (rgA Try.f38 8).toList [] [(0,1)] (f3::q3) (k t l3 h3)) (sD Try.f38 38 8 c 3 none e3 q3 t l2 h2)) (sD Try.f38 38 8 c 2 (some 46) e2 q2 t l1 h1)) (sD Try.f38 38 8 c 1 (some 45) e1 q1 t l h)) (.reg fun c t l h k=>bO (ld Pg 31 (g8 t) l h) fun v0=>jE ((47,v0)::[]) fun e1=>jF ((ldF (g8 t))::[]) fun q1=>clD c 22 [(I 1)] l h (fun v1 f1 l1 h1=>jE ((48,v1)::e1) fun e2=>jF (f1::q1) fun q2=>clD c 28 [v0,v1] l1 h1 (fun v2 f2 l2 h2=>jE ((49,v2)::e2) fun e3=>jF (f2::q2) fun q3=>gD Try.f38 38 9 3 c (p49 (p8 t (g8 t)) v2) l2 h2 (fun v3 f3 l3 h3=>Qbw (rgA Try.f38 9).toList [] [(0,1)] (f3::q3) (k t l3 h3)) (sD Try.f38 38 9 c 3 none e3 q3 t l2 h2)) (sD Try.f38 38 9 c 2 (some 49) e2 q2 t l1 h1)) (sD Try.f38 38 9 c 1 (some 48) e1 q1 t l h))))) .skip))
 (.seq (.reg fun c t l h k=>bO (ld Pg 31 (g8 t) l h) fun v0=>bO (ld Pg 31 (g9 t) l h) fun v1=>jE ((51,v1)::(50,v0)::[]) fun e2=>jF ((ldF (g9 t))::(ldF (g8 t))::[]) fun q2=>gD Try.f38 38 10 2 c (p50 (p4 t (g4 t)) v0) l h (fun v2 f2 l2 h2=>jF (f2::q2) fun q3=>gD Try.f38 38 10 3 c (p51 (p5 t (g5 t)) v1) l2 h2 (fun v3 f3 l3 h3=>Qbw (rgA Try.f38 10).toList [(1,2)] [(1,2)] (f3::q3) (k t l3 h3)) (sD Try.f38 38 10 c 3 none e2 q3 t l2 h2)) (sD Try.f38 38 10 c 2 none e2 q2 t l h))
 .ret))))))
def kp39:List Nat:=[0,1,2,3,4,6,16]
def rc39:RC:=(.seq (.reg fun c t l h k=>gn Try.f39 39 0 0 c (p0 t (g0 t)) t l h (fun v0 l0 h0=>gn Try.f39 39 0 1 c (p1 t (g1 t)) t l0 h0 (fun v1 l1 h1=>al Pg 26 4 l1 fun v2 l2=>k (p4 (p3 (p2 t v0) v1) v2) l2 h1)))
 (.seq (.reg fun c t l h k=>bO (fa Pg 26 (g2 t) 0) fun v0=>bO (ld Pg 24 v0 l h) fun v1=>jE ((8,v1)::(7,v0)::[]) fun e2=>jF ((ldF v0)::ft0::[]) fun q2=>clD c 65 [v1,(.bool false)] l h (fun v2 f2 l2 h2=>bO (fa Pg 26 (g3 t) 0) fun v3=>bO (ld Pg 24 v3 l2 h2) fun v4=>jE ((11,v4)::(10,v3)::(9,v2)::e2) fun e5=>jF ((ldF v3)::ft0::f2::q2) fun q5=>clD c 65 [v4,(.bool false)] l2 h2 (fun v5 f5 l5 h5=>jE ((12,v5)::e5) fun e6=>jF (f5::q5) fun q6=>gD Try.f39 39 1 6 c (p9 (p2 t (g2 t)) v2) l5 h5 (fun v6 f6 l6 h6=>jF (f6::q6) fun q7=>gD Try.f39 39 1 7 c (p12 (p3 t (g3 t)) v5) l6 h6 (fun v7 f7 l7 h7=>Qbw (rgA Try.f39 1).toList [] [(2,4)] (f7::q7) (k t l7 h7)) (sD Try.f39 39 1 c 7 none e6 q7 t l6 h6)) (sD Try.f39 39 1 c 6 none e6 q6 t l5 h5)) (sD Try.f39 39 1 c 5 (some 12) e5 q5 t l2 h2)) (sD Try.f39 39 1 c 2 (some 9) e2 q2 t l h))
 (.seq (.block 0 (.loop (.seq (.seq (.reg fun c t l h k=>bO (fa Pg 26 (g3 t) 0) fun v0=>bO (ld Pg 24 v0 l h) fun v1=>bO (len (Pg.underlying 24) v1) fun v2=>bO (bin Pg .gtr 3 true v2 (I 0)) fun v3=>k (p16 t v3) l h)
 (.cond (.tmp 16) .skip (.exit 0)))
 (.block 1 (.seq (.reg fun c t l h k=>bO (ld Pg 26 (g2 t) l h) fun v0=>bO (ld Pg 26 (g3 t) l h) fun v1=>cl c 37 [v0,v1] t l h fun v2 l2 h2=>bO (ext v2 0) fun v3=>bO (ext v2 1) fun v4=>al Pg 26 5 l2 fun v5 l5=>al Pg 26 6 l5 fun v6 l6=>jn (fun v7 l7 h7=>jn (fun v8 l8 h8=>k (p6 t v6) l8 h8) fun j8=>sto 26 v6 v4 l7 h7 j8 (gn Try.f39 39 3 9 c (p22 (p6 t v6) v4) t l7 h7 j8)) fun j7=>sto 26 v5 v3 l6 h2 j7 (gn Try.f39 39 3 8 c (p21 (p5 t v5) v3) t l6 h2 j7))
 (.reg fun c t l h k=>bO (ld Pg 26 (g3 t) l h) fun v0=>bO (ld Pg 26 (g6 t) l h) fun v1=>jE ((24,v1)::(23,v0)::[]) fun e2=>jF ((ldF (g6 t))::(ldF (g3 t))::[]) fun q2=>gD Try.f39 39 4 2 c (p23 (p2 t (g2 t)) v0) l h (fun v2 f2 l2 h2=>jF (f2::q2) fun q3=>gD Try.f39 39 4 3 c (p24 (p3 t (g3 t)) v1) l2 h2 (fun v3 f3 l3 h3=>Qbw (rgA Try.f39 4).toList [(1,2)] [(1,2)] (f3::q3) (k t l3 h3)) (sD Try.f39 39 4 c 3 none e2 q3 t l2 h2)) (sD Try.f39 39 4 c 2 none e2 q2 t l h)))))))
 (.seq (.reg fun c t l h k=>bO (ld Pg 26 (g2 t) l h) fun v0=>jn (fun v1 l1 h1=>k t l1 h1) fun j1=>sto 26 (g4 t) v0 l h j1 (gn Try.f39 39 5 1 c (p25 (p4 t (g4 t)) v0) t l h j1))
 .ret))))
def kp40:List Nat:=[0,1,2,3,4,5,6,8,18]
def rc40:RC:=(.seq (.reg fun c t l h k=>gn Try.f40 40 0 0 c (p0 t (g0 t)) t l h (fun v0 l0 h0=>gn Try.f40 40 0 1 c (p1 t (g1 t)) t l0 h0 (fun v1 l1 h1=>al Pg 31 4 l1 fun v2 l2=>k (p4 (p3 (p2 t v0) v1) v2) l2 h1)))
 (.seq (.reg fun c t l h k=>bO (fa Pg 31 (g2 t) 1) fun v0=>bO (ld Pg 29 v0 l h) fun v1=>jE ((10,v1)::(9,v0)::[]) fun e2=>jF ((ldF v0)::ft0::[]) fun q2=>gD Try.f40 40 1 2 c (p10 t v1) l h (fun v2 f2 l2 h2=>bO (fa Pg 31 (g3 t) 1) fun v3=>bO (ld Pg 29 v3 l2 h2) fun v4=>jE ((13,v4)::(12,v3)::(11,v2)::e2) fun e5=>jF ((ldF v3)::ft0::f2::q2) fun q5=>gD Try.f40 40 1 5 c (p13 t v4) l2 h2 (fun v5 f5 l5 h5=>jE ((14,v5)::e5) fun e6=>jF (f5::q5) fun q6=>gD Try.f40 40 1 6 c t l5 h5 (fun v6 f6 l6 h6=>jE ((5,v6)::e6) fun e7=>jF (f6::q6) fun q7=>gD Try.f40 40 1 7 c t l6 h6 (fun v7 f7 l7 h7=>jE ((6,v7)::e7) fun e8=>jF (f7::q7) fun q8=>gD Try.f40 40 1 8 c (p11 (p5 t v6) v2) l7 h7 (fun v8 f8 l8 h8=>jF (f8::q8) fun q9=>gD Try.f40 40 1 9 c (p14 (p6 t v7) v5) l8 h8 (fun v9 f9 l9 h9=>Qbw (rgA Try.f40 1).toList [(1,6),(4,6),(1,7),(4,7),(6,7),(4,8)] [(1,6),(4,6),(1,7),(4,7),(6,7),(4,8)] (f9::q9) (k (p6 (p5 t v6) v7) l9 h9)) (sD Try.f40 40 1 c 9 none e8 q9 t l8 h8)) (sD Try.f40 40 1 c 8 none e8 q8 t l7 h7)) (sD Try.f40 40 1 c 7 (some 6) e7 q7 t l6 h6)) (sD Try.f40 40 1 c 6 (some 5) e6 q6 t l5 h5)) (sD Try.f40 40 1 c 5 (some 14) e5 q5 t l2 h2)) (sD Try.f40 40 1 c 2 (some 11) e2 q2 t l h))
 (.seq (.block 0 (.loop (.seq (.seq (.reg fun c t l h k=>bO (fa Pg 31 (g6 t) 1) fun v0=>bO (ld Pg 29 v0 l h) fun v1=>bO (len (Pg.underlying 29) v1) fun v2=>bO (bin Pg .gtr 3 true v2 (I 0)) fun v3=>k (p18 t v3) l h)
 (.cond (.tmp 18) .skip (.exit 0)))
 (.block 1 (.seq (.reg fun c t l h k=>bO (ld Pg 31 (g5 t) l h) fun v0=>bO (ld Pg 31 (g6 t) l h) fun v1=>cl c 38 [v0,v1] t l h fun v2 l2 h2=>bO (ext v2 0) fun v3=>bO (ext v2 1) fun v4=>al Pg 31 7 l2 fun v5 l5=>al Pg 31 8 l5 fun v6 l6=>jn (fun v7 l7 h7=>jn (fun v8 l8 h8=>k (p8 t v6) l8 h8) fun j8=>sto 31 v6 v4 l7 h7 j8 (gn Try.f40 40 3 9 c (p24 (p8 t v6) v4) t l7 h7 j8)) fun j7=>sto 31 v5 v3 l6 h2 j7 (gn Try.f40 40 3 8 c (p23 (p7 t v5) v3) t l6 h2 j7))
 (.reg fun c t l h k=>bO (ld Pg 31 (g6 t) l h) fun v0=>bO (ld Pg 31 (g8 t) l h) fun v1=>jE ((26,v1)::(25,v0)::[]) fun e2=>jF ((ldF (g8 t))::(ldF (g6 t))::[]) fun q2=>gD Try.f40 40 4 2 c (p25 (p5 t (g5 t)) v0) l h (fun v2 f2 l2 h2=>jF (f2::q2) fun q3=>gD Try.f40 40 4 3 c (p26 (p6 t (g6 t)) v1) l2 h2 (fun v3 f3 l3 h3=>Qbw (rgA Try.f40 4).toList [(1,2)] [(1,2)] (f3::q3) (k t l3 h3)) (sD Try.f40 40 4 c 3 none e2 q3 t l2 h2)) (sD Try.f40 40 4 c 2 none e2 q2 t l h)))))))
 (.seq (.reg fun c t l h k=>bO (ld Pg 31 (g5 t) l h) fun v0=>jn (fun v1 l1 h1=>k t l1 h1) fun j1=>sto 31 (g4 t) v0 l h j1 (gn Try.f40 40 5 1 c (p27 (p4 t (g4 t)) v0) t l h j1))
 .ret))))
def kp41:List Nat:=[0,1,2,4,5]
def rc41:RC:=(.seq (.reg fun c t l h k=>k (p0 t (.bool false)) l h)
 (.seq (.reg fun c t l h k=>cl c 21 [(I 6)] t l h fun v0 l0 h0=>cl c 21 [(.int .i64 (.negSucc 3))] t l0 h0 fun v1 l1 h1=>cl c 44 [v0,v1] t l1 h1 fun v2 l2 h2=>bO (ext v2 0) fun v3=>bO (ext v2 1) fun v4=>al Pg 59 1 l2 fun v5 l5=>jn (fun v6 l6 h6=>k (p2 (p1 t v5) v4) l6 h6) fun j6=>sto 59 v5 v3 l5 h2 j6 (gn Try.f41 41 1 7 c (p10 (p1 t v5) v3) t l5 h2 j6))
 (.seq (.reg fun c t l h k=>cl c 21 [(I 6)] t l h fun v0 l0 h0=>cl c 21 [(I 0)] t l0 h0 fun v1 l1 h1=>cl c 44 [v0,v1] t l1 h1 fun v2 l2 h2=>bO (ext v2 0) fun v3=>bO (ext v2 1) fun v4=>al Pg 59 3 l2 fun v5 l5=>jn (fun v6 l6 h6=>k (p4 t v4) l6 h6) fun j6=>sto 59 v5 v3 l5 h2 j6 (gn Try.f41 41 2 7 c (p16 (p3 t v5) v3) t l5 h2 j6))
 (.seq (.reg fun c t l h k=>al Pg 59 5 l fun v0 l0=>k (p5 t v0) l0 h)
 (.seq (.reg fun c t l h k=>jn (fun v0 l0 h0=>jn (fun v1 l1 h1=>bO (pick (g2 t) v1 (.bool false)) fun v2=>jn (fun v3 l3 h3=>jn (fun v4 l4 h4=>jn (fun v5 l5 h5=>bO (pick v2 v5 (.bool false)) fun v6=>jn (fun v7 l7 h7=>jn (fun v8 l8 h8=>jn (fun v9 l9 h9=>jn (fun v10 l10 h10=>bO (pick v6 v10 (.bool false)) fun v11=>jn (fun v12 l12 h12=>jn (fun v13 l13 h13=>jn (fun v14 l14 h14=>bO (pick v11 v14 (.bool false)) fun v15=>jn (fun v16 l16 h16=>jn (fun v17 l17 h17=>jn (fun v18 l18 h18=>bO (pick v15 v18 (.bool false)) fun v19=>k (p0 t v19) l18 h18) fun j18=>brB (wv v15 true) (j18 (.tuple []) l17 h17) (cl c 63 [v17] t l17 h17 fun v19 l19 h19=>j18 v19 l19 h19)) fun j17=>brB (wv v15 true) (j17 (.tuple []) l16 h16) (cl c 50 [v16] t l16 h16 fun v18 l18 h18=>j17 v18 l18 h18)) fun j16=>brB (wv v15 true) (j16 (.tuple []) l14 h14) (cl c 21 [(I 5)] t l14 h14 fun v17 l17 h17=>j16 v17 l17 h17)) fun j14=>brB (wv v11 true) (j14 (.tuple []) l13 h13) (bO (bin Pg .eql 9 true v13 (.str ⟨1,48⟩)) fun v15=>j14 v15 l13 h13)) fun j13=>brB (wv v11 true) (j13 (.tuple []) l12 h12) (cl c 46 [v12] t l12 h12 fun v14 l14 h14=>j13 v14 l14 h14)) fun j12=>brB (wv v11 true) (j12 (.tuple []) l10 h10) (bO (ld Pg 59 (g5 t) l10 h10) fun v13=>j12 v13 l10 h10)) fun j10=>brB (wv v6 true) (j10 (.tuple []) l9 h9) (bO (bin Pg .eql 9 true v9 (.str ⟨2,12845⟩)) fun v11=>j10 v11 l9 h9)) fun j9=>brB (wv v6 true) (j9 (.tuple []) l8 h8) (cl c 18 [v8] t l8 h8 fun v10 l10 h10=>j9 v10 l10 h10)) fun j8=>brB (wv v6 true) (j8 (.tuple []) l7 h7) (cl c 52 [v7] t l7 h7 fun v9 l9 h9=>j8 v9 l9 h9)) fun j7=>brB (wv v6 true) (j7 (.tuple []) l5 h5) (bO (ld Pg 59 (g1 t) l5 h5) fun v8=>j7 v8 l5 h5)) fun j5=>brB (wv v2 true) (j5 (.tuple []) l4 h4) (bO (bin Pg .eql 9 true v4 (.str ⟨4,841954093⟩)) fun v6=>j5 v6 l4 h4)) fun j4=>brB (wv v2 true) (j4 (.tuple []) l3 h3) (cl c 46 [v3] t l3 h3 fun v5 l5 h5=>j4 v5 l5 h5)) fun j3=>brB (wv v2 true) (j3 (.tuple []) l1 h1) (bO (ld Pg 59 (g1 t) l1 h1) fun v4=>j3 v4 l1 h1)) fun j1=>brB (wv (g2 t) true) (j1 (.tuple []) l0 h0) (bO (G.un .not v0) fun v2=>j1 v2 l0 h0)) fun j0=>brB (wv (g2 t) true) (j0 (.tuple []) l h) (j0 (g4 t) l h))
 .ret)))))
def kp42:List Nat:=[0,2,3,7,15]
def rc42:RC:=(.seq (.reg fun c t l h k=>k (p2 t (.bool false)) l h)
 (.seq (.seq (.reg fun c t l h k=>k (p3 t (I 0)) l h)
 (.block 0 (.loop (.seq (.seq (.reg fun c t l h k=>bO (len (Pg.underlying 79) (g0 t)) fun v0=>bO (bin Pg .lss 3 false (g3 t) v0) fun v1=>k (p7 t v1) l h)
 (.cond (.tmp 7) .skip (.exit 0)))
 (.seq (.block 1 (.seq (.reg fun c t l h k=>bO (ia Pg 79 (g0 t) (g3 t)) fun v0=>bO (ld Pg 9 v0 l h) fun v1=>bO (len (Pg.underlying 9) v1) fun v2=>bO (bin Pg .gtr 3 true v2 (I 120)) fun v3=>k (p15 t v3) l h)
 (.cond (.tmp 15) (.seq (.reg fun c t l h k=>k (p2 t (.bool false)) l h)
 .ret) .skip)))
 (.reg fun c t l h k=>bO (bin Pg .add 3 true (g3 t) (I 1)) fun v0=>k (p3 t v0) l h))))))
 (.seq (.reg fun c t l h k=>k (p2 t (.bool true)) l h)
 .ret)))
def kp43:List Nat:=[0,2,3,4]
def rc43:RC:=(.seq (.reg fun c t l h k=>al Pg 26 2 l fun v0 l0=>al Pg 31 3 l0 fun v1 l1=>k (p3 (p2 t v0) v1) l1 h)
 (.seq (.reg fun c t l h k=>cl c 15 [(g0 t)] t l h fun v0 l0 h0=>bO (ext v0 0) fun v1=>bO (ext v0 1) fun v2=>al Pg 26 4 l0 fun v3 l3=>jn (fun v4 l4 h4=>k (p4 t v3) l4 h4) fun j4=>sto 26 v3 v1 l3 h0 j4 (gn Try.f43 43 1 6 c (p9 (p4 t v3) v1) t l3 h0 j4))
 (.seq (.reg fun c t l h k=>bO (ld Pg 26 (g4 t) l h) fun v0=>jE ((12,(g0 t))::(11,v0)::[]) fun e1=>jF (ft0::(ldF (g4 t))::[]) fun q1=>clD c 70 [(g0 t)] l h (fun v1 f1 l1 h1=>jE ((13,v1)::e1) fun e2=>jF (f1::q1) fun q2=>gD Try.f43 43 2 3 c (p11 (p2 t (g2 t)) v0) l1 h1 (fun v2 f2 l2 h2=>jF (f2::q2) fun q3=>gD Try.f43 43 2 4 c (p13 (p3 t (g3 t)) v1) l2 h2 (fun v3 f3 l3 h3=>Qbw (rgA Try.f43 2).toList [] [(0,2)] (f3::q3) (k t l3 h3)) (sD Try.f43 43 2 c 4 none e2 q3 t l2 h2)) (sD Try.f43 43 2 c 3 none e2 q2 t l1 h1)) (sD Try.f43 43 2 c 2 (some 13) e1 q1 t l h))
 .ret)))
def kp44:List Nat:=[0,1,2,3,4,5,6,9,13]
def rc44:RC:=(.seq (.reg fun c t l h k=>gn Try.f44 44 0 0 c (p0 t (g0 t)) t l h (fun v0 l0 h0=>gn Try.f44 44 0 1 c (p1 t (g1 t)) t l0 h0 (fun v1 l1 h1=>al Pg 59 4 l1 fun v2 l2=>k (p5 (p4 (p3 (p2 t v0) v1) v2) (.bool false)) l2 h1)))
 (.seq (.seq (.reg fun c t l h k=>bO (ld Pg 26 (g3 t) l h) fun v0=>cl c 35 [v0] t l h fun v1 l1 h1=>bO (bin Pg .eql 3 true v1 (I 0)) fun v2=>k (p9 t v2) l1 h1)
 (.cond (.tmp 9) (.seq (.reg fun c t l h k=>gn Try.f44 44 2 0 c t t l h (fun v0 l0 h0=>jn (fun v1 l1 h1=>k (p5 t (.bool false)) l1 h1) fun j1=>sto 59 (g4 t) v0 l0 h0 j1 (gn Try.f44 44 2 1 c (p10 (p4 t (g4 t)) v0) t l0 h0 j1)))
 .ret) .skip))
 (.seq (.seq (.reg fun c t l h k=>bO (ld Pg 26 (g3 t) l h) fun v0=>cl c 35 [v0] t l h fun v1 l1 h1=>bO (bin Pg .lss 3 true v1 (I 0)) fun v2=>k (p13 t v2) l1 h1)
 (.cond (.tmp 13) (.reg fun c t l h k=>bO (ld Pg 26 (g2 t) l h) fun v0=>jE ((14,v0)::[]) fun e1=>jF ((ldF (g2 t))::[]) fun q1=>clD c 31 [v0] l h (fun v1 f1 l1 h1=>bO (ld Pg 26 (g3 t) l1 h1) fun v2=>jE ((16,v2)::(15,v1)::e1) fun e3=>jF ((ldF (g3 t))::f1::q1) fun q3=>clD c 31 [v2] l1 h1 (fun v3 f3 l3 h3=>jE ((17,v3)::e3) fun e4=>jF (f3::q3) fun q4=>gD Try.f44 44 4 4 c (p15 (p2 t (g2 t)) v1) l3 h3 (fun v4 f4 l4 h4=>jF (f4::q4) fun q5=>gD Try.f44 44 4 5 c (p17 (p3 t (g3 t)) v3) l4 h4 (fun v5 f5 l5 h5=>Qbw (rgA Try.f44 4).toList [] [(1,2)] (f5::q5) (k t l5 h5)) (sD Try.f44 44 4 c 5 none e4 q5 t l4 h4)) (sD Try.f44 44 4 c 4 none e4 q4 t l3 h3)) (sD Try.f44 44 4 c 3 (some 17) e3 q3 t l1 h1)) (sD Try.f44 44 4 c 1 (some 15) e1 q1 t l h)) .skip))
 (.seq (.reg fun c t l h k=>bO (ld Pg 26 (g2 t) l h) fun v0=>bO (ld Pg 26 (g3 t) l h) fun v1=>cl c 39 [v0,v1] t l h fun v2 l2 h2=>al Pg 26 6 l2 fun v3 l3=>jn (fun v4 l4 h4=>k (p6 t v3) l4 h4) fun j4=>sto 26 v3 v2 l3 h2 j4 (gn Try.f44 44 5 4 c (p20 (p6 t v3) v2) t l3 h2 j4))
 (.seq (.reg fun c t l h k=>bO (ld Pg 26 (g2 t) l h) fun v0=>bO (ld Pg 26 (g6 t) l h) fun v1=>cl c 37 [v0,v1] t l h fun v2 l2 h2=>bO (ext v2 0) fun v3=>bO (ext v2 1) fun v4=>jn (fun v5 l5 h5=>k t l5 h5) fun j5=>sto 26 (g2 t) v3 l2 h2 j5 (gn Try.f44 44 6 6 c (p25 (p2 t (g2 t)) v3) t l2 h2 j5))
 (.seq (.reg fun c t l h k=>bO (ld Pg 26 (g3 t) l h) fun v0=>bO (ld Pg 26 (g6 t) l h) fun v1=>cl c 37 [v0,v1] t l h fun v2 l2 h2=>bO (ext v2 0) fun v3=>bO (ext v2 1) fun v4=>jn (fun v5 l5 h5=>k t l5 h5) fun j5=>sto 26 (g3 t) v3 l2 h2 j5 (gn Try.f44 44 7 6 c (p31 (p3 t (g3 t)) v3) t l2 h2 j5))
 (.seq (.reg fun c t l h k=>bO (ld Pg 26 (g2 t) l h) fun v0=>bO (ld Pg 26 (g3 t) l h) fun v1=>jE ((34,v1)::(33,v0)::[]) fun e2=>jF ((ldF (g3 t))::(ldF (g2 t))::[]) fun q2=>clD c 21 [(I 1)] l h (fun v2 f2 l2 h2=>jE ((35,v2)::e2) fun e3=>jF (f2::q2) fun q3=>clD c 27 [v1,v2] l2 h2 (fun v3 f3 l3 h3=>jE ((36,v3)::e3) fun e4=>jF (f3::q3) fun q4=>gD Try.f44 44 8 4 c (p36 (p33 t v0) v3) l3 h3 (fun v4 f4 l4 h4=>jE ((37,v4)::e4) fun e5=>jF (f4::q4) fun q5=>gD Try.f44 44 8 5 c (p37 (p4 t (g4 t)) v4) l4 h4 (fun v5 f5 l5 h5=>Qbw (rgA Try.f44 8).toList [] [(0,2),(1,2),(0,3)] (ft0::f5::q5) (k (p5 t (.bool true)) l5 h5)) (sD Try.f44 44 8 c 5 none e5 q5 t l4 h4)) (sD Try.f44 44 8 c 4 (some 37) e4 q4 t l3 h3)) (sD Try.f44 44 8 c 3 (some 36) e3 q3 t l2 h2)) (sD Try.f44 44 8 c 2 (some 35) e2 q2 t l h))
 .ret)))))))
def kp45:List Nat:=[0,1,2,3,4,5,6,7,9,13,18]
def rc45:RC:=(.seq (.reg fun c t l h k=>gn Try.f45 45 0 0 c (p0 t (g0 t)) t l h (fun v0 l0 h0=>gn Try.f45 45 0 1 c (p1 t (g1 t)) t l0 h0 (fun v1 l1 h1=>al Pg 63 4 l1 fun v2 l2=>k (p5 (p4 (p3 (p2 t v0) v1) v2) (.bool false)) l2 h1)))
 (.seq (.seq (.reg fun c t l h k=>bO (ld Pg 31 (g3 t) l h) fun v0=>cl c 36 [v0] t l h fun v1 l1 h1=>bO (bin Pg .eql 3 true v1 (I 0)) fun v2=>k (p13 t v2) l1 h1)
 (.cond (.tmp 13) (.seq (.reg fun c t l h k=>cl c 22 [(I 1)] t l h fun v0 l0 h0=>gn Try.f45 45 2 1 c (p14 t v0) t l0 h0 (fun v1 l1 h1=>jn (fun v2 l2 h2=>k (p5 t (.bool false)) l2 h2) fun j2=>sto 63 (g4 t) v1 l1 h1 j2 (gn Try.f45 45 2 2 c (p15 (p4 t (g4 t)) v1) t l1 h1 j2)))
 .ret) .skip))
 (.seq (.seq (.reg fun c t l h k=>bO (ld Pg 31 (g3 t) l h) fun v0=>cl c 36 [v0] t l h fun v1 l1 h1=>bO (bin Pg .lss 3 true v1 (I 0)) fun v2=>k (p18 t v2) l1 h1)
 (.cond (.tmp 18) (.reg fun c t l h k=>bO (ld Pg 31 (g2 t) l h) fun v0=>jE ((19,v0)::[]) fun e1=>jF ((ldF (g2 t))::[]) fun q1=>clD c 32 [v0] l h (fun v1 f1 l1 h1=>bO (ld Pg 31 (g3 t) l1 h1) fun v2=>jE ((21,v2)::(20,v1)::e1) fun e3=>jF ((ldF (g3 t))::f1::q1) fun q3=>clD c 32 [v2] l1 h1 (fun v3 f3 l3 h3=>jE ((22,v3)::e3) fun e4=>jF (f3::q3) fun q4=>gD Try.f45 45 4 4 c (p20 (p2 t (g2 t)) v1) l3 h3 (fun v4 f4 l4 h4=>jF (f4::q4) fun q5=>gD Try.f45 45 4 5 c (p22 (p3 t (g3 t)) v3) l4 h4 (fun v5 f5 l5 h5=>Qbw (rgA Try.f45 4).toList [] [(1,2)] (f5::q5) (k t l5 h5)) (sD Try.f45 45 4 c 5 none e4 q5 t l4 h4)) (sD Try.f45 45 4 c 4 none e4 q4 t l3 h3)) (sD Try.f45 45 4 c 3 (some 22) e3 q3 t l1 h1)) (sD Try.f45 45 4 c 1 (some 20) e1 q1 t l h)) .skip))
 (.seq (.reg fun c t l h k=>bO (ld Pg 31 (g2 t) l h) fun v0=>bO (ld Pg 31 (g3 t) l h) fun v1=>cl c 40 [v0,v1] t l h fun v2 l2 h2=>al Pg 31 6 l2 fun v3 l3=>jn (fun v4 l4 h4=>k (p6 t v3) l4 h4) fun j4=>sto 31 v3 v2 l3 h2 j4 (gn Try.f45 45 5 4 c (p25 (p6 t v3) v2) t l3 h2 j4))
 (.seq (.reg fun c t l h k=>bO (ld Pg 31 (g2 t) l h) fun v0=>bO (ld Pg 31 (g6 t) l h) fun v1=>cl c 38 [v0,v1] t l h fun v2 l2 h2=>bO (ext v2 0) fun v3=>bO (ext v2 1) fun v4=>al Pg 31 7 l2 fun v5 l5=>al Pg 31 8 l5 fun v6 l6=>jn (fun v7 l7 h7=>jn (fun v8 l8 h8=>k (p7 t v5) l8 h8) fun j8=>sto 31 v6 v4 l7 h7 j8 (gn Try.f45 45 6 9 c (p31 (p8 t v6) v4) t l7 h7 j8)) fun j7=>sto 31 v5 v3 l6 h2 j7 (gn Try.f45 45 6 8 c (p30 (p7 t v5) v3) t l6 h2 j7))
 (.seq (.reg fun c t l h k=>bO (ld Pg 31 (g3 t) l h) fun v0=>bO (ld Pg 31 (g6 t) l h) fun v1=>cl c 38 [v0,v1] t l h fun v2 l2 h2=>bO (ext v2 0) fun v3=>bO (ext v2 1) fun v4=>al Pg 31 9 l2 fun v5 l5=>al Pg 31 10 l5 fun v6 l6=>jn (fun v7 l7 h7=>jn (fun v8 l8 h8=>k (p9 t v5) l8 h8) fun j8=>sto 31 v6 v4 l7 h7 j8 (gn Try.f45 45 7 9 c (p37 (p10 t v6) v4) t l7 h7 j8)) fun j7=>sto 31 v5 v3 l6 h2 j7 (gn Try.f45 45 7 8 c (p36 (p9 t v5) v3) t l6 h2 j7))
 (.seq (.reg fun c t l h k=>bO (ld Pg 31 (g7 t) l h) fun v0=>bO (ld Pg 31 (g9 t) l h) fun v1=>gn Try.f45 45 8 2 c (p39 (p38 t v0) v1) t l h (fun v2 l2 h2=>jn (fun v3 l3 h3=>k (p5 t (.bool true)) l3 h3) fun j3=>sto 63 (g4 t) v2 l2 h2 j3 (gn Try.f45 45 8 3 c (p40 (p4 t (g4 t)) v2) t l2 h2 j3)))
 .ret)))))))
def kp46:List Nat:=[0,1,2,4]
def rc46:RC:=(.seq (.reg fun c t l h k=>gn Try.f46 46 0 0 c (p0 t (g0 t)) t l h (fun v0 l0 h0=>k (p2 (p1 t v0) (.str ⟨0,0⟩)) l0 h0))
 (.seq (.seq (.reg fun c t l h k=>bO (ld Pg 59 (g1 t) l h) fun v0=>cl c 63 [v0] t l h fun v1 l1 h1=>k (p4 t v1) l1 h1)
 (.cond (.tmp 4) (.seq (.reg fun c t l h k=>bO (fa Pg 59 (g1 t) 0) fun v0=>bO (ld Pg 26 v0 l h) fun v1=>cl c 18 [v1] t l h fun v2 l2 h2=>k (p2 t v2) l2 h2)
 .ret) .skip))
 (.seq (.reg fun c t l h k=>bO (fa Pg 59 (g1 t) 0) fun v0=>bO (ld Pg 26 v0 l h) fun v1=>jE ((9,v1)::(8,v0)::[]) fun e2=>jF ((ldF v0)::ft0::[]) fun q2=>clD c 18 [v1] l h (fun v2 f2 l2 h2=>bO (bin Pg .add 9 true v2 (.str ⟨1,47⟩)) fun v3=>bO (ld Pg 59 (g1 t) l2 h2) fun v4=>jE ((12,v4)::(11,v3)::(10,v2)::e2) fun e5=>jF ((ldF (g1 t))::ft0::f2::q2) fun q5=>clD c 48 [v4] l2 h2 (fun v5 f5 l5 h5=>jE ((13,v5)::e5) fun e6=>jF (f5::q5) fun q6=>clD c 18 [v5] l5 h5 (fun v6 f6 l6 h6=>bO (bin Pg .add 9 false v3 v6) fun v7=>Qbw (rgA Try.f46 3).toList [] [(2,4)] (ft0::ft0::f6::q6) (k (p2 t v7) l6 h6)) (sD Try.f46 46 3 c 6 (some 14) e6 q6 t l5 h5)) (sD Try.f46 46 3 c 5 (some 13) e5 q5 t l2 h2)) (sD Try.f46 46 3 c 2 (some 10) e2 q2 t l h))
 .ret)))
def kp47:List Nat:=[0,1,2,3,4]
def rc47:RC:=(.seq (.reg fun c t l h k=>gn Try.f47 47 0 0 c (p0 t (g0 t)) t l h (fun v0 l0 h0=>gn Try.f47 47 0 1 c (p1 t (g1 t)) t l0 h0 (fun v1 l1 h1=>k (p4 (p3 (p2 t v0) v1) (.bool false)) l1 h1)))
 (.seq (.reg fun c t l h k=>bO (ld Pg 59 (g2 t) l h) fun v0=>jE ((5,v0)::[]) fun e1=>jF ((ldF (g2 t))::[]) fun q1=>clD c 46 [v0] l h (fun v1 f1 l1 h1=>bO (ld Pg 63 (g3 t) l1 h1) fun v2=>jE ((7,v2)::(6,v1)::e1) fun e3=>jF ((ldF (g3 t))::f1::q1) fun q3=>clD c 80 [v2] l1 h1 (fun v3 f3 l3 h3=>bO (bin Pg .eql 9 false v1 v3) fun v4=>Qbw (rgA Try.f47 1).toList [] [(1,2)] (ft0::ft0::f3::q3) (k (p4 t v4) l3 h3)) (sD Try.f47 47 1 c 3 (some 8) e3 q3 t l1 h1)) (sD Try.f47 47 1 c 1 (some 6) e1 q1 t l h))
 .ret))
def kp48:List Nat:=[0,1,2]
def rc48:RC:=(.seq (.reg fun c t l h k=>gn Try.f48 48 0 0 c (p0 t (g0 t)) t l h (fun v0 l0 h0=>al Pg 26 2 l0 fun v1 l1=>k (p2 (p1 t v0) v1) l1 h0))
 (.seq (.reg fun c t l h k=>bO (fa Pg 59 (g1 t) 1) fun v0=>bO (ld Pg 26 v0 l h) fun v1=>jE ((4,v1)::(3,v0)::[]) fun e2=>jF ((ldF v0)::ft0::[]) fun q2=>clD c 21 [(I 1)] l h (fun v2 f2 l2 h2=>jE ((5,v2)::e2) fun e3=>jF (f2::q2) fun q3=>clD c 25 [v1,v2] l2 h2 (fun v3 f3 l3 h3=>jE ((6,v3)::e3) fun e4=>jF (f3::q3) fun q4=>gD Try.f48 48 1 4 c (p6 (p2 t (g2 t)) v3) l3 h3 (fun v4 f4 l4 h4=>Qbw (rgA Try.f48 1).toList [] [(1,2)] (f4::q4) (k t l4 h4)) (sD Try.f48 48 1 c 4 none e4 q4 t l3 h3)) (sD Try.f48 48 1 c 3 (some 6) e3 q3 t l2 h2)) (sD Try.f48 48 1 c 2 (some 5) e2 q2 t l h))
 .ret))
def kp49:List Nat:=[0,1,2]
def rc49:RC:=(.seq (.reg fun c t l h k=>gn Try.f49 49 0 0 c (p0 t (g0 t)) t l h (fun v0 l0 h0=>al Pg 26 2 l0 fun v1 l1=>k (p2 (p1 t v0) v1) l1 h0))
 (.seq (.reg fun c t l h k=>bO (fa Pg 59 (g1 t) 0) fun v0=>bO (ld Pg 26 v0 l h) fun v1=>jn (fun v2 l2 h2=>k t l2 h2) fun j2=>sto 26 (g2 t) v1 l h j2 (gn Try.f49 49 1 2 c (p4 (p2 t (g2 t)) v1) t l h j2))
 .ret))
def kp50:List Nat:=[0,1,2]
def rc50:RC:=(.seq (.reg fun c t l h k=>gn Try.f50 50 0 0 c (p0 t (g0 t)) t l h (fun v0 l0 h0=>al Pg 59 2 l0 fun v1 l1=>k (p2 (p1 t v0) v1) l1 h0))
 (.seq (.reg fun c t l h k=>bO (ld Pg 26 (g1 t) l h) fun v0=>gn Try.f50 50 1 1 c (p3 t v0) t l h (fun v1 l1 h1=>jn (fun v2 l2 h2=>k t l2 h2) fun j2=>sto 59 (g2 t) v1 l1 h1 j2 (gn Try.f50 50 1 2 c (p4 (p2 t (g2 t)) v1) t l1 h1 j2)))
 .ret))
def kp51:List Nat:=[0,1,4,5,6,7,8,9,10,12,26]
def rc51:RC:=(.seq (.reg fun c t l h k=>al Pg 59 4 l fun v0 l0=>al Pg 63 5 l0 fun v1 l1=>k (p5 (p4 t v0) v1) l1 h)
 (.seq (.reg fun c t l h k=>cl c 43 [(g0 t)] t l h fun v0 l0 h0=>bO (ext v0 0) fun v1=>bO (ext v0 1) fun v2=>al Pg 26 6 l0 fun v3 l3=>al Pg 31 7 l3 fun v4 l4=>jn (fun v5 l5 h5=>jn (fun v6 l6 h6=>k (p7 (p6 t v3) v4) l6 h6) fun j6=>sto 31 v4 v2 l5 h5 j6 (gn Try.f51 51 1 8 c (p18 (p7 t v4) v2) t l5 h5 j6)) fun j5=>sto 26 v3 v1 l4 h0 j5 (gn Try.f51 51 1 7 c (p17 (p6 t v3) v1) t l4 h0 j5))
 (.seq (.reg fun c t l h k=>cl c 43 [(g1 t)] t l h fun v0 l0 h0=>bO (ext v0 0) fun v1=>bO (ext v0 1) fun v2=>al Pg 26 8 l0 fun v3 l3=>al Pg 31 9 l3 fun v4 l4=>jn (fun v5 l5 h5=>jn (fun v6 l6 h6=>k (p9 (p8 t v3) v4) l6 h6) fun j6=>sto 31 v4 v2 l5 h5 j6 (gn Try.f51 51 2 8 c (p23 (p9 t v4) v2) t l5 h5 j6)) fun j5=>sto 26 v3 v1 l4 h0 j5 (gn Try.f51 51 2 7 c (p22 (p8 t v3) v1) t l4 h0 j5))
 (.seq (.seq (.reg fun c t l h k=>bO (ld Pg 26 (g8 t) l h) fun v0=>cl c 35 [v0] t l h fun v1 l1 h1=>bO (bin Pg .eql 3 true v1 (I 0)) fun v2=>k (p26 t v2) l1 h1)
 (.cond (.tmp 26) (.reg fun c t l h k=>cl c 21 [(I 1)] t l h fun v0 l0 h0=>cl c 22 [(I 1)] t l0 h0 fun v1 l1 h1=>jn (fun v2 l2 h2=>jn (fun v3 l3 h3=>k t l3 h3) fun j3=>sto 31 (g9 t) v1 l2 h2 j3 (gn Try.f51 51 4 3 c (p28 (p9 t (g9 t)) v1) t l2 h2 j3)) fun j2=>sto 26 (g8 t) v0 l1 h1 j2 (gn Try.f51 51 4 2 c (p27 (p8 t (g8 t)) v0) t l1 h1 j2)) .skip))
 (.seq (.reg fun c t l h k=>bO (ld Pg 26 (g6 t) l h) fun v0=>bO (ld Pg 26 (g8 t) l h) fun v1=>cl c 44 [v0,v1] t l h fun v2 l2 h2=>bO (ext v2 0) fun v3=>bO (ext v2 1) fun v4=>al Pg 59 10 l2 fun v5 l5=>jn (fun v6 l6 h6=>k (p10 t v5) l6 h6) fun j6=>sto 59 v5 v3 l5 h2 j6 (gn Try.f51 51 5 7 c (p33 (p10 t v5) v3) t l5 h2 j6))
 (.seq (.reg fun c t l h k=>bO (ld Pg 31 (g7 t) l h) fun v0=>bO (ld Pg 31 (g9 t) l h) fun v1=>cl c 45 [v0,v1] t l h fun v2 l2 h2=>bO (ext v2 0) fun v3=>bO (ext v2 1) fun v4=>al Pg 63 12 l2 fun v5 l5=>jn (fun v6 l6 h6=>k (p12 t v5) l6 h6) fun j6=>sto 63 v5 v3 l5 h2 j6 (gn Try.f51 51 6 7 c (p39 (p12 t v5) v3) t l5 h2 j6))
 (.seq (.reg fun c t l h k=>bO (ld Pg 59 (g10 t) l h) fun v0=>bO (ld Pg 63 (g12 t) l h) fun v1=>jE ((42,v1)::(41,v0)::[]) fun e2=>jF ((ldF (g12 t))::(ldF (g10 t))::[]) fun q2=>gD Try.f51 51 7 2 c (p41 (p4 t (g4 t)) v0) l h (fun v2 f2 l2 h2=>jF (f2::q2) fun q3=>gD Try.f51 51 7 3 c (p42 (p5 t (g5 t)) v1) l2 h2 (fun v3 f3 l3 h3=>Qbw (rgA Try.f51 7).toList [(1,2)] [(1,2)] (f3::q3) (k t l3 h3)) (sD Try.f51 51 7 c 3 none e2 q3 t l2 h2)) (sD Try.f51 51 7 c 2 none e2 q2 t l h))
 .ret)))))))
def kp52:List Nat:=[0,1,2,3]
def rc52:RC:=(.seq (.reg fun c t l h k=>gn Try.f52 52 0 0 c (p0 t (g0 t)) t l h (fun v0 l0 h0=>al Pg 26 2 l0 fun v1 l1=>k (p2 (p1 t v0) v1) l1 h0))
 (.seq (.reg fun c t l h k=>bO (fa Pg 59 (g1 t) 0) fun v0=>bO (ld Pg 26 v0 l h) fun v1=>bO (ld Pg 59 (g1 t) l h) fun v2=>jE ((8,v2)::(7,v1)::(6,v0)::[]) fun e3=>jF ((ldF (g1 t))::(ldF v0)::ft0::[]) fun q3=>clD c 48 [v2] l h (fun v3 f3 l3 h3=>jE ((9,v3)::e3) fun e4=>jF (f3::q3) fun q4=>clD c 37 [v1,v3] l3 h3 (fun v4 f4 l4 h4=>bO (ext v4 0) fun v5=>bO (ext v4 1) fun v6=>jE ((12,v6)::(11,v5)::(5,v4)::(10,v4)::e4) fun e7=>jF (ft0::ft0::ft0::f4::q4) fun q7=>gD Try.f52 52 1 8 c t l4 h4 (fun v7 f7 l7 h7=>jE ((3,v7)::e7) fun e8=>jF (f7::q7) fun q8=>gD Try.f52 52 1 9 c t l7 h7 (fun v8 f8 l8 h8=>jE ((4,v8)::e8) fun e9=>jF (f8::q8) fun q9=>gD Try.f52 52 1 10 c (p11 (p3 t v7) v5) l8 h8 (fun v9 f9 l9 h9=>jF (f9::q9) fun q10=>gD Try.f52 52 1 11 c (p12 (p4 t v8) v6) l9 h9 (fun v10 f10 l10 h10=>Qbw (rgA Try.f52 1).toList [(1,8),(2,8),(1,9),(2,9),(8,9)] [(1,3),(1,8),(2,8),(3,8),(4,8),(1,9),(2,9),(3,9),(4,9),(8,9)] (f10::q10) (k (p3 t v7) l10 h10)) (sD Try.f52 52 1 c 11 none e9 q10 t l9 h9)) (sD Try.f52 52 1 c 10 none e9 q9 t l8 h8)) (sD Try.f52 52 1 c 9 (some 4) e8 q8 t l7 h7)) (sD Try.f52 52 1 c 8 (some 3) e7 q7 t l4 h4)) (sD Try.f52 52 1 c 4 (some 10) e4 q4 t l3 h3)) (sD Try.f52 52 1 c 3 (some 9) e3 q3 t l h))
 (.seq (.reg fun c t l h k=>bO (ld Pg 26 (g3 t) l h) fun v0=>jn (fun v1 l1 h1=>k t l1 h1) fun j1=>sto 26 (g2 t) v0 l h j1 (gn Try.f52 52 2 1 c (p13 (p2 t (g2 t)) v0) t l h j1))
 .ret)))
def kp53:List Nat:=[0,1,2,3,4]
def rc53:RC:=(.seq (.reg fun c t l h k=>gn Try.f53 53 0 0 c (p0 t (g0 t)) t l h (fun v0 l0 h0=>gn Try.f53 53 0 1 c (p1 t (g1 t)) t l0 h0 (fun v1 l1 h1=>al Pg 59 4 l1 fun v2 l2=>k (p4 (p3 (p2 t v0) v1) v2) l2 h1)))
 (.seq (.reg fun c t l h k=>bO (ld Pg 59 (g2 t) l h) fun v0=>bO (ld Pg 59 (g3 t) l h) fun v1=>bO (fa Pg 59 (g2 t) 0) fun v2=>bO (ld Pg 26 v2 l h) fun v3=>bO (ld Pg 59 (g3 t) l h) fun v4=>jE ((9,v4)::(8,v3)::(7,v2)::(6,v1)::(5,v0)::[]) fun e5=>jF ((ldF (g3 t))::(ldF v2)::ft0::(ldF (g3 t))::(ldF (g2 t))::[]) fun q5=>clD c 48 [v4] l h (fun v5 f5 l5 h5=>jE ((10,v5)::e5) fun e6=>jF (f5::q5) fun q6=>clD c 29 [v3,v5] l5 h5 (fun v6 f6 l6 h6=>jE ((11,v6)::e6) fun e7=>jF (f6::q6) fun q7=>gD Try.f53 53 1 7 c (p11 t v6) l6 h6 (fun v7 f7 l7 h7=>jE ((12,v7)::e7) fun e8=>jF (f7::q7) fun q8=>clD c 81 [v0,v1,v7] l7 h7 (fun v8 f8 l8 h8=>jE ((13,v8)::e8) fun e9=>jF (f8::q8) fun q9=>gD Try.f53 53 1 9 c (p13 (p4 t (g4 t)) v8) l8 h8 (fun v9 f9 l9 h9=>Qbw (rgA Try.f53 1).toList [] [(0,5),(1,5),(3,5),(0,6),(1,6)] (f9::q9) (k t l9 h9)) (sD Try.f53 53 1 c 9 none e9 q9 t l8 h8)) (sD Try.f53 53 1 c 8 (some 13) e8 q8 t l7 h7)) (sD Try.f53 53 1 c 7 (some 12) e7 q7 t l6 h6)) (sD Try.f53 53 1 c 6 (some 11) e6 q6 t l5 h5)) (sD Try.f53 53 1 c 5 (some 10) e5 q5 t l h))
 .ret))
def kp54:List Nat:=[0,1,2,3,4]
def rc54:RC:=(.seq (.reg fun c t l h k=>gn Try.f54 54 0 0 c (p0 t (g0 t)) t l h (fun v0 l0 h0=>gn Try.f54 54 0 1 c (p1 t (g1 t)) t l0 h0 (fun v1 l1 h1=>k (p4 (p3 (p2 t v0) v1) (I 0)) l1 h1)))
 (.seq (.reg fun c t l h k=>bO (fa Pg 59 (g2 t) 0) fun v0=>bO (ld Pg 26 v0 l h) fun v1=>bO (ld Pg 59 (g3 t) l h) fun v2=>jE ((7,v2)::(6,v1)::(5,v0)::[]) fun e3=>jF ((ldF (g3 t))::(ldF v0)::ft0::[]) fun q3=>clD c 48 [v2] l h (fun v3 f3 l3 h3=>jE ((8,v3)::e3) fun e4=>jF (f3::q3) fun q4=>clD c 29 [v1,v3] l3 h3 (fun v4 f4 l4 h4=>bO (fa Pg 59 (g3 t) 0) fun v5=>bO (ld Pg 26 v5 l4 h4) fun v6=>bO (ld Pg 59 (g2 t) l4 h4) fun v7=>jE ((12,v7)::(11,v6)::(10,v5)::(9,v4)::e4) fun e8=>jF ((ldF (g2 t))::(ldF v5)::ft0::f4::q4) fun q8=>clD c 48 [v7] l4 h4 (fun v8 f8 l8 h8=>jE ((13,v8)::e8) fun e9=>jF (f8::q8) fun q9=>clD c 29 [v6,v8] l8 h8 (fun v9 f9 l9 h9=>jE ((14,v9)::e9) fun e10=>jF (f9::q9) fun q10=>clD c 33 [v4,v9] l9 h9 (fun v10 f10 l10 h10=>Qbw (rgA Try.f54 1).toList [] [(1,3),(3,6),(4,6),(3,7),(4,7),(6,8)] (ft0::f10::q10) (k (p4 t v10) l10 h10)) (sD Try.f54 54 1 c 10 (some 15) e10 q10 t l9 h9)) (sD Try.f54 54 1 c 9 (some 14) e9 q9 t l8 h8)) (sD Try.f54 54 1 c 8 (some 13) e8 q8 t l4 h4)) (sD Try.f54 54 1 c 4 (some 9) e4 q4 t l3 h3)) (sD Try.f54 54 1 c 3 (some 8) e3 q3 t l h))
 .ret))
def kp55:List Nat:=[0,1,2,3,4]
def rc55:RC:=(.seq (.reg fun c t l h k=>gn Try.f55 55 0 0 c (p0 t (g0 t)) t l h (fun v0 l0 h0=>gn Try.f55 55 0 1 c (p1 t (g1 t)) t l0 h0 (fun v1 l1 h1=>al Pg 59 4 l1 fun v2 l2=>k (p4 (p3 (p2 t v0) v1) v2) l2 h1)))
 (.seq (.reg fun c t l h k=>bO (fa Pg 59 (g2 t) 0) fun v0=>bO (ld Pg 26 v0 l h) fun v1=>bO (fa Pg 59 (g3 t) 0) fun v2=>bO (ld Pg 26 v2 l h) fun v3=>jE ((8,v3)::(7,v2)::(6,v1)::(5,v0)::[]) fun e4=>jF ((ldF v2)::ft0::(ldF v0)::ft0::[]) fun q4=>clD c 29 [v1,v3] l h (fun v4 f4 l4 h4=>bO (ld Pg 59 (g2 t) l4 h4) fun v5=>jE ((10,v5)::(9,v4)::e4) fun e6=>jF ((ldF (g2 t))::f4::q4) fun q6=>clD c 48 [v5] l4 h4 (fun v6 f6 l6 h6=>bO (ld Pg 59 (g3 t) l6 h6) fun v7=>jE ((12,v7)::(11,v6)::e6) fun e8=>jF ((ldF (g3 t))::f6::q6) fun q8=>clD c 48 [v7] l6 h6 (fun v8 f8 l8 h8=>jE ((13,v8)::e8) fun e9=>jF (f8::q8) fun q9=>clD c 29 [v6,v8] l8 h8 (fun v9 f9 l9 h9=>jE ((14,v9)::e9) fun e10=>jF (f9::q9) fun q10=>clD c 82 [v4,v9] l9 h9 (fun v10 f10 l10 h10=>jE ((15,v10)::e10) fun e11=>jF (f10::q10) fun q11=>gD Try.f55 55 1 11 c (p15 (p4 t (g4 t)) v10) l10 h10 (fun v11 f11 l11 h11=>Qbw (rgA Try.f55 1).toList [] [(4,5),(4,7),(6,7)] (f11::q11) (k t l11 h11)) (sD Try.f55 55 1 c 11 none e11 q11 t l10 h10)) (sD Try.f55 55 1 c 10 (some 15) e10 q10 t l9 h9)) (sD Try.f55 55 1 c 9 (some 14) e9 q9 t l8 h8)) (sD Try.f55 55 1 c 8 (some 13) e8 q8 t l6 h6)) (sD Try.f55 55 1 c 6 (some 11) e6 q6 t l4 h4)) (sD Try.f55 55 1 c 4 (some 9) e4 q4 t l h))
 .ret))
def kp56:List Nat:=[0,1,2,3,4]
def rc56:RC:=(.seq (.reg fun c t l h k=>gn Try.f56 56 0 0 c (p0 t (g0 t)) t l h (fun v0 l0 h0=>gn Try.f56 56 0 1 c (p1 t (g1 t)) t l0 h0 (fun v1 l1 h1=>al Pg 59 4 l1 fun v2 l2=>k (p4 (p3 (p2 t v0) v1) v2) l2 h1)))
 (.seq (.reg fun c t l h k=>bO (ld Pg 59 (g2 t) l h) fun v0=>bO (ld Pg 59 (g3 t) l h) fun v1=>bO (fa Pg 59 (g2 t) 0) fun v2=>bO (ld Pg 26 v2 l h) fun v3=>bO (ld Pg 59 (g3 t) l h) fun v4=>jE ((9,v4)::(8,v3)::(7,v2)::(6,v1)::(5,v0)::[]) fun e5=>jF ((ldF (g3 t))::(ldF v2)::ft0::(ldF (g3 t))::(ldF (g2 t))::[]) fun q5=>clD c 48 [v4] l h (fun v5 f5 l5 h5=>jE ((10,v5)::e5) fun e6=>jF (f5::q5) fun q6=>clD c 29 [v3,v5] l5 h5 (fun v6 f6 l6 h6=>jE ((11,v6)::e6) fun e7=>jF (f6::q6) fun q7=>gD Try.f56 56 1 7 c (p11 t v6) l6 h6 (fun v7 f7 l7 h7=>jE ((12,v7)::e7) fun e8=>jF (f7::q7) fun q8=>clD c 81 [v0,v1,v7] l7 h7 (fun v8 f8 l8 h8=>jE ((13,v8)::e8) fun e9=>jF (f8::q8) fun q9=>gD Try.f56 56 1 9 c (p13 (p4 t (g4 t)) v8) l8 h8 (fun v9 f9 l9 h9=>Qbw (rgA Try.f56 1).toList [] [(0,5),(1,5),(3,5),(0,6),(1,6)] (f9::q9) (k t l9 h9)) (sD Try.f56 56 1 c 9 none e9 q9 t l8 h8)) (sD Try.f56 56 1 c 8 (some 13) e8 q8 t l7 h7)) (sD Try.f56 56 1 c 7 (some 12) e7 q7 t l6 h6)) (sD Try.f56 56 1 c 6 (some 11) e6 q6 t l5 h5)) (sD Try.f56 56 1 c 5 (some 10) e5 q5 t l h))
 .ret))
def kp57:List Nat:=[0,1,2,3]
def rc57:RC:=(.seq (.reg fun c t l h k=>gn Try.f57 57 0 0 c (p0 t (g0 t)) t l h (fun v0 l0 h0=>al Pg 59 2 l0 fun v1 l1=>k (p3 (p2 (p1 t v0) v1) (.bool false)) l1 h0))
 (.seq (.reg fun c t l h k=>bO (ld Pg 59 (g1 t) l h) fun v0=>jE ((4,v0)::[]) fun e1=>jF ((ldF (g1 t))::[]) fun q1=>clD c 48 [v0] l h (fun v1 f1 l1 h1=>bO (fa Pg 59 (g1 t) 0) fun v2=>bO (ld Pg 26 v2 l1 h1) fun v3=>jE ((7,v3)::(6,v2)::(5,v1)::e1) fun e4=>jF ((ldF v2)::ft0::f1::q1) fun q4=>clD c 44 [v1,v3] l1 h1 (fun v4 f4 l4 h4=>bO (ext v4 0) fun v5=>bO (ext v4 1) fun v6=>jE ((10,v6)::(9,v5)::(8,v4)::e4) fun e7=>jF (ft0::ft0::f4::q4) fun q7=>gD Try.f57 57 1 7 c (p9 (p2 t (g2 t)) v5) l4 h4 (fun v7 f7 l7 h7=>Qbw (rgA Try.f57 1).toList [] [(1,3)] (ft0::f7::q7) (k (p3 t v6) l7 h7)) (sD Try.f57 57 1 c 7 none e7 q7 t l4 h4)) (sD Try.f57 57 1 c 4 (some 8) e4 q4 t l1 h1)) (sD Try.f57 57 1 c 1 (some 5) e1 q1 t l h))
 .ret))
def kp58:List Nat:=[0,1,2,3,4,5]
def rc58:RC:=(.seq (.reg fun c t l h k=>gn Try.f58 58 0 0 c (p0 t (g0 t)) t l h (fun v0 l0 h0=>gn Try.f58 58 0 1 c (p1 t (g1 t)) t l0 h0 (fun v1 l1 h1=>al Pg 63 4 l1 fun v2 l2=>k (p4 (p3 (p2 t v0) v1) v2) l2 h1)))
 (.seq (.reg fun c t l h k=>bO (fa Pg 63 (g2 t) 0) fun v0=>bO (ld Pg 31 v0 l h) fun v1=>bO (fa Pg 63 (g3 t) 1) fun v2=>bO (ld Pg 31 v2 l h) fun v3=>jE ((11,v3)::(10,v2)::(9,v1)::(8,v0)::[]) fun e4=>jF ((ldF v2)::ft0::(ldF v0)::ft0::[]) fun q4=>clD c 30 [v1,v3] l h (fun v4 f4 l4 h4=>bO (fa Pg 63 (g3 t) 0) fun v5=>bO (ld Pg 31 v5 l4 h4) fun v6=>bO (fa Pg 63 (g2 t) 1) fun v7=>bO (ld Pg 31 v7 l4 h4) fun v8=>jE ((16,v8)::(15,v7)::(14,v6)::(13,v5)::(12,v4)::e4) fun e9=>jF ((ldF v7)::ft0::(ldF v5)::ft0::f4::q4) fun q9=>clD c 30 [v6,v8] l4 h4 (fun v9 f9 l9 h9=>jE ((17,v9)::e9) fun e10=>jF (f9::q9) fun q10=>clD c 26 [v4,v9] l9 h9 (fun v10 f10 l10 h10=>bO (fa Pg 63 (g2 t) 1) fun v11=>bO (ld Pg 31 v11 l10 h10) fun v12=>bO (fa Pg 63 (g3 t) 1) fun v13=>bO (ld Pg 31 v13 l10 h10) fun v14=>jE ((22,v14)::(21,v13)::(20,v12)::(19,v11)::(18,v10)::e10) fun e15=>jF ((ldF v13)::ft0::(ldF v11)::ft0::f10::q10) fun q15=>clD c 30 [v12,v14] l10 h10 (fun v15 f15 l15 h15=>jE ((23,v15)::e15) fun e16=>jF (f15::q15) fun q16=>clD c 45 [v10,v15] l15 h15 (fun v16 f16 l16 h16=>bO (ext v16 0) fun v17=>bO (ext v16 1) fun v18=>jE ((26,v18)::(25,v17)::(7,v16)::(24,v16)::e16) fun e19=>jF (ft0::ft0::ft0::f16::q16) fun q19=>gD Try.f58 58 1 20 c t l16 h16 (fun v19 f19 l19 h19=>jE ((5,v19)::e19) fun e20=>jF (f19::q19) fun q20=>gD Try.f58 58 1 21 c (p25 (p5 t v19) v17) l19 h19 (fun v20 f20 l20 h20=>Qbw (rgA Try.f58 1).toList [(1,20),(3,20),(6,20),(8,20),(12,20),(14,20)] [(4,6),(4,8),(4,12),(9,12),(10,12),(4,14),(9,14),(10,14),(1,20),(3,20),(4,20),(6,20),(8,20),(9,20),(10,20),(12,20),(14,20),(15,20),(16,20)] (ft0::f20::q20) (k (p5 t v19) l20 h20)) (sD Try.f58 58 1 c 21 none e20 q20 t l19 h19)) (sD Try.f58 58 1 c 20 (some 5) e19 q19 t l16 h16)) (sD Try.f58 58 1 c 16 (some 24) e16 q16 t l15 h15)) (sD Try.f58 58 1 c 15 (some 23) e15 q15 t l10 h10)) (sD Try.f58 58 1 c 10 (some 18) e10 q10 t l9 h9)) (sD Try.f58 58 1 c 9 (some 17) e9 q9 t l4 h4)) (sD Try.f58 58 1 c 4 (some 12) e4 q4 t l h))
 (.seq (.reg fun c t l h k=>bO (ld Pg 63 (g5 t) l h) fun v0=>jn (fun v1 l1 h1=>k t l1 h1) fun j1=>sto 63 (g4 t) v0 l h j1 (gn Try.f58 58 2 1 c (p27 (p4 t (g4 t)) v0) t l h j1))
 .ret)))
def kp59:List Nat:=[0,1,2]
def rc59:RC:=(.seq (.reg fun c t l h k=>gn Try.f59 59 0 0 c (p0 t (g0 t)) t l h (fun v0 l0 h0=>al Pg 63 2 l0 fun v1 l1=>k (p2 (p1 t v0) v1) l1 h0))
 (.seq (.reg fun c t l h k=>bO (fa Pg 63 (g1 t) 0) fun v0=>bO (ld Pg 31 v0 l h) fun v1=>jE ((4,v1)::(3,v0)::[]) fun e2=>jF ((ldF v0)::ft0::[]) fun q2=>clD c 32 [v1] l h (fun v2 f2 l2 h2=>bO (fa Pg 63 (g1 t) 1) fun v3=>bO (ld Pg 31 v3 l2 h2) fun v4=>jE ((7,v4)::(6,v3)::(5,v2)::e2) fun e5=>jF ((ldF v3)::ft0::f2::q2) fun q5=>gD Try.f59 59 1 5 c (p7 (p5 t v2) v4) l2 h2 (fun v5 f5 l5 h5=>jE ((8,v5)::e5) fun e6=>jF (f5::q5) fun q6=>gD Try.f59 59 1 6 c (p8 (p2 t (g2 t)) v5) l5 h5 (fun v6 f6 l6 h6=>Qbw (rgA Try.f59 1).toList [] [(2,4)] (f6::q6) (k t l6 h6)) (sD Try.f59 59 1 c 6 none e6 q6 t l5 h5)) (sD Try.f59 59 1 c 5 (some 8) e5 q5 t l2 h2)) (sD Try.f59 59 1 c 2 (some 5) e2 q2 t l h))
 .ret))
def kp60:List Nat:=[0,1,2,3,4,5]
def rc60:RC:=(.seq (.reg fun c t l h k=>gn Try.f60 60 0 0 c (p0 t (g0 t)) t l h (fun v0 l0 h0=>gn Try.f60 60 0 1 c (p1 t (g1 t)) t l0 h0 (fun v1 l1 h1=>al Pg 63 4 l1 fun v2 l2=>k (p4 (p3 (p2 t v0) v1) v2) l2 h1)))
 (.seq (.reg fun c t l h k=>bO (fa Pg 63 (g2 t) 0) fun v0=>bO (ld Pg 31 v0 l h) fun v1=>bO (fa Pg 63 (g3 t) 0) fun v2=>bO (ld Pg 31 v2 l h) fun v3=>jE ((11,v3)::(10,v2)::(9,v1)::(8,v0)::[]) fun e4=>jF ((ldF v2)::ft0::(ldF v0)::ft0::[]) fun q4=>clD c 30 [v1,v3] l h (fun v4 f4 l4 h4=>bO (fa Pg 63 (g2 t) 1) fun v5=>bO (ld Pg 31 v5 l4 h4) fun v6=>bO (fa Pg 63 (g3 t) 1) fun v7=>bO (ld Pg 31 v7 l4 h4) fun v8=>jE ((16,v8)::(15,v7)::(14,v6)::(13,v5)::(12,v4)::e4) fun e9=>jF ((ldF v7)::ft0::(ldF v5)::ft0::f4::q4) fun q9=>clD c 30 [v6,v8] l4 h4 (fun v9 f9 l9 h9=>jE ((17,v9)::e9) fun e10=>jF (f9::q9) fun q10=>clD c 45 [v4,v9] l9 h9 (fun v10 f10 l10 h10=>bO (ext v10 0) fun v11=>bO (ext v10 1) fun v12=>jE ((20,v12)::(19,v11)::(7,v10)::(18,v10)::e10) fun e13=>jF (ft0::ft0::ft0::f10::q10) fun q13=>gD Try.f60 60 1 14 c t l10 h10 (fun v13 f13 l13 h13=>jE ((5,v13)::e13) fun e14=>jF (f13::q13) fun q14=>gD Try.f60 60 1 15 c (p19 (p5 t v13) v11) l13 h13 (fun v14 f14 l14 h14=>Qbw (rgA Try.f60 1).toList [(1,14),(3,14),(6,14),(8,14)] [(4,6),(4,8),(1,14),(3,14),(4,14),(6,14),(8,14),(9,14),(10,14)] (ft0::f14::q14) (k (p5 t v13) l14 h14)) (sD Try.f60 60 1 c 15 none e14 q14 t l13 h13)) (sD Try.f60 60 1 c 14 (some 5) e13 q13 t l10 h10)) (sD Try.f60 60 1 c 10 (some 18) e10 q10 t l9 h9)) (sD Try.f60 60 1 c 9 (some 17) e9 q9 t l4 h4)) (sD Try.f60 60 1 c 4 (some 12) e4 q4 t l h))
 (.seq (.reg fun c t l h k=>bO (ld Pg 63 (g5 t) l h) fun v0=>jn (fun v1 l1 h1=>k t l1 h1) fun j1=>sto 63 (g4 t) v0 l h j1 (gn Try.f60 60 2 1 c (p21 (p4 t (g4 t)) v0) t l h j1))
 .ret)))
def kp61:List Nat:=[0,1,2]
def rc61:RC:=(.seq (.reg fun c t l h k=>gn Try.f61 61 0 0 c (p0 t (g0 t)) t l h (fun v0 l0 h0=>al Pg 59 2 l0 fun v1 l1=>k (p2 (p1 t v0) v1) l1 h0))
 (.seq (.reg fun c t l h k=>bO (fa Pg 59 (g1 t) 0) fun v0=>bO (ld Pg 26 v0 l h) fun v1=>jE ((4,v1)::(3,v0)::[]) fun e2=>jF ((ldF v0)::ft0::[]) fun q2=>clD c 31 [v1] l h (fun v2 f2 l2 h2=>bO (fa Pg 59 (g1 t) 1) fun v3=>bO (ld Pg 26 v3 l2 h2) fun v4=>jE ((7,v4)::(6,v3)::(5,v2)::e2) fun e5=>jF ((ldF v3)::ft0::f2::q2) fun q5=>gD Try.f61 61 1 5 c (p7 (p5 t v2) v4) l2 h2 (fun v5 f5 l5 h5=>jE ((8,v5)::e5) fun e6=>jF (f5::q5) fun q6=>gD Try.f61 61 1 6 c (p8 (p2 t (g2 t)) v5) l5 h5 (fun v6 f6 l6 h6=>Qbw (rgA Try.f61 1).toList [] [(2,4)] (f6::q6) (k t l6 h6)) (sD Try.f61 61 1 c 6 none e6 q6 t l5 h5)) (sD Try.f61 61 1 c 5 (some 8) e5 q5 t l2 h2)) (sD Try.f61 61 1 c 2 (some 5) e2 q2 t l h))
 .ret))
def kp62:List Nat:=[0,1,2,3,4]
def rc62:RC:=(.seq (.reg fun c t l h k=>gn Try.f62 62 0 0 c (p0 t (g0 t)) t l h (fun v0 l0 h0=>gn Try.f62 62 0 1 c (p1 t (g1 t)) t l0 h0 (fun v1 l1 h1=>k (p4 (p3 (p2 t v0) v1) (I 0)) l1 h1)))
 (.seq (.reg fun c t l h k=>bO (fa Pg 63 (g2 t) 0) fun v0=>bO (ld Pg 31 v0 l h) fun v1=>bO (fa Pg 63 (g3 t) 1) fun v2=>bO (ld Pg 31 v2 l h) fun v3=>jE ((8,v3)::(7,v2)::(6,v1)::(5,v0)::[]) fun e4=>jF ((ldF v2)::ft0::(ldF v0)::ft0::[]) fun q4=>clD c 30 [v1,v3] l h (fun v4 f4 l4 h4=>bO (fa Pg 63 (g3 t) 0) fun v5=>bO (ld Pg 31 v5 l4 h4) fun v6=>bO (fa Pg 63 (g2 t) 1) fun v7=>bO (ld Pg 31 v7 l4 h4) fun v8=>jE ((13,v8)::(12,v7)::(11,v6)::(10,v5)::(9,v4)::e4) fun e9=>jF ((ldF v7)::ft0::(ldF v5)::ft0::f4::q4) fun q9=>clD c 30 [v6,v8] l4 h4 (fun v9 f9 l9 h9=>jE ((14,v9)::e9) fun e10=>jF (f9::q9) fun q10=>clD c 34 [v4,v9] l9 h9 (fun v10 f10 l10 h10=>Qbw (rgA Try.f62 1).toList [] [(4,6),(4,8)] (ft0::f10::q10) (k (p4 t v10) l10 h10)) (sD Try.f62 62 1 c 10 (some 15) e10 q10 t l9 h9)) (sD Try.f62 62 1 c 9 (some 14) e9 q9 t l4 h4)) (sD Try.f62 62 1 c 4 (some 9) e4 q4 t l h))
 .ret))
def kp63:List Nat:=[0,1,2]
def rc63:RC:=(.seq (.reg fun c t l h k=>gn Try.f63 63 0 0 c (p0 t (g0 t)) t l h (fun v0 l0 h0=>k (p2 (p1 t v0) (.bool false)) l0 h0))
 (.seq (.reg fun c t l h k=>bO (fa Pg 59 (g1 t) 1) fun v0=>bO (ld Pg 26 v0 l h) fun v1=>cl c 35 [v1] t l h fun v2 l2 h2=>bO (bin Pg .eql 3 true v2 (I 0)) fun v3=>k (p2 t v3) l2 h2)
 .ret))
def kp64:List Nat:=[0,1,2,6,7,8,9,10,11,12,31]
def rc64:RC:=(.seq (.reg fun c t l h k=>k (p6 t .nils) l h)
 (.seq (.seq (.reg fun c t l h k=>bO (len (Pg.underlying 24) (g0 t)) fun v0=>k (p11 (p10 (p9 t (g0 t)) v0) (I 0)) l h)
 (.block 0 (.loop (.seq (.reg fun c t l h k=>bO (bin Pg .lss 3 false (g11 t) (g10 t)) fun v0=>k (p12 t v0) l h)
 (.seq (.cond (.tmp 12) .skip (.exit 0))
 (.seq (.block 1 (.seq (.reg fun c t l h k=>bO (ia Pg 24 (g9 t) (g11 t)) fun v0=>bO (ld Pg 86 v0 l h) fun v1=>k (p8 (p7 t (g11 t)) v1) l h)
 (.seq (.reg fun c t l h k=>gn Try.f64 64 4 2 c (p17 t (g8 t)) t l h (fun v0 l0 h0=>bO (bin Pg .mul 80 false v0 (g1 t)) fun v1=>bO (bin Pg .add 80 false (g2 t) v1) fun v2=>k (p2 t v2) l0 h0))
 (.seq (.reg fun c t l h k=>gn Try.f64 64 5 3 c (p24 t (g2 t)) t l h (fun v0 l0 h0=>bO (ia Pg 24 (g0 t) (g7 t)) fun v1=>jn (fun v2 l2 h2=>k t l2 h2) fun j2=>sto 86 v1 v0 l0 h0 j2 (gn Try.f64 64 5 5 c (p25 (p26 t v1) v0) t l0 h0 j2)))
 (.reg fun c t l h k=>bO (bin Pg .shr 80 true (g2 t) (.int .u64 (.ofNat 32))) fun v0=>k (p2 t v0) l h)))))
 (.reg fun c t l h k=>bO (bin Pg .add 3 true (g11 t) (I 1)) fun v0=>k (p11 t v0) l h)))))))
 (.seq (.seq (.reg fun c t l h k=>bO (bin Pg .gtr 80 true (g2 t) (.int .u64 (.ofNat 0))) fun v0=>k (p31 t v0) l h)
 (.cond (.tmp 31) (.reg fun c t l h k=>gn Try.f64 64 9 2 c (p33 t (g2 t)) t l h (fun v0 l0 h0=>gn Try.f64 64 9 3 c (p34 t v0) t l0 h0 (fun v1 l1 h1=>gn Try.f64 64 9 4 c (p35 (p32 t (g0 t)) v1) t l1 h1 (fun v2 l2 h2=>k (p0 t v2) l2 h2)))) .skip))
 (.seq (.reg fun c t l h k=>k (p6 t (g0 t)) l h)
 .ret))))
def kp65:List Nat:=[0,1,4,16]
def rc65:RC:=(.seq (.reg fun c t l h k=>al Pg 26 4 l fun v0 l0=>k (p4 t v0) l0 h)
 (.seq (.block 0 (.loop (.seq (.seq (.reg fun c t l h k=>bO (len (Pg.underlying 24) (g0 t)) fun v0=>bO (bin Pg .gtr 3 true v0 (I 0)) fun v1=>jn (fun v2 l2 h2=>jn (fun v3 l3 h3=>jn (fun v4 l4 h4=>jn (fun v5 l5 h5=>jn (fun v6 l6 h6=>jn (fun v7 l7 h7=>jn (fun v8 l8 h8=>bO (pick v1 v8 (.bool false)) fun v9=>k (p16 t v9) l8 h8) fun j8=>brB (wv v1 true) (j8 (.tuple []) l7 h7) (bO (bin Pg .eql 86 true v7 (.int .u32 (.ofNat 0))) fun v9=>j8 v9 l7 h7)) fun j7=>brB (wv v1 true) (j7 (.tuple []) l6 h6) (bO (ld Pg 86 v6 l6 h6) fun v8=>j7 v8 l6 h6)) fun j6=>brB (wv v1 true) (j6 (.tuple []) l5 h5) (bO (ia Pg 24 v2 v5) fun v7=>j6 v7 l5 h5)) fun j5=>brB (wv v1 true) (j5 (.tuple []) l4 h4) (bO (bin Pg .sub 3 true v4 (I 1)) fun v6=>j5 v6 l4 h4)) fun j4=>brB (wv v1 true) (j4 (.tuple []) l3 h3) (bO (len (Pg.underlying 24) v3) fun v5=>j4 v5 l3 h3)) fun j3=>brB (wv v1 true) (j3 (.tuple []) l2 h2) (j3 (g0 t) l2 h2)) fun j2=>brB (wv v1 true) (j2 (.tuple []) l h) (j2 (g0 t) l h))
 (.cond (.tmp 16) .skip (.exit 0)))
 (.block 1 (.reg fun c t l h k=>bO (len (Pg.underlying 24) (g0 t)) fun v0=>bO (bin Pg .sub 3 true v0 (I 1)) fun v1=>bO (slc Pg 24 (g0 t) none (some v1) none) fun v2=>k (p0 t v2) l h)))))
 (.seq (.reg fun c t l h k=>jn (fun v0 l0 h0=>jn (fun v1 l1 h1=>jn (fun v2 l2 h2=>bO (pick (g1 t) v2 (.bool false)) fun v3=>gn Try.f65 65 3 7 c (p28 (p22 t (g0 t)) v3) t l2 h2 (fun v4 l4 h4=>jn (fun v5 l5 h5=>k t l5 h5) fun j5=>sto 26 (g4 t) v4 l4 h4 j5 (gn Try.f65 65 3 8 c (p29 (p4 t (g4 t)) v4) t l4 h4 j5))) fun j2=>brB (wv (g1 t) true) (j2 (.tuple []) l1 h1) (bO (bin Pg .gtr 3 true v1 (I 0)) fun v3=>j2 v3 l1 h1)) fun j1=>brB (wv (g1 t) true) (j1 (.tuple []) l0 h0) (bO (len (Pg.underlying 24) v0) fun v2=>j1 v2 l0 h0)) fun j0=>brB (wv (g1 t) true) (j0 (.tuple []) l h) (j0 (g0 t) l h))
 .ret)))
def kp66:List Nat:=[0,2,3,11,32,36,48]
def rc66:RC:=(.seq (.reg fun c t l h k=>k (p2 t (.bool false)) l h)
 (.seq (.reg fun c t l h k=>k (p3 t (I 0)) l h)
 (.seq (.seq (.reg fun c t l h k=>bO (len (Pg.underlying 9) (g0 t)) fun v0=>bO (bin Pg .gtr 3 true v0 (I 0)) fun v1=>jn (fun v2 l2 h2=>jn (fun v3 l3 h3=>jn (fun v4 l4 h4=>bO (pick v1 v4 (.bool false)) fun v5=>k (p11 t v5) l4 h4) fun j4=>brB (wv v1 true) (j4 (.tuple []) l3 h3) (bO (bin Pg .eql 5 true v3 (.int .u8 (.ofNat 45))) fun v5=>j4 v5 l3 h3)) fun j3=>brB (wv v1 true) (j3 (.tuple []) l2 h2) (bO (idx Pg 9 v2 (I 0)) fun v4=>j3 v4 l2 h2)) fun j2=>brB (wv v1 true) (j2 (.tuple []) l h) (j2 (g0 t) l h))
 (.cond (.tmp 11) (.reg fun c t l h k=>k (p3 t (I 1)) l h) .skip))
 (.seq (.seq (.reg fun c t l h k=>bO (len (Pg.underlying 9) (g0 t)) fun v0=>bO (bin Pg .eql 3 false (g3 t) v0) fun v1=>jn (fun v2 l2 h2=>jn (fun v3 l3 h3=>jn (fun v4 l4 h4=>jn (fun v5 l5 h5=>jn (fun v6 l6 h6=>jn (fun v7 l7 h7=>jn (fun v8 l8 h8=>jn (fun v9 l9 h9=>jn (fun v10 l10 h10=>jn (fun v11 l11 h11=>jn (fun v12 l12 h12=>jn (fun v13 l13 h13=>jn (fun v14 l14 h14=>jn (fun v15 l15 h15=>jn (fun v16 l16 h16=>bO (pick v1 (.bool true) v16) fun v17=>k (p32 t v17) l16 h16) fun j16=>brB (wv v1 false) (j16 (.tuple []) l15 h15) (bO (pick v6 v15 (.bool false)) fun v17=>j16 v17 l15 h15)) fun j15=>brB (wv v6 true) (j15 (.tuple []) l14 h14) (bO (pick v12 (.bool true) v14) fun v16=>j15 v16 l14 h14)) fun j14=>brB (wv v12 false) (j14 (.tuple []) l13 h13) (bO (bin Pg .eql 3 true v13 (I 1)) fun v15=>j14 v15 l13 h13)) fun j13=>brB (wv v12 false) (j13 (.tuple []) l12 h12) (j13 (g3 t) l12 h12)) fun j12=>brB (wv v6 true) (j12 (.tuple []) l11 h11) (j12 v11 l11 h11)) fun j11=>brB (wv v6 true) (j11 (.tuple []) l10 h10) (bO (bin Pg .gtr 3 false v8 v10) fun v12=>j11 v12 l10 h10)) fun j10=>brB (wv v6 true) (j10 (.tuple []) l9 h9) (bO (bin Pg .add 3 true v9 (I 1)) fun v11=>j10 v11 l9 h9)) fun j9=>brB (wv v6 true) (j9 (.tuple []) l8 h8) (j9 (g3 t) l8 h8)) fun j8=>brB (wv v6 true) (j8 (.tuple []) l7 h7) (bO (len (Pg.underlying 9) v7) fun v9=>j8 v9 l7 h7)) fun j7=>brB (wv v6 true) (j7 (.tuple []) l6 h6) (j7 (g0 t) l6 h6)) fun j6=>brB (wv v1 false) (j6 (.tuple []) l5 h5) (j6 v5 l5 h5)) fun j5=>brB (wv v1 false) (j5 (.tuple []) l4 h4) (bO (bin Pg .eql 5 true v4 (.int .u8 (.ofNat 48))) fun v6=>j5 v6 l4 h4)) fun j4=>brB (wv v1 false) (j4 (.tuple []) l3 h3) (bO (idx Pg 9 v2 v3) fun v5=>j4 v5 l3 h3)) fun j3=>brB (wv v1 false) (j3 (.tuple []) l2 h2) (j3 (g3 t) l2 h2)) fun j2=>brB (wv v1 false) (j2 (.tuple []) l h) (j2 (g0 t) l h))
 (.cond (.tmp 32) (.seq (.reg fun c t l h k=>k (p2 t (.bool false)) l h)
 .ret) .skip))
 (.seq (.block 0 (.loop (.seq (.seq (.reg fun c t l h k=>bO (len (Pg.underlying 9) (g0 t)) fun v0=>bO (bin Pg .lss 3 false (g3 t) v0) fun v1=>k (p36 t v1) l h)
 (.cond (.tmp 36) .skip (.exit 0)))
 (.seq (.block 1 (.seq (.reg fun c t l h k=>bO (idx Pg 9 (g0 t) (g3 t)) fun v0=>bO (bin Pg .lss 5 true v0 (.int .u8 (.ofNat 48))) fun v1=>jn (fun v2 l2 h2=>jn (fun v3 l3 h3=>jn (fun v4 l4 h4=>jn (fun v5 l5 h5=>bO (pick v1 (.bool true) v5) fun v6=>k (p48 t v6) l5 h5) fun j5=>brB (wv v1 false) (j5 (.tuple []) l4 h4) (bO (bin Pg .gtr 5 true v4 (.int .u8 (.ofNat 57))) fun v6=>j5 v6 l4 h4)) fun j4=>brB (wv v1 false) (j4 (.tuple []) l3 h3) (bO (idx Pg 9 v2 v3) fun v5=>j4 v5 l3 h3)) fun j3=>brB (wv v1 false) (j3 (.tuple []) l2 h2) (j3 (g3 t) l2 h2)) fun j2=>brB (wv v1 false) (j2 (.tuple []) l h) (j2 (g0 t) l h))
 (.cond (.tmp 48) (.seq (.reg fun c t l h k=>k (p2 t (.bool false)) l h)
 .ret) .skip)))
 (.reg fun c t l h k=>bO (bin Pg .add 3 true (g3 t) (I 1)) fun v0=>k (p3 t v0) l h)))))
 (.seq (.reg fun c t l h k=>k (p2 t (.bool true)) l h)
 .ret))))))
def kp67:List Nat:=[0,1,4,16]
def rc67:RC:=(.seq (.reg fun c t l h k=>al Pg 31 4 l fun v0 l0=>k (p4 t v0) l0 h)
 (.seq (.block 0 (.loop (.seq (.seq (.reg fun c t l h k=>bO (len (Pg.underlying 29) (g1 t)) fun v0=>bO (bin Pg .gtr 3 true v0 (I 0)) fun v1=>jn (fun v2 l2 h2=>jn (fun v3 l3 h3=>jn (fun v4 l4 h4=>jn (fun v5 l5 h5=>jn (fun v6 l6 h6=>jn (fun v7 l7 h7=>jn (fun v8 l8 h8=>bO (pick v1 v8 (.bool false)) fun v9=>k (p16 t v9) l8 h8) fun j8=>brB (wv v1 true) (j8 (.tuple []) l7 h7) (bO (bin Pg .eql 3 true v7 (I 0)) fun v9=>j8 v9 l7 h7)) fun j7=>brB (wv v1 true) (j7 (.tuple []) l6 h6) (bO (ld Pg 3 v6 l6 h6) fun v8=>j7 v8 l6 h6)) fun j6=>brB (wv v1 true) (j6 (.tuple []) l5 h5) (bO (ia Pg 29 v2 v5) fun v7=>j6 v7 l5 h5)) fun j5=>brB (wv v1 true) (j5 (.tuple []) l4 h4) (bO (bin Pg .sub 3 true v4 (I 1)) fun v6=>j5 v6 l4 h4)) fun j4=>brB (wv v1 true) (j4 (.tuple []) l3 h3) (bO (len (Pg.underlying 29) v3) fun v5=>j4 v5 l3 h3)) fun j3=>brB (wv v1 true) (j3 (.tuple []) l2 h2) (j3 (g1 t) l2 h2)) fun j2=>brB (wv v1 true) (j2 (.tuple []) l h) (j2 (g1 t) l h))
 (.cond (.tmp 16) .skip (.exit 0)))
 (.block 1 (.reg fun c t l h k=>bO (len (Pg.underlying 29) (g1 t)) fun v0=>bO (bin Pg .sub 3 true v0 (I 1)) fun v1=>bO (slc Pg 29 (g1 t) none (some v1) none) fun v2=>k (p1 t v2) l h)))))
 (.seq (.reg fun c t l h k=>jn (fun v0 l0 h0=>jn (fun v1 l1 h1=>jn (fun v2 l2 h2=>bO (pick (g0 t) v2 (.bool false)) fun v3=>gn Try.f67 67 3 7 c (p28 (p27 t v3) (g1 t)) t l2 h2 (fun v4 l4 h4=>jn (fun v5 l5 h5=>k t l5 h5) fun j5=>sto 31 (g4 t) v4 l4 h4 j5 (gn Try.f67 67 3 8 c (p29 (p4 t (g4 t)) v4) t l4 h4 j5))) fun j2=>brB (wv (g0 t) true) (j2 (.tuple []) l1 h1) (bO (bin Pg .gtr 3 true v1 (I 0)) fun v3=>j2 v3 l1 h1)) fun j1=>brB (wv (g0 t) true) (j1 (.tuple []) l0 h0) (bO (len (Pg.underlying 29) v0) fun v2=>j1 v2 l0 h0)) fun j0=>brB (wv (g0 t) true) (j0 (.tuple []) l h) (j0 (g1 t) l h))
 .ret)))
def kp68:List Nat:=[0,2,4]
def rc68:RC:=(.seq (.reg fun c t l h k=>k (p2 t .nils) l h)
 (.seq (.seq (.reg fun c t l h k=>bO (bin Pg .eql 24 true (g0 t) .nils) fun v0=>k (p4 t v0) l h)
 (.cond (.tmp 4) (.seq (.reg fun c t l h k=>k (p2 t .nils) l h)
 .ret) .skip))
 (.seq (.reg fun c t l h k=>gn Try.f68 68 3 0 c t t l h (fun v0 l0 h0=>gn Try.f68 68 3 2 c (p6 (p5 t v0) (g0 t)) t l0 h0 (fun v1 l1 h1=>k (p2 t v1) l1 h1)))
 .ret)))
def kp69:List Nat:=[0,2,3,9]
def rc69:RC:=(.seq (.reg fun c t l h k=>bO (len (Pg.underlying 51) (g0 t)) fun v0=>bO (bin Pg .sub 3 true v0 (I 1)) fun v1=>k (p3 (p2 t (I 0)) v1) l h)
 (.block 0 (.loop (.seq (.seq (.reg fun c t l h k=>bO (bin Pg .lss 3 false (g2 t) (g3 t)) fun v0=>k (p9 t v0) l h)
 (.cond (.tmp 9) .skip (.exit 0)))
 (.seq (.block 1 (.reg fun c t l h k=>bO (ia Pg 51 (g0 t) (g3 t)) fun v0=>bO (ld Pg 5 v0 l h) fun v1=>bO (ia Pg 51 (g0 t) (g2 t)) fun v2=>bO (ld Pg 5 v2 l h) fun v3=>bO (ia Pg 51 (g0 t) (g2 t)) fun v4=>jE ((26,v4)::(25,v3)::(24,v2)::(23,(g2 t))::(22,(g0 t))::(21,v1)::(20,v0)::(19,(g3 t))::(18,(g0 t))::(17,(g3 t))::(16,(g0 t))::(15,(g2 t))::(14,(g0 t))::[]) fun e5=>jF (ft0::(ldF v2)::ft0::ft0::ft0::(ldF v0)::ft0::ft0::ft0::ft0::ft0::ft0::ft0::[]) fun q5=>gD Try.f69 69 3 13 c (p21 (p26 t v4) v1) l h (fun v5 f5 l5 h5=>bO (ia Pg 51 (g0 t) (g3 t)) fun v6=>jE ((27,v6)::e5) fun e7=>jF (ft0::f5::q5) fun q7=>gD Try.f69 69 3 15 c (p25 (p27 t v6) v3) l5 h5 (fun v7 f7 l7 h7=>Qbw (rgA Try.f69 3).toList [] [] (f7::q7) (k t l7 h7)) (sD Try.f69 69 3 c 15 none e7 q7 t l5 h5)) (sD Try.f69 69 3 c 13 none e5 q5 t l h)))
 (.reg fun c t l h k=>bO (bin Pg .add 3 true (g2 t) (I 1)) fun v0=>bO (bin Pg .sub 3 true (g3 t) (I 1)) fun v1=>k (p3 (p2 t v0) v1) l h))))))
def kp70:List Nat:=[0,2,3]
def rc70:RC:=(.seq (.reg fun c t l h k=>al Pg 31 2 l fun v0 l0=>k (p2 t v0) l0 h)
 (.seq (.reg fun c t l h k=>cl c 16 [(g0 t)] t l h fun v0 l0 h0=>bO (ext v0 0) fun v1=>bO (ext v0 1) fun v2=>al Pg 31 3 l0 fun v3 l3=>jn (fun v4 l4 h4=>k (p3 t v3) l4 h4) fun j4=>sto 31 v3 v1 l3 h0 j4 (gn Try.f70 70 1 6 c (p8 (p3 t v3) v1) t l3 h0 j4))
 (.seq (.reg fun c t l h k=>bO (ld Pg 31 (g3 t) l h) fun v0=>jn (fun v1 l1 h1=>k t l1 h1) fun j1=>sto 31 (g2 t) v0 l h j1 (gn Try.f70 70 2 1 c (p10 (p2 t (g2 t)) v0) t l h j1))
 .ret)))
def kp71:List Nat:=[0,1,4,5,6,7,13,14,15,20,31]
def rc71:RC:=(.seq (.reg fun c t l h k=>k (p4 t .nils) l h)
 (.seq (.reg fun c t l h k=>k (p5 t .nils) l h)
 (.seq (.reg fun c t l h k=>k (p6 t (.int .u64 (.ofNat 0))) l h)
 (.seq (.seq (.reg fun c t l h k=>bO (len (Pg.underlying 24) (g0 t)) fun v0=>bO (len (Pg.underlying 24) (g1 t)) fun v1=>bO (mxV v0 v1) fun v2=>bO (bin Pg .add 3 true v2 (I 1)) fun v3=>k (p14 (p13 t v3) (I 0)) l h)
 (.block 0 (.loop (.seq (.reg fun c t l h k=>bO (bin Pg .lss 3 false (g14 t) (g13 t)) fun v0=>k (p15 t v0) l h)
 (.seq (.cond (.tmp 15) .skip (.exit 0))
 (.seq (.block 1 (.seq (.reg fun c t l h k=>k (p7 t (g14 t)) l h)
 (.seq (.seq (.reg fun c t l h k=>bO (len (Pg.underlying 24) (g0 t)) fun v0=>bO (bin Pg .lss 3 false (g7 t) v0) fun v1=>k (p20 t v1) l h)
 (.cond (.tmp 20) (.reg fun c t l h k=>bO (ia Pg 24 (g0 t) (g7 t)) fun v0=>bO (ld Pg 86 v0 l h) fun v1=>gn Try.f71 71 7 5 c (p25 t v1) t l h (fun v2 l2 h2=>bO (bin Pg .add 80 false (g6 t) v2) fun v3=>k (p6 t v3) l2 h2)) .skip))
 (.seq (.seq (.reg fun c t l h k=>bO (len (Pg.underlying 24) (g1 t)) fun v0=>bO (bin Pg .lss 3 false (g7 t) v0) fun v1=>k (p31 t v1) l h)
 (.cond (.tmp 31) (.reg fun c t l h k=>bO (ia Pg 24 (g1 t) (g7 t)) fun v0=>bO (ld Pg 86 v0 l h) fun v1=>gn Try.f71 71 9 5 c (p36 t v1) t l h (fun v2 l2 h2=>bO (bin Pg .add 80 false (g6 t) v2) fun v3=>k (p6 t v3) l2 h2)) .skip))
 (.seq (.reg fun c t l h k=>gn Try.f71 71 10 2 c (p40 t (g6 t)) t l h (fun v0 l0 h0=>gn Try.f71 71 10 3 c (p41 t v0) t l0 h0 (fun v1 l1 h1=>gn Try.f71 71 10 4 c (p42 (p39 t (g5 t)) v1) t l1 h1 (fun v2 l2 h2=>k (p5 t v2) l2 h2))))
 (.reg fun c t l h k=>bO (bin Pg .shr 80 true (g6 t) (.int .u64 (.ofNat 32))) fun v0=>k (p6 t v0) l h))))))
 (.reg fun c t l h k=>bO (bin Pg .add 3 true (g14 t) (I 1)) fun v0=>k (p14 t v0) l h)))))))
 (.seq (.reg fun c t l h k=>k (p4 t (g5 t)) l h)
 .ret)))))
def kp72:List Nat:=[0,1,4,5,10,22,25,35]
def rc72:RC:=(.seq (.reg fun c t l h k=>k (p4 t (I 0)) l h)
 (.seq (.seq (.reg fun c t l h k=>bO (len (Pg.underlying 24) (g0 t)) fun v0=>bO (len (Pg.underlying 24) (g1 t)) fun v1=>bO (bin Pg .neq 3 false v0 v1) fun v2=>k (p10 t v2) l h)
 (.cond (.tmp 10) (.seq (.reg fun c t l h k=>bO (len (Pg.underlying 24) (g0 t)) fun v0=>bO (len (Pg.underlying 24) (g1 t)) fun v1=>bO (bin Pg .sub 3 false v0 v1) fun v2=>bO (mxV v2 (.int .i64 (.negSucc 0))) fun v3=>bO (mnV v3 (I 1)) fun v4=>k (p4 t v4) l h)
 .ret) .skip))
 (.seq (.seq (.reg fun c t l h k=>bO (len (Pg.underlying 24) (g0 t)) fun v0=>bO (bin Pg .sub 3 true v0 (I 1)) fun v1=>k (p5 t v1) l h)
 (.block 0 (.loop (.seq (.seq (.reg fun c t l h k=>bO (bin Pg .geq 3 true (g5 t) (I 0)) fun v0=>k (p22 t v0) l h)
 (.cond (.tmp 22) .skip (.exit 0)))
 (.seq (.block 1 (.block 2 (.seq (.reg fun c t l h k=>bO (ia Pg 24 (g0 t) (g5 t)) fun v0=>bO (ld Pg 86 v0 l h) fun v1=>bO (ia Pg 24 (g1 t) (g5 t)) fun v2=>bO (ld Pg 86 v2 l h) fun v3=>bO (bin Pg .lss 86 false v1 v3) fun v4=>k (p25 t v4) l h)
 (.cond (.tmp 25) (.seq (.reg fun c t l h k=>k (p4 t (.int .i64 (.negSucc 0))) l h)
 .ret) (.seq (.reg fun c t l h k=>bO (ia Pg 24 (g0 t) (g5 t)) fun v0=>bO (ld Pg 86 v0 l h) fun v1=>bO (ia Pg 24 (g1 t) (g5 t)) fun v2=>bO (ld Pg 86 v2 l h) fun v3=>bO (bin Pg .gtr 86 false v1 v3) fun v4=>k (p35 t v4) l h)
 (.cond (.tmp 35) (.seq (.reg fun c t l h k=>k (p4 t (I 1)) l h)
 .ret) .skip))))))
 (.reg fun c t l h k=>bO (bin Pg .sub 3 true (g5 t) (I 1)) fun v0=>k (p5 t v0) l h))))))
 (.seq (.reg fun c t l h k=>k (p4 t (I 0)) l h)
 .ret))))
def kp73:List Nat:=[0,1,4,5,6,7,8,9,10,11,12,13,20]
def rc73:RC:=(.seq (.reg fun c t l h k=>k (p4 t .nils) l h)
 (.seq (.reg fun c t l h k=>k (p5 t .nils) l h)
 (.seq (.reg fun c t l h k=>k (p6 t (.int .u32 (.ofNat 0))) l h)
 (.seq (.seq (.reg fun c t l h k=>bO (len (Pg.underlying 24) (g0 t)) fun v0=>k (p12 (p11 (p10 t (g0 t)) v0) (I 0)) l h)
 (.block 0 (.loop (.seq (.reg fun c t l h k=>bO (bin Pg .lss 3 false (g12 t) (g11 t)) fun v0=>k (p13 t v0) l h)
 (.seq (.cond (.tmp 13) .skip (.exit 0))
 (.seq (.block 1 (.seq (.reg fun c t l h k=>bO (ia Pg 24 (g10 t) (g12 t)) fun v0=>bO (ld Pg 86 v0 l h) fun v1=>k (p8 (p7 t (g12 t)) v1) l h)
 (.seq (.reg fun c t l h k=>k (p9 t (.int .u32 (.ofNat 0))) l h)
 (.seq (.seq (.reg fun c t l h k=>bO (len (Pg.underlying 24) (g1 t)) fun v0=>bO (bin Pg .lss 3 false (g7 t) v0) fun v1=>k (p20 t v1) l h)
 (.cond (.tmp 20) (.reg fun c t l h k=>bO (ia Pg 24 (g1 t) (g7 t)) fun v0=>bO (ld Pg 86 v0 l h) fun v1=>k (p9 t v1) l h) .skip))
 (.seq (.reg fun c t l h k=>cl c 83 [(g8 t),(g9 t),(g6 t)] t l h fun v0 l0 h0=>bO (ext v0 0) fun v1=>bO (ext v0 1) fun v2=>k (p6 (p8 t v1) v2) l0 h0)
 (.reg fun c t l h k=>gn Try.f73 73 10 2 c (p33 t (g8 t)) t l h (fun v0 l0 h0=>gn Try.f73 73 10 3 c (p34 (p32 t (g5 t)) v0) t l0 h0 (fun v1 l1 h1=>k (p5 t v1) l1 h1))))))))
 (.reg fun c t l h k=>bO (bin Pg .add 3 true (g12 t) (I 1)) fun v0=>k (p12 t v0) l h)))))))
 (.seq (.reg fun c t l h k=>k (p4 t (g5 t)) l h)
 .ret)))))
def kp74:List Nat:=[0,1,4,5,6,7,21,27,37]
def rc74:RC:=(.seq (.reg fun c t l h k=>k (p4 t .nils) l h)
 (.seq (.reg fun c t l h k=>k (p5 t .nils) l h)
 (.seq (.reg fun c t l h k=>k (p6 t (I 0)) l h)
 (.seq (.seq (.reg fun c t l h k=>k (p7 t (I 0)) l h)
 (.block 0 (.loop (.seq (.seq (.reg fun c t l h k=>bO (len (Pg.underlying 29) (g0 t)) fun v0=>bO (bin Pg .lss 3 false (g7 t) v0) fun v1=>jn (fun v2 l2 h2=>jn (fun v3 l3 h3=>jn (fun v4 l4 h4=>jn (fun v5 l5 h5=>bO (pick v1 (.bool true) v5) fun v6=>jn (fun v7 l7 h7=>jn (fun v8 l8 h8=>bO (pick v6 (.bool true) v8) fun v9=>k (p21 t v9) l8 h8) fun j8=>brB (wv v6 false) (j8 (.tuple []) l7 h7) (bO (bin Pg .gtr 3 true v7 (I 0)) fun v9=>j8 v9 l7 h7)) fun j7=>brB (wv v6 false) (j7 (.tuple []) l5 h5) (j7 (g6 t) l5 h5)) fun j5=>brB (wv v1 false) (j5 (.tuple []) l4 h4) (bO (bin Pg .lss 3 false v2 v4) fun v6=>j5 v6 l4 h4)) fun j4=>brB (wv v1 false) (j4 (.tuple []) l3 h3) (bO (len (Pg.underlying 29) v3) fun v5=>j4 v5 l3 h3)) fun j3=>brB (wv v1 false) (j3 (.tuple []) l2 h2) (j3 (g1 t) l2 h2)) fun j2=>brB (wv v1 false) (j2 (.tuple []) l h) (j2 (g7 t) l h))
 (.cond (.tmp 21) .skip (.exit 0)))
 (.seq (.block 1 (.seq (.seq (.reg fun c t l h k=>bO (len (Pg.underlying 29) (g0 t)) fun v0=>bO (bin Pg .lss 3 false (g7 t) v0) fun v1=>k (p27 t v1) l h)
 (.cond (.tmp 27) (.reg fun c t l h k=>bO (ia Pg 29 (g0 t) (g7 t)) fun v0=>bO (ld Pg 3 v0 l h) fun v1=>bO (bin Pg .add 3 false (g6 t) v1) fun v2=>k (p6 t v2) l h) .skip))
 (.seq (.seq (.reg fun c t l h k=>bO (len (Pg.underlying 29) (g1 t)) fun v0=>bO (bin Pg .lss 3 false (g7 t) v0) fun v1=>k (p37 t v1) l h)
 (.cond (.tmp 37) (.reg fun c t l h k=>bO (ia Pg 29 (g1 t) (g7 t)) fun v0=>bO (ld Pg 3 v0 l h) fun v1=>bO (bin Pg .add 3 false (g6 t) v1) fun v2=>k (p6 t v2) l h) .skip))
 (.seq (.reg fun c t l h k=>bO (bin Pg .rem 3 true (g6 t) (I 10000)) fun v0=>bO (bs Pg 29 1 [(0,v0)]) fun v1=>gn Try.f74 74 10 4 c (p47 (p44 t (g5 t)) v1) t l h (fun v2 l2 h2=>k (p5 t v2) l2 h2))
 (.reg fun c t l h k=>bO (bin Pg .quo 3 true (g6 t) (I 10000)) fun v0=>k (p6 t v0) l h)))))
 (.reg fun c t l h k=>bO (bin Pg .add 3 true (g7 t) (I 1)) fun v0=>k (p7 t v0) l h))))))
 (.seq (.reg fun c t l h k=>k (p4 t (g5 t)) l h)
 .ret)))))
def kp75:List Nat:=[0,1,4,5,10,15,20,31,40]
def rc75:RC:=(.seq (.reg fun c t l h k=>k (p4 t (I 0)) l h)
 (.seq (.seq (.reg fun c t l h k=>bO (len (Pg.underlying 29) (g0 t)) fun v0=>bO (len (Pg.underlying 29) (g1 t)) fun v1=>bO (bin Pg .neq 3 false v0 v1) fun v2=>k (p10 t v2) l h)
 (.cond (.tmp 10) (.seq (.seq (.reg fun c t l h k=>bO (len (Pg.underlying 29) (g0 t)) fun v0=>bO (len (Pg.underlying 29) (g1 t)) fun v1=>bO (bin Pg .lss 3 false v0 v1) fun v2=>k (p15 t v2) l h)
 (.cond (.tmp 15) (.seq (.reg fun c t l h k=>k (p4 t (.int .i64 (.negSucc 0))) l h)
 .ret) .skip))
 (.seq (.reg fun c t l h k=>k (p4 t (I 1)) l h)
 .ret)) .skip))
 (.seq (.seq (.reg fun c t l h k=>bO (len (Pg.underlying 29) (g0 t)) fun v0=>bO (bin Pg .sub 3 true v0 (I 1)) fun v1=>k (p5 t v1) l h)
 (.block 0 (.loop (.seq (.seq (.reg fun c t l h k=>bO (bin Pg .geq 3 true (g5 t) (I 0)) fun v0=>k (p20 t v0) l h)
 (.cond (.tmp 20) .skip (.exit 0)))
 (.seq (.block 1 (.seq (.seq (.reg fun c t l h k=>bO (ia Pg 29 (g0 t) (g5 t)) fun v0=>bO (ld Pg 3 v0 l h) fun v1=>bO (ia Pg 29 (g1 t) (g5 t)) fun v2=>bO (ld Pg 3 v2 l h) fun v3=>bO (bin Pg .lss 3 false v1 v3) fun v4=>k (p31 t v4) l h)
 (.cond (.tmp 31) (.seq (.reg fun c t l h k=>k (p4 t (.int .i64 (.negSucc 0))) l h)
 .ret) .skip))
 (.seq (.reg fun c t l h k=>bO (ia Pg 29 (g0 t) (g5 t)) fun v0=>bO (ld Pg 3 v0 l h) fun v1=>bO (ia Pg 29 (g1 t) (g5 t)) fun v2=>bO (ld Pg 3 v2 l h) fun v3=>bO (bin Pg .gtr 3 false v1 v3) fun v4=>k (p40 t v4) l h)
 (.cond (.tmp 40) (.seq (.reg fun c t l h k=>k (p4 t (I 1)) l h)
 .ret) .skip))))
 (.reg fun c t l h k=>bO (bin Pg .sub 3 true (g5 t) (I 1)) fun v0=>k (p5 t v0) l h))))))
 (.seq (.reg fun c t l h k=>k (p4 t (I 0)) l h)
 .ret))))
def kp76:List Nat:=[0,1,4,5,6,7,8,12,24,32]
def rc76:RC:=(.seq (.reg fun c t l h k=>k (p4 t .nils) l h)
 (.seq (.reg fun c t l h k=>k (p5 t .nils) l h)
 (.seq (.reg fun c t l h k=>k (p6 t (I 0)) l h)
 (.seq (.seq (.reg fun c t l h k=>k (p7 t (I 0)) l h)
 (.block 0 (.loop (.seq (.seq (.reg fun c t l h k=>bO (len (Pg.underlying 29) (g0 t)) fun v0=>bO (bin Pg .lss 3 false (g7 t) v0) fun v1=>k (p12 t v1) l h)
 (.cond (.tmp 12) .skip (.exit 0)))
 (.seq (.block 1 (.seq (.reg fun c t l h k=>bO (ia Pg 29 (g0 t) (g7 t)) fun v0=>bO (ld Pg 3 v0 l h) fun v1=>bO (bin Pg .sub 3 false v1 (g6 t)) fun v2=>k (p8 t v2) l h)
 (.seq (.seq (.reg fun c t l h k=>bO (len (Pg.underlying 29) (g1 t)) fun v0=>bO (bin Pg .lss 3 false (g7 t) v0) fun v1=>k (p24 t v1) l h)
 (.cond (.tmp 24) (.reg fun c t l h k=>bO (ia Pg 29 (g1 t) (g7 t)) fun v0=>bO (ld Pg 3 v0 l h) fun v1=>bO (bin Pg .sub 3 false (g8 t) v1) fun v2=>k (p8 t v2) l h) .skip))
 (.seq (.reg fun c t l h k=>k (p6 t (I 0)) l h)
 (.seq (.seq (.reg fun c t l h k=>bO (bin Pg .lss 3 true (g8 t) (I 0)) fun v0=>k (p32 t v0) l h)
 (.cond (.tmp 32) (.reg fun c t l h k=>bO (bin Pg .add 3 true (g8 t) (I 10000)) fun v0=>k (p6 (p8 t v0) (I 1)) l h) .skip))
 (.reg fun c t l h k=>bO (bs Pg 29 1 [(0,(g8 t))]) fun v0=>gn Try.f76 76 12 3 c (p37 (p35 t (g5 t)) v0) t l h (fun v1 l1 h1=>k (p5 t v1) l1 h1)))))))
 (.reg fun c t l h k=>bO (bin Pg .add 3 true (g7 t) (I 1)) fun v0=>k (p7 t v0) l h))))))
 (.seq (.reg fun c t l h k=>k (p4 t (g5 t)) l h)
 .ret)))))
def kp77:List Nat:=[0,2,3]
def rc77:RC:=(.seq (.reg fun c t l h k=>k (p2 t (I 0)) l h)
 (.seq (.seq (.reg fun c t l h k=>k (p3 t (g0 t)) l h)
 (.cond (.tmp 3) (.seq (.reg fun c t l h k=>k (p2 t (I 1)) l h)
 .ret) .skip))
 (.seq (.reg fun c t l h k=>k (p2 t (I 0)) l h)
 .ret)))
def kp78:List Nat:=[0,1,4,5,6,7,8,9,10,11,12,13,14,15,18,26,88,126]
def rc78:RC:=(.seq (.reg fun c t l h k=>k (p5 (p4 t .nils) .nils) l h)
 (.seq (.seq (.reg fun c t l h k=>bO (len (Pg.underlying 24) (g1 t)) fun v0=>bO (bin Pg .eql 3 true v0 (I 1)) fun v1=>k (p18 t v1) l h)
 (.cond (.tmp 18) (.seq (.reg fun c t l h k=>bO (len (Pg.underlying 24) (g0 t)) fun v0=>gn Try.f78 78 2 2 c (p20 (p20 t v0) v0) t l h (fun v1 l1 h1=>k (p7 (p6 t v1) (.int .u64 (.ofNat 0))) l1 h1))
 (.seq (.seq (.reg fun c t l h k=>bO (len (Pg.underlying 24) (g0 t)) fun v0=>bO (bin Pg .sub 3 true v0 (I 1)) fun v1=>k (p8 t v1) l h)
 (.block 0 (.loop (.seq (.seq (.reg fun c t l h k=>bO (bin Pg .geq 3 true (g8 t) (I 0)) fun v0=>k (p26 t v0) l h)
 (.cond (.tmp 26) .skip (.exit 0)))
 (.seq (.block 1 (.seq (.reg fun c t l h k=>bO (bin Pg .shl 80 true (g7 t) (.int .u64 (.ofNat 32))) fun v0=>bO (ia Pg 24 (g0 t) (g8 t)) fun v1=>bO (ld Pg 86 v1 l h) fun v2=>gn Try.f78 78 6 6 c (p34 t v2) t l h (fun v3 l3 h3=>bO (bin Pg .or 80 false v0 v3) fun v4=>k (p7 t v4) l3 h3))
 (.seq (.reg fun c t l h k=>bO (ia Pg 24 (g1 t) (I 0)) fun v0=>bO (ld Pg 86 v0 l h) fun v1=>gn Try.f78 78 7 6 c (p42 t v1) t l h (fun v2 l2 h2=>bO (bin Pg .quo 80 false (g7 t) v2) fun v3=>gn Try.f78 78 7 8 c (p44 t v3) t l2 h2 (fun v4 l4 h4=>bO (ia Pg 24 (g6 t) (g8 t)) fun v5=>jn (fun v6 l6 h6=>k t l6 h6) fun j6=>sto 86 v5 v4 l4 h4 j6 (gn Try.f78 78 7 10 c (p45 (p46 t v5) v4) t l4 h4 j6))))
 (.reg fun c t l h k=>bO (ia Pg 24 (g1 t) (I 0)) fun v0=>bO (ld Pg 86 v0 l h) fun v1=>gn Try.f78 78 8 4 c (p50 t v1) t l h (fun v2 l2 h2=>bO (bin Pg .rem 80 false (g7 t) v2) fun v3=>k (p7 t v3) l2 h2)))))
 (.reg fun c t l h k=>bO (bin Pg .sub 3 true (g8 t) (I 1)) fun v0=>k (p8 t v0) l h))))))
 (.seq (.reg fun c t l h k=>gn Try.f78 78 9 2 c (p54 t (g7 t)) t l h (fun v0 l0 h0=>gn Try.f78 78 9 3 c (p55 t v0) t l0 h0 (fun v1 l1 h1=>cl c 65 [v1,(.bool false)] t l1 h1 fun v2 l2 h2=>bO (fld Pg 26 v2 0) fun v3=>k (p5 (p4 t (g6 t)) v3) l2 h2)))
 .ret))) .skip))
 (.seq (.reg fun c t l h k=>bO (len (Pg.underlying 24) (g1 t)) fun v0=>bO (bin Pg .sub 3 true v0 (I 1)) fun v1=>bO (ia Pg 24 (g1 t) v1) fun v2=>bO (ld Pg 86 v2 l h) fun v3=>cl c 84 [v3] t l h fun v4 l4 h4=>gn Try.f78 78 10 7 c (p65 t v4) t l4 h4 (fun v5 l5 h5=>k (p9 t v5) l5 h5))
 (.seq (.reg fun c t l h k=>cl c 85 [(g1 t),(g9 t)] t l h fun v0 l0 h0=>bO (len (Pg.underlying 24) (g1 t)) fun v1=>bO (slc Pg 24 v0 none (some v1) none) fun v2=>k (p1 t v2) l0 h0)
 (.seq (.reg fun c t l h k=>cl c 85 [(g0 t),(g9 t)] t l h fun v0 l0 h0=>k (p10 t v0) l0 h0)
 (.seq (.reg fun c t l h k=>bO (len (Pg.underlying 24) (g0 t)) fun v0=>gn Try.f78 78 13 2 c (p77 (p77 t v0) v0) t l h (fun v1 l1 h1=>k (p11 t v1) l1 h1))
 (.seq (.reg fun c t l h k=>bO (len (Pg.underlying 24) (g1 t)) fun v0=>bO (bin Pg .sub 3 true v0 (I 1)) fun v1=>k (p12 t v1) l h)
 (.seq (.seq (.reg fun c t l h k=>bO (len (Pg.underlying 24) (g0 t)) fun v0=>bO (len (Pg.underlying 24) (g1 t)) fun v1=>bO (bin Pg .sub 3 false v0 v1) fun v2=>k (p13 t v2) l h)
 (.block 2 (.loop (.seq (.seq (.reg fun c t l h k=>bO (bin Pg .geq 3 true (g13 t) (I 0)) fun v0=>k (p88 t v0) l h)
 (.cond (.tmp 88) .skip (.exit 2)))
 (.seq (.block 3 (.seq (.reg fun c t l h k=>bO (bin Pg .add 3 false (g13 t) (g12 t)) fun v0=>bO (bin Pg .add 3 true v0 (I 1)) fun v1=>bO (ia Pg 24 (g10 t) v1) fun v2=>bO (ld Pg 86 v2 l h) fun v3=>jE ((97,v3)::(96,v2)::(95,v1)::(94,v0)::(93,(g12 t))::(92,(g13 t))::(91,(g10 t))::[]) fun e4=>jF ((ldF v2)::ft0::ft0::ft0::ft0::ft0::ft0::[]) fun q4=>gD Try.f78 78 18 7 c (p97 t v3) l h (fun v4 f4 l4 h4=>bO (bin Pg .shl 80 true v4 (.int .u64 (.ofNat 32))) fun v5=>bO (bin Pg .add 3 false (g13 t) (g12 t)) fun v6=>bO (ia Pg 24 (g10 t) v6) fun v7=>bO (ld Pg 86 v7 l4 h4) fun v8=>jE ((105,v8)::(104,v7)::(103,v6)::(102,(g12 t))::(101,(g13 t))::(100,(g10 t))::(99,v5)::(98,v4)::e4) fun e9=>jF ((ldF v7)::ft0::ft0::ft0::ft0::ft0::ft0::f4::q4) fun q9=>gD Try.f78 78 18 15 c (p105 t v8) l4 h4 (fun v9 f9 l9 h9=>bO (bin Pg .or 80 false v5 v9) fun v10=>Qbw (rgA Try.f78 18).toList [] [] (ft0::ft0::f9::q9) (k (p14 t v10) l9 h9)) (sD Try.f78 78 18 c 15 (some 106) e9 q9 t l4 h4)) (sD Try.f78 78 18 c 7 (some 98) e4 q4 t l h))
 (.seq (.reg fun c t l h k=>bO (ia Pg 24 (g1 t) (g12 t)) fun v0=>bO (ld Pg 86 v0 l h) fun v1=>gn Try.f78 78 19 5 c (p112 t v1) t l h (fun v2 l2 h2=>bO (bin Pg .quo 80 false (g14 t) v2) fun v3=>bO (mnV v3 (.int .u64 (.ofNat 4294967295))) fun v4=>k (p15 t v4) l2 h2))
 (.seq (.block 4 (.loop (.seq (.seq (.reg fun c t l h k=>bO (bin Pg .add 3 false (g13 t) (g12 t)) fun v0=>bO (bin Pg .add 3 true v0 (I 2)) fun v1=>bO (slc Pg 24 (g10 t) (some (g13 t)) (some v1) none) fun v2=>cl c 86 [v2,(g1 t),(g15 t)] t l h fun v3 l3 h3=>bO (G.un .not v3) fun v4=>k (p126 t v4) l3 h3)
 (.cond (.tmp 126) .skip (.exit 4)))
 (.block 5 (.reg fun c t l h k=>bO (bin Pg .sub 80 true (g15 t) (.int .u64 (.ofNat 1))) fun v0=>k (p15 t v0) l h)))))
 (.reg fun c t l h k=>gn Try.f78 78 22 3 c (p131 t (g15 t)) t l h (fun v0 l0 h0=>bO (ia Pg 24 (g11 t) (g13 t)) fun v1=>jn (fun v2 l2 h2=>k t l2 h2) fun j2=>sto 86 v1 v0 l0 h0 j2 (gn Try.f78 78 22 5 c (qyU (qyT t v1) v0) t l0 h0 j2)))))))
 (.reg fun c t l h k=>bO (bin Pg .sub 3 true (g13 t) (I 1)) fun v0=>k (p13 t v0) l h))))))
 (.seq (.reg fun c t l h k=>cl c 87 [(g10 t),(g9 t)] t l h fun v0 l0 h0=>cl c 65 [v0,(.bool false)] t l0 h0 fun v1 l1 h1=>bO (fld Pg 26 v1 0) fun v2=>k (p5 (p4 t (g11 t)) v2) l1 h1)
 .ret)))))))))
def kp79:List Nat:=[0,1,4,5,6,7,8,9,10,11,16,31,41]
def rc79:RC:=(.seq (.reg fun c t l h k=>k (p5 (p4 t .nils) .nils) l h)
 (.seq (.reg fun c t l h k=>k (p7 (p6 t .nils) .nils) l h)
 (.seq (.seq (.reg fun c t l h k=>bO (len (Pg.underlying 29) (g0 t)) fun v0=>bO (bin Pg .sub 3 true v0 (I 1)) fun v1=>k (p8 t v1) l h)
 (.block 0 (.loop (.seq (.seq (.reg fun c t l h k=>bO (bin Pg .geq 3 true (g8 t) (I 0)) fun v0=>k (p16 t v0) l h)
 (.cond (.tmp 16) .skip (.exit 0)))
 (.seq (.block 1 (.seq (.reg fun c t l h k=>bO (ia Pg 29 (g0 t) (g8 t)) fun v0=>bO (ld Pg 3 v0 l h) fun v1=>bO (bs Pg 29 1 [(0,v1)]) fun v2=>gn Try.f79 79 5 6 c (p24 (p23 t v2) (g7 t)) t l h (fun v3 l3 h3=>cl c 67 [(.bool false),v3] t l3 h3 fun v4 l4 h4=>bO (fld Pg 31 v4 1) fun v5=>k (p7 t v5) l4 h4))
 (.seq (.reg fun c t l h k=>k (p10 (p9 t (I 0)) (I 10000)) l h)
 (.seq (.block 2 (.loop (.seq (.seq (.reg fun c t l h k=>bO (bin Pg .sub 3 false (g10 t) (g9 t)) fun v0=>bO (bin Pg .gtr 3 true v0 (I 1)) fun v1=>k (p31 t v1) l h)
 (.cond (.tmp 31) .skip (.exit 2)))
 (.block 3 (.seq (.reg fun c t l h k=>bO (bin Pg .add 3 false (g9 t) (g10 t)) fun v0=>bO (bin Pg .quo 3 true v0 (I 2)) fun v1=>k (p11 t v1) l h)
 (.seq (.reg fun c t l h k=>cl c 88 [(g1 t),(g11 t)] t l h fun v0 l0 h0=>cl c 75 [v0,(g7 t)] t l0 h0 fun v1 l1 h1=>bO (bin Pg .leq 3 true v1 (I 0)) fun v2=>k (p41 t v2) l1 h1)
 (.cond (.tmp 41) (.reg fun c t l h k=>k (p9 t (g11 t)) l h) (.reg fun c t l h k=>k (p10 t (g11 t)) l h))))))))
 (.seq (.reg fun c t l h k=>bO (bs Pg 29 1 [(0,(g9 t))]) fun v0=>gn Try.f79 79 12 3 c (p46 (p45 t v0) (g6 t)) t l h (fun v1 l1 h1=>k (p6 t v1) l1 h1))
 (.reg fun c t l h k=>cl c 88 [(g1 t),(g9 t)] t l h fun v0 l0 h0=>cl c 76 [(g7 t),v0] t l0 h0 fun v1 l1 h1=>cl c 67 [(.bool false),v1] t l1 h1 fun v2 l2 h2=>bO (fld Pg 31 v2 1) fun v3=>k (p7 t v3) l2 h2))))))
 (.reg fun c t l h k=>bO (bin Pg .sub 3 true (g8 t) (I 1)) fun v0=>k (p8 t v0) l h))))))
 (.seq (.reg fun c t l h k=>k (p5 (p4 t (g6 t)) (g7 t)) l h)
 .ret))))
def kp80:List Nat:=[0,1,2,7]
def rc80:RC:=(.seq (.reg fun c t l h k=>gn Try.f80 80 0 0 c (p0 t (g0 t)) t l h (fun v0 l0 h0=>k (p2 (p1 t v0) (.str ⟨0,0⟩)) l0 h0))
 (.seq (.seq (.reg fun c t l h k=>bO (fa Pg 63 (g1 t) 1) fun v0=>bO (ld Pg 31 v0 l h) fun v1=>jE ((4,v1)::(3,v0)::[]) fun e2=>jF ((ldF v0)::ft0::[]) fun q2=>clD c 22 [(I 1)] l h (fun v2 f2 l2 h2=>jE ((5,v2)::e2) fun e3=>jF (f2::q2) fun q3=>clD c 34 [v1,v2] l2 h2 (fun v3 f3 l3 h3=>bO (bin Pg .eql 3 true v3 (I 0)) fun v4=>Qbw (rgA Try.f80 1).toList [] [(1,2)] (ft0::f3::q3) (k (p7 t v4) l3 h3)) (sD Try.f80 80 1 c 3 (some 6) e3 q3 t l2 h2)) (sD Try.f80 80 1 c 2 (some 5) e2 q2 t l h))
 (.cond (.tmp 7) (.seq (.reg fun c t l h k=>bO (fa Pg 63 (g1 t) 0) fun v0=>bO (ld Pg 31 v0 l h) fun v1=>cl c 23 [v1] t l h fun v2 l2 h2=>k (p2 t v2) l2 h2)
 .ret) .skip))
 (.seq (.reg fun c t l h k=>bO (fa Pg 63 (g1 t) 0) fun v0=>bO (ld Pg 31 v0 l h) fun v1=>jE ((12,v1)::(11,v0)::[]) fun e2=>jF ((ldF v0)::ft0::[]) fun q2=>clD c 23 [v1] l h (fun v2 f2 l2 h2=>bO (bin Pg .add 9 true v2 (.str ⟨1,47⟩)) fun v3=>bO (fa Pg 63 (g1 t) 1) fun v4=>bO (ld Pg 31 v4 l2 h2) fun v5=>jE ((16,v5)::(15,v4)::(14,v3)::(13,v2)::e2) fun e6=>jF ((ldF v4)::ft0::ft0::f2::q2) fun q6=>clD c 23 [v5] l2 h2 (fun v6 f6 l6 h6=>bO (bin Pg .add 9 false v3 v6) fun v7=>Qbw (rgA Try.f80 3).toList [] [(2,5)] (ft0::ft0::f6::q6) (k (p2 t v7) l6 h6)) (sD Try.f80 80 3 c 6 (some 17) e6 q6 t l2 h2)) (sD Try.f80 80 3 c 2 (some 13) e2 q2 t l h))
 .ret)))
def kp81:List Nat:=[0,1,2,3,4,6]
def rc81:RC:=(.seq (.reg fun c t l h k=>gn Try.f81 81 0 0 c (p0 t (g0 t)) t l h (fun v0 l0 h0=>gn Try.f81 81 0 1 c (p1 t (g1 t)) t l0 h0 (fun v1 l1 h1=>al Pg 59 6 l1 fun v2 l2=>k (p6 (p4 (p3 t v0) v1) v2) l2 h1)))
 (.seq (.reg fun c t l h k=>bO (fa Pg 59 (g4 t) 0) fun v0=>bO (ld Pg 26 v0 l h) fun v1=>bO (ld Pg 59 (g3 t) l h) fun v2=>jE ((10,v2)::(9,v1)::(8,v0)::(7,(g2 t))::[]) fun e3=>jF ((ldF (g3 t))::(ldF v0)::ft0::ft0::[]) fun q3=>clD c 48 [v2] l h (fun v3 f3 l3 h3=>jE ((11,v3)::e3) fun e4=>jF (f3::q3) fun q4=>clD c 29 [v1,v3] l3 h3 (fun v4 f4 l4 h4=>jE ((12,v4)::e4) fun e5=>jF (f4::q4) fun q5=>gD Try.f81 81 1 6 c (p12 (p7 t (g2 t)) v4) l4 h4 (fun v5 f5 l5 h5=>bO (ld Pg 59 (g3 t) l5 h5) fun v6=>jE ((14,v6)::(13,v5)::e5) fun e7=>jF ((ldF (g3 t))::f5::q5) fun q7=>clD c 48 [v6] l5 h5 (fun v7 f7 l7 h7=>bO (ld Pg 59 (g4 t) l7 h7) fun v8=>jE ((16,v8)::(15,v7)::e7) fun e9=>jF ((ldF (g4 t))::f7::q7) fun q9=>clD c 48 [v8] l7 h7 (fun v9 f9 l9 h9=>jE ((17,v9)::e9) fun e10=>jF (f9::q9) fun q10=>clD c 29 [v7,v9] l9 h9 (fun v10 f10 l10 h10=>jE ((18,v10)::e10) fun e11=>jF (f10::q10) fun q11=>clD c 82 [v5,v10] l10 h10 (fun v11 f11 l11 h11=>jE ((19,v11)::e11) fun e12=>jF (f11::q11) fun q12=>gD Try.f81 81 1 13 c (p19 (p6 t (g6 t)) v11) l11 h11 (fun v12 f12 l12 h12=>Qbw (rgA Try.f81 1).toList [] [(2,4),(4,7),(5,7),(6,7),(4,9),(5,9),(6,9),(8,9)] (f12::q12) (k t l12 h12)) (sD Try.f81 81 1 c 13 none e12 q12 t l11 h11)) (sD Try.f81 81 1 c 12 (some 19) e11 q11 t l10 h10)) (sD Try.f81 81 1 c 11 (some 18) e10 q10 t l9 h9)) (sD Try.f81 81 1 c 10 (some 17) e9 q9 t l7 h7)) (sD Try.f81 81 1 c 8 (some 15) e7 q7 t l5 h5)) (sD Try.f81 81 1 c 6 (some 13) e5 q5 t l4 h4)) (sD Try.f81 81 1 c 5 (some 12) e4 q4 t l3 h3)) (sD Try.f81 81 1 c 4 (some 11) e3 q3 t l h))
 .ret))
def kp82:List Nat:=[0,1,2,3,4,5]
def rc82:RC:=(.seq (.reg fun c t l h k=>gn Try.f82 82 0 0 c (p0 t (g0 t)) t l h (fun v0 l0 h0=>gn Try.f82 82 0 1 c (p1 t (g1 t)) t l0 h0 (fun v1 l1 h1=>al Pg 59 4 l1 fun v2 l2=>k (p4 (p3 (p2 t v0) v1) v2) l2 h1)))
 (.seq (.reg fun c t l h k=>bO (ld Pg 26 (g2 t) l h) fun v0=>bO (ld Pg 26 (g3 t) l h) fun v1=>cl c 44 [v0,v1] t l h fun v2 l2 h2=>bO (ext v2 0) fun v3=>bO (ext v2 1) fun v4=>al Pg 59 5 l2 fun v5 l5=>jn (fun v6 l6 h6=>k (p5 t v5) l6 h6) fun j6=>sto 59 v5 v3 l5 h2 j6 (gn Try.f82 82 1 7 c (p11 (p5 t v5) v3) t l5 h2 j6))
 (.seq (.reg fun c t l h k=>bO (ld Pg 59 (g5 t) l h) fun v0=>jn (fun v1 l1 h1=>k t l1 h1) fun j1=>sto 59 (g4 t) v0 l h j1 (gn Try.f82 82 2 1 c (p13 (p4 t (g4 t)) v0) t l h j1))
 .ret)))
def kp83:List Nat:=[0,1,2,6,7]
def rc83:RC:=(.seq (.reg fun c t l h k=>k (p7 (p6 t (.int .u32 (.ofNat 0))) (.int .u32 (.ofNat 0))) l h)
 (.seq (.reg fun c t l h k=>bO (bin Pg .sub 86 false (g0 t) (g1 t)) fun v0=>bO (bin Pg .sub 86 false v0 (g2 t)) fun v1=>k (p6 t v1) l h)
 (.seq (.reg fun c t l h k=>bO (G.un .xor (g0 t)) fun v0=>bO (bin Pg .and 86 false v0 (g1 t)) fun v1=>bO (bin Pg .xor 86 false (g0 t) (g1 t)) fun v2=>bO (G.un .xor v2) fun v3=>bO (bin Pg .and 86 false v3 (g6 t)) fun v4=>bO (bin Pg .or 86 false v1 v4) fun v5=>bO (bin Pg .shr 86 true v5 (.int .u64 (.ofNat 31))) fun v6=>k (p7 t v6) l h)
 .ret)))
def kp84:List Nat:=[0,2]
def rc84:RC:=(.seq (.reg fun c t l h k=>k (p2 t (I 0)) l h)
 (.seq (.reg fun c t l h k=>cl c 89 [(g0 t)] t l h fun v0 l0 h0=>bO (bin Pg .sub 3 true (I 32) v0) fun v1=>k (p2 t v1) l0 h0)
 .ret))
def kp85:List Nat:=[0,1,4,5,6,7,8,13,14,15,16]
def rc85:RC:=(.seq (.reg fun c t l h k=>k (p4 t .nils) l h)
 (.seq (.reg fun c t l h k=>bO (len (Pg.underlying 24) (g0 t)) fun v0=>bO (bin Pg .add 3 true v0 (I 1)) fun v1=>gn Try.f85 85 1 3 c (p11 (p11 t v1) v1) t l h (fun v2 l2 h2=>k (p5 t v2) l2 h2))
 (.seq (.seq (.reg fun c t l h k=>bO (len (Pg.underlying 24) (g0 t)) fun v0=>k (p15 (p14 (p13 t (g0 t)) v0) (I 0)) l h)
 (.block 0 (.loop (.seq (.reg fun c t l h k=>bO (bin Pg .lss 3 false (g15 t) (g14 t)) fun v0=>k (p16 t v0) l h)
 (.seq (.cond (.tmp 16) .skip (.exit 0))
 (.seq (.block 1 (.seq (.reg fun c t l h k=>bO (ia Pg 24 (g13 t) (g15 t)) fun v0=>bO (ld Pg 86 v0 l h) fun v1=>k (p7 (p6 t (g15 t)) v1) l h)
 (.seq (.reg fun c t l h k=>gn Try.f85 85 5 1 c (p20 t (g7 t)) t l h (fun v0 l0 h0=>bO (bin Pg .shl 80 false v0 (g1 t)) fun v1=>k (p8 t v1) l0 h0))
 (.seq (.reg fun c t l h k=>bO (ia Pg 24 (g5 t) (g6 t)) fun v0=>bO (ld Pg 86 v0 l h) fun v1=>gn Try.f85 85 6 5 c (p28 t (g8 t)) t l h (fun v2 l2 h2=>bO (bin Pg .or 86 false v1 v2) fun v3=>bO (ia Pg 24 (g5 t) (g6 t)) fun v4=>jn (fun v5 l5 h5=>k t l5 h5) fun j5=>sto 86 v4 v3 l2 h2 j5 (gn Try.f85 85 6 8 c (p30 (p31 t v4) v3) t l2 h2 j5)))
 (.reg fun c t l h k=>bO (bin Pg .add 3 true (g6 t) (I 1)) fun v0=>bO (bin Pg .shr 80 true (g8 t) (.int .u64 (.ofNat 32))) fun v1=>gn Try.f85 85 7 5 c (p36 t v1) t l h (fun v2 l2 h2=>bO (ia Pg 24 (g5 t) v0) fun v3=>jn (fun v4 l4 h4=>k t l4 h4) fun j4=>sto 86 v3 v2 l2 h2 j4 (gn Try.f85 85 7 7 c (p37 (p38 t v3) v2) t l2 h2 j4)))))))
 (.reg fun c t l h k=>bO (bin Pg .add 3 true (g15 t) (I 1)) fun v0=>k (p15 t v0) l h)))))))
 (.seq (.reg fun c t l h k=>k (p4 t (g5 t)) l h)
 .ret))))
def kp86:List Nat:=[0,1,2,6,7,8,9,23]
def rc86:RC:=(.seq (.reg fun c t l h k=>k (p6 t (.bool false)) l h)
 (.seq (.reg fun c t l h k=>cl c 68 [(g1 t)] t l h fun v0 l0 h0=>cl c 64 [v0,(g2 t),(.int .u64 (.ofNat 0))] t l0 h0 fun v1 l1 h1=>cl c 65 [v1,(.bool false)] t l1 h1 fun v2 l2 h2=>bO (fld Pg 26 v2 0) fun v3=>k (p7 t v3) l2 h2)
 (.seq (.reg fun c t l h k=>cl c 68 [(g0 t)] t l h fun v0 l0 h0=>cl c 65 [v0,(.bool false)] t l0 h0 fun v1 l1 h1=>bO (fld Pg 26 v1 0) fun v2=>k (p8 t v2) l1 h1)
 (.seq (.seq (.reg fun c t l h k=>cl c 72 [(g7 t),(g8 t)] t l h fun v0 l0 h0=>bO (bin Pg .gtr 3 true v0 (I 0)) fun v1=>k (p23 t v1) l0 h0)
 (.cond (.tmp 23) (.seq (.reg fun c t l h k=>k (p6 t (.bool false)) l h)
 .ret) .skip))
 (.seq (.reg fun c t l h k=>cl c 73 [(g8 t),(g7 t)] t l h fun v0 l0 h0=>k (p9 t v0) l0 h0)
 (.seq (.reg fun c t l h k=>gn Try.f86 86 6 1 c (p27 t (g0 t)) t l h (fun v0 l0 h0=>k t l0 h0))
 (.seq (.reg fun c t l h k=>gn Try.f86 86 7 2 c (p29 (p28 t (g0 t)) (g9 t)) t l h (fun v0 l0 h0=>k t l0 h0))
 (.seq (.reg fun c t l h k=>k (p6 t (.bool true)) l h)
 .ret))))))))
def kp87:List Nat:=[0,1,4,5,6,7,8,12,13,14,15,34]
def rc87:RC:=(.seq (.reg fun c t l h k=>k (p4 t .nils) l h)
 (.seq (.reg fun c t l h k=>bO (len (Pg.underlying 24) (g0 t)) fun v0=>gn Try.f87 87 1 2 c (p10 (p10 t v0) v0) t l h (fun v1 l1 h1=>k (p5 t v1) l1 h1))
 (.seq (.seq (.reg fun c t l h k=>bO (len (Pg.underlying 24) (g0 t)) fun v0=>k (p14 (p13 (p12 t (g0 t)) v0) (I 0)) l h)
 (.block 0 (.loop (.seq (.reg fun c t l h k=>bO (bin Pg .lss 3 false (g14 t) (g13 t)) fun v0=>k (p15 t v0) l h)
 (.seq (.cond (.tmp 15) .skip (.exit 0))
 (.seq (.block 1 (.seq (.reg fun c t l h k=>bO (ia Pg 24 (g12 t) (g14 t)) fun v0=>bO (ld Pg 86 v0 l h) fun v1=>k (p7 (p6 t (g14 t)) v1) l h)
 (.seq (.reg fun c t l h k=>gn Try.f87 87 5 1 c (p19 t (g7 t)) t l h (fun v0 l0 h0=>bO (bin Pg .shl 80 true v0 (.int .u64 (.ofNat 32))) fun v1=>bO (bin Pg .shr 80 false v1 (g1 t)) fun v2=>k (p8 t v2) l0 h0))
 (.seq (.reg fun c t l h k=>bO (ia Pg 24 (g5 t) (g6 t)) fun v0=>bO (ld Pg 86 v0 l h) fun v1=>bO (bin Pg .shr 80 true (g8 t) (.int .u64 (.ofNat 32))) fun v2=>gn Try.f87 87 6 6 c (p29 t v2) t l h (fun v3 l3 h3=>bO (bin Pg .or 86 false v1 v3) fun v4=>bO (ia Pg 24 (g5 t) (g6 t)) fun v5=>jn (fun v6 l6 h6=>k t l6 h6) fun j6=>sto 86 v5 v4 l3 h3 j6 (gn Try.f87 87 6 9 c (p31 (p32 t v5) v4) t l3 h3 j6)))
 (.seq (.reg fun c t l h k=>bO (bin Pg .gtr 3 true (g6 t) (I 0)) fun v0=>k (p34 t v0) l h)
 (.cond (.tmp 34) (.reg fun c t l h k=>bO (bin Pg .sub 3 true (g6 t) (I 1)) fun v0=>bO (ia Pg 24 (g5 t) v0) fun v1=>bO (ld Pg 86 v1 l h) fun v2=>gn Try.f87 87 8 6 c (p40 t (g8 t)) t l h (fun v3 l3 h3=>bO (bin Pg .or 86 false v2 v3) fun v4=>bO (ia Pg 24 (g5 t) v0) fun v5=>jn (fun v6 l6 h6=>k t l6 h6) fun j6=>sto 86 v5 v4 l3 h3 j6 (gn Try.f87 87 8 9 c (p42 (p43 t v5) v4) t l3 h3 j6))) .skip))))))
 (.reg fun c t l h k=>bO (bin Pg .add 3 true (g14 t) (I 1)) fun v0=>k (p14 t v0) l h)))))))
 (.seq (.reg fun c t l h k=>k (p4 t (g5 t)) l h)
 .ret))))
def kp88:List Nat:=[0,1,4,5,6,7,15,21]
def rc88:RC:=(.seq (.reg fun c t l h k=>k (p4 t .nils) l h)
 (.seq (.reg fun c t l h k=>k (p5 t .nils) l h)
 (.seq (.reg fun c t l h k=>k (p6 t (I 0)) l h)
 (.seq (.seq (.reg fun c t l h k=>k (p7 t (I 0)) l h)
 (.block 0 (.loop (.seq (.seq (.reg fun c t l h k=>bO (len (Pg.underlying 29) (g0 t)) fun v0=>bO (bin Pg .lss 3 false (g7 t) v0) fun v1=>jn (fun v2 l2 h2=>jn (fun v3 l3 h3=>bO (pick v1 (.bool true) v3) fun v4=>k (p15 t v4) l3 h3) fun j3=>brB (wv v1 false) (j3 (.tuple []) l2 h2) (bO (bin Pg .gtr 3 true v2 (I 0)) fun v4=>j3 v4 l2 h2)) fun j2=>brB (wv v1 false) (j2 (.tuple []) l h) (j2 (g6 t) l h))
 (.cond (.tmp 15) .skip (.exit 0)))
 (.seq (.block 1 (.seq (.seq (.reg fun c t l h k=>bO (len (Pg.underlying 29) (g0 t)) fun v0=>bO (bin Pg .lss 3 false (g7 t) v0) fun v1=>k (p21 t v1) l h)
 (.cond (.tmp 21) (.reg fun c t l h k=>bO (ia Pg 29 (g0 t) (g7 t)) fun v0=>bO (ld Pg 3 v0 l h) fun v1=>bO (bin Pg .mul 3 false v1 (g1 t)) fun v2=>bO (bin Pg .add 3 false (g6 t) v2) fun v3=>k (p6 t v3) l h) .skip))
 (.seq (.reg fun c t l h k=>bO (bin Pg .rem 3 true (g6 t) (I 10000)) fun v0=>bO (bs Pg 29 1 [(0,v0)]) fun v1=>gn Try.f88 88 8 4 c (p33 (p30 t (g5 t)) v1) t l h (fun v2 l2 h2=>k (p5 t v2) l2 h2))
 (.reg fun c t l h k=>bO (bin Pg .quo 3 true (g6 t) (I 10000)) fun v0=>k (p6 t v0) l h))))
 (.reg fun c t l h k=>bO (bin Pg .add 3 true (g7 t) (I 1)) fun v0=>k (p7 t v0) l h))))))
 (.seq (.reg fun c t l h k=>cl c 67 [(.bool false),(g5 t)] t l h fun v0 l0 h0=>bO (fld Pg 31 v0 1) fun v1=>k (p4 t v1) l0 h0)
 .ret)))))
def kp89:List Nat:=[0,2,4,8]
def rc89:RC:=(.seq (.reg fun c t l h k=>k (p2 t (I 0)) l h)
 (.seq (.seq (.reg fun c t l h k=>bO (bin Pg .geq 86 true (g0 t) (.int .u32 (.ofNat 65536))) fun v0=>k (p4 t v0) l h)
 (.cond (.tmp 4) (.seq (.reg fun c t l h k=>bO (bin Pg .shr 86 true (g0 t) (.int .u64 (.ofNat 16))) fun v0=>k (p0 t v0) l h)
 (.reg fun c t l h k=>k (p2 t (I 16)) l h)) .skip))
 (.seq (.seq (.reg fun c t l h k=>bO (bin Pg .geq 86 true (g0 t) (.int .u32 (.ofNat 256))) fun v0=>k (p8 t v0) l h)
 (.cond (.tmp 8) (.seq (.reg fun c t l h k=>bO (bin Pg .shr 86 true (g0 t) (.int .u64 (.ofNat 8))) fun v0=>k (p0 t v0) l h)
 (.reg fun c t l h k=>bO (bin Pg .add 3 true (g2 t) (I 8)) fun v0=>k (p2 t v0) l h)) .skip))
 (.seq (.reg fun c t l h k=>gn Try.f89 89 7 2 c (p14 t (g0 t)) t l h (fun v0 l0 h0=>bO (idx Pg 9 (.str ⟨256,1013866857139168856493015739252390649739422828853819106890363778118420553376247557433637691341895324351018602695588957474325319502760499485336098898398377509666851054660423406800006203933793007272033180812049178612605246075062580585469430410618860250057463399279570354286669047577758927328864388992123306212451509403152394148136105363817402562688186708175358218852349079190158732807302672745370040257219644697201681238697346923541678507645485296520536209706771857694240900605172937619415410180424934769249448772944216470541052485265558808433676546390051204254346932932316488017972311616136051587427851453983453479168⟩) v0) fun v1=>gn Try.f89 89 7 4 c (p16 t v1) t l0 h0 (fun v2 l2 h2=>bO (bin Pg .add 3 false (g2 t) v2) fun v3=>k (p2 t v3) l2 h2)))
 .ret))))
def Qej:List (Nat × Fc):=[(12,⟨rc12,Try.f12.results.toList⟩),(15,⟨rc15,Try.f15.results.toList⟩),(16,⟨rc16,Try.f16.results.toList⟩),(18,⟨rc18,Try.f18.results.toList⟩),(21,⟨rc21,Try.f21.results.toList⟩),(22,⟨rc22,Try.f22.results.toList⟩),(23,⟨rc23,Try.f23.results.toList⟩),(25,⟨rc25,Try.f25.results.toList⟩),(26,⟨rc26,Try.f26.results.toList⟩),(27,⟨rc27,Try.f27.results.toList⟩),(28,⟨rc28,Try.f28.results.toList⟩),(29,⟨rc29,Try.f29.results.toList⟩),(30,⟨rc30,Try.f30.results.toList⟩),(31,⟨rc31,Try.f31.results.toList⟩),(32,⟨rc32,Try.f32.results.toList⟩),(33,⟨rc33,Try.f33.results.toList⟩),(34,⟨rc34,Try.f34.results.toList⟩),(35,⟨rc35,Try.f35.results.toList⟩),(36,⟨rc36,Try.f36.results.toList⟩),(37,⟨rc37,Try.f37.results.toList⟩),(38,⟨rc38,Try.f38.results.toList⟩),(39,⟨rc39,Try.f39.results.toList⟩),(40,⟨rc40,Try.f40.results.toList⟩),(41,⟨rc41,Try.f41.results.toList⟩),(42,⟨rc42,Try.f42.results.toList⟩),(43,⟨rc43,Try.f43.results.toList⟩),(44,⟨rc44,Try.f44.results.toList⟩),(45,⟨rc45,Try.f45.results.toList⟩),(46,⟨rc46,Try.f46.results.toList⟩),(47,⟨rc47,Try.f47.results.toList⟩),(48,⟨rc48,Try.f48.results.toList⟩),(49,⟨rc49,Try.f49.results.toList⟩),(50,⟨rc50,Try.f50.results.toList⟩),(51,⟨rc51,Try.f51.results.toList⟩),(52,⟨rc52,Try.f52.results.toList⟩),(53,⟨rc53,Try.f53.results.toList⟩),(54,⟨rc54,Try.f54.results.toList⟩),(55,⟨rc55,Try.f55.results.toList⟩),(56,⟨rc56,Try.f56.results.toList⟩),(57,⟨rc57,Try.f57.results.toList⟩),(58,⟨rc58,Try.f58.results.toList⟩),(59,⟨rc59,Try.f59.results.toList⟩),(60,⟨rc60,Try.f60.results.toList⟩),(61,⟨rc61,Try.f61.results.toList⟩),(62,⟨rc62,Try.f62.results.toList⟩),(63,⟨rc63,Try.f63.results.toList⟩),(64,⟨rc64,Try.f64.results.toList⟩),(65,⟨rc65,Try.f65.results.toList⟩),(66,⟨rc66,Try.f66.results.toList⟩),(67,⟨rc67,Try.f67.results.toList⟩),(68,⟨rc68,Try.f68.results.toList⟩),(69,⟨rc69,Try.f69.results.toList⟩),(70,⟨rc70,Try.f70.results.toList⟩),(71,⟨rc71,Try.f71.results.toList⟩),(72,⟨rc72,Try.f72.results.toList⟩),(73,⟨rc73,Try.f73.results.toList⟩),(74,⟨rc74,Try.f74.results.toList⟩),(75,⟨rc75,Try.f75.results.toList⟩),(76,⟨rc76,Try.f76.results.toList⟩),(77,⟨rc77,Try.f77.results.toList⟩),(78,⟨rc78,Try.f78.results.toList⟩),(79,⟨rc79,Try.f79.results.toList⟩),(80,⟨rc80,Try.f80.results.toList⟩),(81,⟨rc81,Try.f81.results.toList⟩),(82,⟨rc82,Try.f82.results.toList⟩),(83,⟨rc83,Try.f83.results.toList⟩),(84,⟨rc84,Try.f84.results.toList⟩),(85,⟨rc85,Try.f85.results.toList⟩),(86,⟨rc86,Try.f86.results.toList⟩),(87,⟨rc87,Try.f87.results.toList⟩),(88,⟨rc88,Try.f88.results.toList⟩),(89,⟨rc89,Try.f89.results.toList⟩)]
def tbl(f:Nat):Option Fc:=lkL Qej f
end
end Go.AM.S
end
section
namespace Go.AM
open Go Go.ChangeShapes Go.WideShapes
structure Qc3(W W':World):Prop where
 os:W'.os=W.os
 output:W'.output=W.output
 size:W.heap.size≤W'.heap.size
 heap:∀ i,i<W.heap.size→W'.heap[i]? = W.heap[i]?
theorem Qc3.kept{W W':World}(h:Qc3 W W')(may:MemPlace→Prop):W.keptBut W' may:=by
 refine⟨h.os,h.output,fun i hi=>?_⟩
 rw[h.heap i hi]
 cases hq:W.heap[i]? with
 | none=>simp
 | some o =>
  cases o<;>simp
theorem Qc3.frozen{W W':World}(h:Qc3 W W'){a:Addr}(ha:a.block<W.heap.size):W'.frozen? a=W.frozen? a:=by
 unfold World.frozen?
 rw[h.heap _ ha]
def Qbb:Hp:=⟨[],none,0⟩
def QcP[Laid]:Ctx:={ gl:=fun _=>none,lc:=fun _ _=>none,shut:=Laid.cells,ext:=fun _=>none,text:=fun _=>none }
theorem qnw[Laid]{P:Program}{call:Qad}(hC:QbE P call){f:FuncId}{args:List V}{v:V}{h:Hp}(hr:call f args Qbb=some (.val v h)){W:World}{xs:List Value}
  (hargs:∀ c:Ctx,QaC c args xs) (hnl:V.Qak args=true) (hl:∀ b o x,Laid.cells b o=some x→W.cell? ⟨b,o,none⟩ = some x) :
  Calls P f xs.toArray W fun e W'=>(∃ x,e=.returned x∧∃ c,Rel c v x)∧Qc3 W W':=by
 have hrow:∀ r row,Qab (⟨.lf,.lf,Qbb⟩:St) r=some row→row=.gone:=by
  intro r row hr
  cases r with
  | loc s g =>
   rw[qap]at hr
   have:(⟨.lf,.lf,Qbb⟩:St).lc s=(0,.gone):=qhd _ _
   rw[this]at hr
   split at hr
   ·simpa using hr.symm
   ·simp at hr
  | glob r=>simp[Qab,Qbb]at hr
 have hblk:∀ r,(QcP).blk r=none:=fun r=>by cases r<;>rfl
 have hW:WRel QcP ⟨.lf,.lf,Qbb⟩ W:=by
  refine⟨fun b o x hx=>hl b o x hx,fun r row hr=>?_,fun r1 r2 row1 row2 b g1 g2 n1 n2=>absurd (hrow _ _ g1) n1,fun _ _=>rfl,fun _ _ _=>rfl,fun r b hb=>?_,fun r n hn=>?_,fun b n hn=>?_⟩
  ·rw[hrow r row hr];trivial
  ·rw[hblk]at hb;simp at hb
  ·simp[QcP]at hn
  ·simp[QcP]at hn
 obtain⟨_,hc⟩:=hC f args Qbb _ hr QcP W ⟨.lf,.lf,Qbb⟩ xs rfl hW (fun r frz cs hr=>by simp[Qbb]at hr) (hargs _) hnl (fun _ _ _ h=>h)
 refine hc.mono (fun e W' he=>?_)
 cases e with
 | returned x =>
  obtain⟨c',r⟩:=he
  have hno:∀ b,¬Own QcP ⟨.lf,.lf,Qbb⟩ b:=fun b ⟨r,row,h1,h2,_⟩=>h2 (hrow r row h1)
  exact⟨⟨x,rfl,c',r.rel⟩,⟨r.keep.os,r.keep.output,r.keep.size,fun i hi=>r.keep.block i hi (hno i)⟩⟩
 | panicked ch=>exact he.elim
 | outgrown=>exact he.elim
theorem qpX[Laid]{P:Program}{call:Qad}(hC:QbE P call){f:FuncId}{args:List V}{h:Hp}(hr:call f args Qbb=some (.val (.bool true) h)){W:World}{xs:List Value}
  (hargs:∀ c:Ctx,QaC c args xs) (hnl:V.Qak args=true) (hl:∀ b o x,Laid.cells b o=some x→W.cell? ⟨b,o,none⟩ = some x) :
  Calls P f xs.toArray W fun e W'=>e=.returned (.bool true)∧Qc3 W W' :=
 (qnw hC hr hargs hnl hl).mono (fun e W' ⟨⟨x,he,c,hx⟩,hs⟩=>by
  rw[hx.Qbz]at he
  exact⟨he,hs⟩)
theorem qiA{H:Type}{enc:TypeId × Value→H}{P:Program}{f:Func}{s:ChangeSpec}{apart fresh handsOn again:Bool}{W W':World}{args:Array Value}{v:Value}{ds gs:List (DataW H)}{before pa pv:List MemPlace}
  (hW:DataW.Whole enc P f.params.toList s.vars apart W args.toList ds gs before)
  (hres:∀ (b:Nat) (sp:Nat→Bool) (hd:Bool),DataW.TrodAll enc P W' b sp hd f.resultTypes.toList (v.resultList f.resultTypes.size) (s.fn H (ds++gs)).results [])
  (hargs:∀ sp:Nat→Bool,(∀ p ∈ before,sp p.block=true)→DataW.TrodAll enc P W' 0 sp true f.params.toList args.toList (s.fn H (ds++gs)).args pa)
  (hvars:∀ sp:Nat→Bool,(∀ p ∈ before,sp p.block=true)→DataW.TrodVars enc P W' sp s.vars (s.fn H (ds++gs)).vars pv)
  (hps:before=pa++pv) (hs:Qc3 W W')
  (hok:∀ (j:Nat) (t:TypeId) (r:Value),f.resultTypes[j]? = some t→(v.resultList f.resultTypes.size)[j]? = some r→Value.okWide P W' .any 0 t r) :
  s.post enc P f apart fresh handsOn again W args v W':=by
 have hold:∀ p ∈ before,(fun b=>decide (b<W.heap.size)) p.block=true:=fun p hp=>by simpa using hW.lt p hp
 have hlt:=fun p hp=>hW.lt p hp
 refine⟨ds,gs,before,[],pa,pv,hW,hres _ _ _,hargs _ hold,hvars _ hold,World.keptBut_mono (fun p hp=>⟨hp,?_⟩) (hs.kept (· ∈ before)),fun _=>?_⟩
 ·rw[hps,List.mem_append]at hp
  exact Or.inr hp
 ·obtain⟨_,_,_,_,_,hz,hn⟩:=hW
  refine⟨hok,_,_,([]++pa)++pv,⟨[]++pa,pv,trodAll_append (hargs _ (fun _ _=>rfl)) (hres _ _ _),hvars _ (fun _ _=>rfl),rfl,?_,?_⟩,?_⟩
  ·intro b off hp
   have hp':MemPlace.cell b off ∈ before:=by rw[hps];simpa using hp
   rw[hs.frozen (hlt _ hp')]
   exact hz b off hp'
  ·intro ha
   have:=hn ha
   rw[hps]at this
   simpa using this
  ·intro p hp _
   rw[hps]
   simpa using hp
end Go.AM
end
section
namespace Go.AM.S
open Go Go.AM
open _root_.Go.AM.G (R)
def Ev(p:Nat→Prop):Prop:=∃ N,∀ n,N≤n→p n
theorem Ev.of{p:Nat→Prop}(h:∀ n,p n):Ev p:=⟨0,fun n _=>h n⟩
theorem Ev.mono{p q:Nat→Prop}(h:Ev p)(hq:∀ n,p n→q n):Ev q:=⟨h.choose,fun n hn=>hq n (h.choose_spec n hn)⟩
theorem Ev.and{p q:Nat→Prop}(h:Ev p)(k:Ev q):Ev fun n=>p n∧q n :=
 ⟨max h.choose k.choose,fun n hn=>⟨h.choose_spec n (Nat.le_trans (Nat.le_max_left _ _) hn),k.choose_spec n (Nat.le_trans (Nat.le_max_right _ _) hn)⟩⟩
theorem Ev.next{p:Nat→Prop}(h:Ev p):Ev fun n=>∃ m,n=m+1∧p m :=
 ⟨h.choose+1,fun n hn=>⟨n - 1,by omega,h.choose_spec _ (by omega)⟩⟩
def qyW(e:Ex)(tm:Tm)(loc:Lo)(hp:Hp)(k:K):R:=match e with
 | .normal=>k tm loc hp
 | e=>some (e,⟨tm,loc,hp⟩)
section
variable {P:Program}{kn:Kn}{tbl:Nat→Option Fc}
variable (P kn tbl)in
def Ends(c:RC)(s:St)(e:Ex)(s':St):Prop:=Ev fun n=>∀ k,run (fn P kn tbl n) n c s.tm s.loc s.hp k=qyW e s'.tm s'.loc s'.hp k
variable (P kn tbl)in
def W(c:RC)(s:St)(Q:Ex→St→Prop):Prop:=∃ e s',Ends P kn tbl c s e s'∧Q e s'
variable (P kn tbl)in
def Runs(f:FuncId)(args:List V)(h:Hp)(o:Out):Prop:=Ev fun n=>fn P kn tbl n f args h=some o
theorem W.mono{c:RC}{s:St}{Q Q':Ex→St→Prop}(h:W P kn tbl c s Q)(hq:∀ e s',Q e s'→Q' e s'):W P kn tbl c s Q' :=
 let ⟨e,s',h1,h2⟩:=h
 ⟨e,s',h1,hq e s' h2⟩
theorem qw1{s:St}{Q:Ex→St→Prop}(h:Q .normal s):W P kn tbl .skip s Q:=⟨.normal,s,.of fun n k=>rfl,h⟩
theorem qyf{s:St}{Q:Ex→St→Prop}(h:Q .ret s):W P kn tbl .ret s Q:=⟨.ret,s,.of fun n k=>rfl,h⟩
theorem qw4{i:Nat}{s:St}{Q:Ex→St→Prop}(h:Q (.exit i) s):W P kn tbl (.exit i) s Q:=⟨.exit i,s,.of fun n k=>rfl,h⟩
theorem qye{a b:RC}{s:St}{Q:Ex→St→Prop}(h:W P kn tbl a s (fun e s1=>match e with | .normal=>W P kn tbl b s1 Q | e=>Q e s1)):W P kn tbl (.seq a b) s Q:=by
 obtain⟨e,s1,h1,h2⟩:=h
 have plain:∀ e,e≠.normal→Ends P kn tbl a s e s1→Q e s1→W P kn tbl (.seq a b) s Q:=by
  intro e hne h1 h2
  refine⟨e,s1,h1.mono fun n h k=>?_,h2⟩
  show run _ n a s.tm s.loc s.hp (fun tm loc hp=>run _ n b tm loc hp k)=_
  rw[h]
  cases e<;>first | rfl | exact absurd rfl hne
 cases e with
 | normal =>
  obtain⟨e2,s2,h3,h4⟩:=h2
  refine⟨e2,s2,(h1.and h3).mono fun n ⟨h,h'⟩ k=>?_,h4⟩
  show run _ n a s.tm s.loc s.hp (fun tm loc hp=>run _ n b tm loc hp k)=_
  rw[h]
  exact h' k
 | exit i=>exact plain (.exit i) (by simp) h1 h2
 | ret=>exact plain .ret (by simp) h1 h2
 | panic v=>exact plain (.panic v) (by simp) h1 h2
theorem qsZ{x:Operand}{a b:RC}{s:St}{Q:Ex→St→Prop}{q:Bool}(hx:lk [] s.tm x=.bool q)(ht:q=true→W P kn tbl a s Q)(hf:q=false→W P kn tbl b s Q):W P kn tbl (.cond x a b) s Q:=by
 cases q with
 | true =>
  obtain⟨e,s',h1,h2⟩:=ht rfl
  refine⟨e,s',h1.mono fun n h k=>?_,h2⟩
  show G.Qca (lk [] s.tm x) (fun q=>Bool.rec (motive:=fun _=>R) (run _ n b s.tm s.loc s.hp k) (run _ n a s.tm s.loc s.hp k) q) none=_
  rw[hx];exact h k
 | false =>
  obtain⟨e,s',h1,h2⟩:=hf rfl
  refine⟨e,s',h1.mono fun n h k=>?_,h2⟩
  show G.Qca (lk [] s.tm x) (fun q=>Bool.rec (motive:=fun _=>R) (run _ n b s.tm s.loc s.hp k) (run _ n a s.tm s.loc s.hp k) q) none=_
  rw[hx];exact h k
theorem qtt{id:Nat}{b:RC}{s:St}{Q:Ex→St→Prop}(h:W P kn tbl b s (fun e s1=>match e with | .exit i=>if i=id then Q .normal s1 else Q (.exit i) s1 | e=>Q e s1)):W P kn tbl (.block id b) s Q:=by
 obtain⟨e,s1,h1,h2⟩:=h
 have key:∀ n k,run (fn P kn tbl n) n (.block id b) s.tm s.loc s.hp k=G.Qac (run (fn P kn tbl n) n b s.tm s.loc s.hp done) (fun p=>Ex.rec (motive:=fun _=>Nat→K→St→R) (fun _ k st=>k st.tm st.loc st.hp)
   (fun i id k st=>bif Nat.beq i id then k st.tm st.loc st.hp else some (.exit i,st)) (fun _ _ st=>some (.ret,st)) (fun v _ _ st=>some (.panic v,st)) p.1 id k p.2) none:=fun n k=>rfl
 cases e with
 | normal=>exact⟨.normal,s1,h1.mono fun n h k=>by rw[key,h];rfl,h2⟩
 | ret=>exact⟨.ret,s1,h1.mono fun n h k=>by rw[key,h];rfl,h2⟩
 | panic v=>exact⟨.panic v,s1,h1.mono fun n h k=>by rw[key,h];rfl,h2⟩
 | exit i =>
  by_cases e:i=id
  ·subst e
   simp only[if_true]at h2
   refine⟨.normal,s1,h1.mono fun n h k=>?_,h2⟩
   rw[key,h]
   show(bif Nat.beq i i then k s1.tm s1.loc s1.hp else some (.exit i,s1))=_
   rw[Nat.beq_refl];rfl
  ·simp only[e,if_false]at h2
   refine⟨.exit i,s1,h1.mono fun n h k=>?_,h2⟩
   rw[key,h]
   show(bif Nat.beq i id then k s1.tm s1.loc s1.hp else some (.exit i,s1))=_
   have:Nat.beq i id=false:=by
    cases hb:Nat.beq i id with
    | false=>rfl
    | true=>exact absurd (Nat.eq_of_beq_eq_true hb) e
   rw[this];rfl
theorem qw3{b:RC}{Q:Ex→St→Prop}(I:Nat→St→Prop)(hb:∀ m s,I m s→W P kn tbl b s (fun e s'=>match e with | .normal=>∃ m',m'<m∧I m' s' | e=>Q e s')) :
  ∀ (m:Nat) (s:St),I m s→W P kn tbl (.loop b) s Q:=by
 have key:∀ (m:Nat) (s:St),I m s→∃ e s',e≠.normal∧Q e s'∧∃ N c,∀ n,N≤n→∀ j,c≤j →
   (Nat.rec (motive:=fun _=>K) (fun _ _ _=>none) (fun _ il tm loc hp=>run (fn P kn tbl n) n b tm loc hp il) j:K) s.tm s.loc s.hp=some (e,s'):=by
  intro m
  induction m using Nat.strongRecOn with
  | _ m ih =>
   intro s hs
   obtain⟨e,s1,⟨N,h1⟩,h2⟩:=hb m s hs
   have plain:e≠.normal→Q e s1→∃ e s',e≠.normal∧Q e s'∧∃ N c,∀ n,N≤n→∀ j,c≤j →
     (Nat.rec (motive:=fun _=>K) (fun _ _ _=>none) (fun _ il tm loc hp=>run (fn P kn tbl n) n b tm loc hp il) j:K) s.tm s.loc s.hp=some (e,s'):=by
    intro hne hq
    refine⟨e,s1,hne,hq,N,1,fun n hn j hj=>?_⟩
    obtain⟨j,rfl⟩:∃ i,j=i+1:=⟨j - 1,by omega⟩
    show run (fn P kn tbl n) n b s.tm s.loc s.hp _=_
    rw[h1 n hn]
    cases e<;>first | rfl | exact absurd rfl hne
   cases e with
   | normal =>
    obtain⟨m',hm,hi⟩:=h2
    obtain⟨e2,s2,hne,hq,N2,c,h3⟩:=ih m' hm s1 hi
    refine⟨e2,s2,hne,hq,max N N2,c+1,fun n hn j hj=>?_⟩
    obtain⟨j,rfl⟩:∃ i,j=i+1:=⟨j - 1,by omega⟩
    show run (fn P kn tbl n) n b s.tm s.loc s.hp _=_
    rw[h1 n (by omega)]
    exact h3 n (by omega) j (by omega)
   | exit i=>exact plain (by simp) h2
   | ret=>exact plain (by simp) h2
   | panic v=>exact plain (by simp) h2
 intro m s hs
 obtain⟨e,s',hne,hq,N,c,h⟩:=key m s hs
 refine⟨e,s',⟨max N c,fun n hn k=>?_⟩,hq⟩
 show(Nat.rec (motive:=fun _=>K) (fun _ _ _=>none) (fun _ il tm loc hp=>run (fn P kn tbl n) n b tm loc hp il) n:K) s.tm s.loc s.hp=_
 rw[h n (by omega) n (by omega)]
 cases e<;>first | rfl | exact absurd rfl hne
theorem qw2{f:Qad→Tm→Lo→Hp→K→R}{s:St}{Q:Ex→St→Prop}{tm':Tm}{loc':Lo}{hp':Hp}(N:Nat)(h:∀ n,N≤n→∀ k,f (fn P kn tbl n) s.tm s.loc s.hp k=k tm' loc' hp')(hq:Q .normal ⟨tm',loc',hp'⟩):W P kn tbl (.reg f) s Q :=
 ⟨.normal,⟨tm',loc',hp'⟩,⟨N,fun n hn k=>h n hn k⟩,hq⟩
theorem qnK{f:FuncId}{fc:Fc}{args:List V}{h:Hp}{o:Out}(hk:kn f=none)(ht:tbl f=some fc)
  (hw:W P kn tbl fc.rc ⟨QaE args,.lf,{ h with dirty:=none }⟩ (fun e s=>match e with | .normal=>fin P h fc.res s=some o | .ret=>fin P h fc.res s=some o | .panic v=>o=.panic v (Qar h s.hp [v]) | .exit _=>False)):Runs P kn tbl f args h o:=by
 obtain⟨e,s,h1,h2⟩:=hw
 refine h1.next.mono fun n ⟨m,hm,h1⟩=>?_
 subst hm
 show G.Qac (kn f) (fun k=>k (fn P kn tbl m) args h) (body P tbl (fn P kn tbl m) m f args h)=_
 rw[hk]
 show body P tbl (fn P kn tbl m) m f args h=_
 unfold body
 rw[ht]
 show G.Qac (run (fn P kn tbl m) m fc.rc (F.QaE args) .lf { h with dirty:=none } done) _ none=_
 have:=h1 done
 rw[F.Qda]
 have h3:run (fn P kn tbl m) m fc.rc (QaE args) .lf { h with dirty:=none } done=qyW e s.tm s.loc s.hp done:=this
 rw[h3]
 cases e with
 | normal=>exact(qyb h fc.res s).trans h2
 | ret=>exact(qyb h fc.res s).trans h2
 | panic v =>
  rw[h2]
  show some (Out.panic v (F.Qar h s.hp [v]))=_
  rw[F.Qc0]
 | exit i=>exact h2.elim
theorem Runs.at{f:FuncId}{args:List V}{h:Hp}{o:Out}(hr:Runs P kn tbl f args h o):∃ n,fn P kn tbl n f args h=some o:=⟨hr.choose,hr.choose_spec _ (Nat.le_refl _)⟩
theorem qpN(v:V)(f:V→R):bO (some v) f=f v:=rfl
theorem qal(tm:Tm)(j i:Nat)(v:V):gt (pt tm j v) i=if j=i then v else gt tm i:=by rw[qcN,qjN,qcN,qaI]
theorem qae(args:List V)(i:Nat):gt (QaE args) i=args.getD i .dead:=by
 have key:∀ (l:List V) (k i:Nat) (t:Tr V),aget V.dead (Qa0 k l t) i=if k≤i∧i<k+l.length then l.getD (i - k) .dead else aget V.dead t i:=by
  intro l
  induction l with
  | nil=>intro k i t;rw[if_neg (by simp only[List.length_nil];omega)];rfl
  | cons v l ih =>
   intro k i t
   simp only[Qa0]
   rw[ih (k+1) i (aset t k v),qaI]
   by_cases h1:k+1≤i∧i<k+1+l.length
   ·rw[if_pos h1,if_pos (by simp;omega)]
    rw[show i - k=(i - (k+1))+1 by omega,List.getD_cons_succ]
   ·rw[if_neg h1]
    by_cases h2:k=i
    ·subst h2;rw[if_pos rfl,if_pos (by simp)];simp
    ·rw[if_neg h2,if_neg (by simp;omega)]
 rw[qcN]
 unfold QaE
 rw[key args 0 i .lf,qhd]
 by_cases h:0≤i∧i<0+args.length
 ·rw[if_pos h];simp
 ·rw[if_neg h,List.getD_eq_getElem?_getD,List.getElem?_eq_none (by omega)];rfl
theorem qme{call:Qad}{f:FuncId}{args:List V}{tm:Tm}{loc:Lo}{hp:Hp}{j:V→Lo→Hp→R}{l:List V}{st:St}{v:V}{h:Hp}(he:exps false ⟨.lf,loc,hp⟩ args=some (l,st))(hc:call f l st.hp=some (.val v h)) :
  cl call f args tm loc hp j=j v st.loc h:=by
 unfold cl
 rw[F.QcG,he]
 show Qef (call f l st.hp) st.loc tm _=_
 rw[hc];rfl
end
end Go.AM.S
end
section
namespace Go.AM.S
open Go Go.AM
set_option linter.defProp false
open _root_.Go.AM.G (R)
section
variable {P:Program}{kn:Kn}{tbl:Nat→Option Fc}
variable (P kn tbl)in
def WW(c:RC)(s:St)(N:St→Prop)(X:Nat→St→Prop)(Q:St→Prop):Prop :=
 W P kn tbl c s (fun e s'=>match e with | .normal=>N s' | .exit i=>X i s' | .ret=>Q s' | .panic _=>False)
variable {N:St→Prop}{X:Nat→St→Prop}{Q:St→Prop}{s:St}
theorem qeU{c:RC}{N':St→Prop}{X':Nat→St→Prop}{Q':St→Prop}(h:WW P kn tbl c s N X Q)(h1:∀ s,N s→N' s)(h2:∀ i s,X i s→X' i s)(h3:∀ s,Q s→Q' s):WW P kn tbl c s N' X' Q':=by
 refine W.mono h (fun e s' hq=>?_)
 cases e with
 | normal=>exact h1 _ hq
 | exit i=>exact h2 _ _ hq
 | ret=>exact h3 _ hq
 | panic v=>exact hq
theorem qag(h:N s):WW P kn tbl .skip s N X Q:=qw1 h
theorem qai(h:Q s):WW P kn tbl .ret s N X Q:=qyf h
theorem qax{i:Nat}(h:X i s):WW P kn tbl (.exit i) s N X Q:=qw4 h
theorem qac{a b:RC}(h:WW P kn tbl a s (fun s1=>WW P kn tbl b s1 N X Q) X Q):WW P kn tbl (.seq a b) s N X Q:=by
 refine qye (W.mono h (fun e s' hq=>?_))
 cases e with
 | normal=>exact hq
 | exit i=>exact hq
 | ret=>exact hq
 | panic v=>exact hq
theorem qaq{id:Nat}{b:RC}(h:WW P kn tbl b s N (fun i s=>if i=id then N s else X i s) Q):WW P kn tbl (.block id b) s N X Q:=by
 refine qtt (W.mono h (fun e s' hq=>?_))
 cases e with
 | normal=>exact hq
 | exit i =>
  show if i=id then N s' else X i s'
  exact hq
 | ret=>exact hq
 | panic v=>exact hq
theorem qts{b:RC}(I:Nat→St→Prop)(hb:∀ m s,I m s→WW P kn tbl b s (fun s'=>∃ m',m'<m∧I m' s') X Q)(m:Nat)(h:I m s):WW P kn tbl (.loop b) s N X Q:=by
 refine qw3 I (fun m s hi=>W.mono (hb m s hi) (fun e s' hq=>?_)) m s h
 cases e with
 | normal=>exact hq
 | exit i=>exact hq
 | ret=>exact hq
 | panic v=>exact hq
theorem qan{t:Nat}{a b:RC}(hx:gt s.tm t=.bool true)(h:WW P kn tbl a s N X Q):WW P kn tbl (.cond (.tmp t) a b) s N X Q :=
 qsZ (q:=true) hx (fun _=>h) (fun e=>by cases e)
theorem qaj{t:Nat}{a b:RC}(hx:gt s.tm t=.bool false)(h:WW P kn tbl b s N X Q):WW P kn tbl (.cond (.tmp t) a b) s N X Q :=
 qsZ (q:=false) hx (fun e=>by cases e) (fun _=>h)
theorem qad{f:Qad→Tm→Lo→Hp→K→R}{tm':Tm}{loc':Lo}{hp':Hp}(h:∀ n k,f (fn P kn tbl n) s.tm s.loc s.hp k=k tm' loc' hp')(hq:N ⟨tm',loc',hp'⟩):WW P kn tbl (.reg f) s N X Q :=
 qw2 0 (fun n _ k=>h n k) hq
theorem qaf{p:Nat→Prop}(hp:Ev p){f:Qad→Tm→Lo→Hp→K→R}{tm':Tm}{loc':Lo}{hp':Hp}(h:∀ n,p n→∀ k,f (fn P kn tbl n) s.tm s.loc s.hp k=k tm' loc' hp')(hq:N ⟨tm',loc',hp'⟩):WW P kn tbl (.reg f) s N X Q :=
 qw2 hp.choose (fun n hn k=>h n (hp.choose_spec n hn) k) hq
theorem qcV{f:FuncId}{fc:Fc}{args:List V}{h:Hp}{Post:Out→Prop}(hk:kn f=none)(ht:tbl f=some fc)
  (hw:WW P kn tbl fc.rc ⟨QaE args,.lf,{ h with dirty:=none }⟩ (fun s=>∃ o,fin P h fc.res s=some o∧Post o) (fun _ _=>False) (fun s=>∃ o,fin P h fc.res s=some o∧Post o)):∃ o,Runs P kn tbl f args h o∧Post o:=by
 obtain⟨e,s,h1,h2⟩:=hw
 cases e with
 | normal=>obtain⟨o,h3,h4⟩:=h2;exact⟨o,qnK hk ht ⟨.normal,s,h1,h3⟩,h4⟩
 | ret=>obtain⟨o,h3,h4⟩:=h2;exact⟨o,qnK hk ht ⟨.ret,s,h1,h3⟩,h4⟩
 | exit i=>exact h2.elim
 | panic v=>exact h2.elim
end
noncomputable def lg(loc:Lo)(d:Nat):Nat × Row:=F.Qci (0,.gone) (path d) loc
noncomputable def lp(loc:Lo)(d:Nat)(x:Nat × Row):Lo:=F.Qdt x (path d) loc
theorem qbr(loc:Lo)(j i:Nat)(x:Nat × Row):lg (lp loc j x) i=if j=i then x else lg loc i:=by
 have:=qaI (0,Row.gone) loc j i x
 unfold lg lp
 rw[F.QbV,F.Qcc,F.QbV]
 exact this
theorem qcL(i:Nat):lg .lf i=(0,.gone):=by
 unfold lg
 rw[F.QbV]
 exact qhd _ _
theorem qog(loc:Lo)(d:Nat):F.Qci (0,.gone) (path d) loc=lg loc d:=rfl
theorem qoc(loc:Lo)(d:Nat)(x:Nat × Row):F.Qdt x (path d) loc=lp loc d x:=rfl
def nl(k:IntKind)(d:List Nat):List V:=d.map fun x=>.int k (.ofNat x)
theorem qlN{n:Nat}(h:n<9223372036854775808):F.QaO .i64 (.ofNat n)=.ofNat n:=by
 show(bif Nat.blt n 9223372036854775808 then Int.ofNat n else _)=_
 rw[show Nat.blt n 9223372036854775808=true from by rw[Nat.blt_eq];exact h];rfl
theorem qek{n:Nat}(h:n<18446744073709551616):F.QaO .u64 (.ofNat n)=.ofNat n:=by
 show(bif Nat.blt n 18446744073709551616 then Int.ofNat n else _)=_
 rw[show Nat.blt n 18446744073709551616=true from by rw[Nat.blt_eq];exact h];rfl
theorem qel{n:Nat}(h:n<4294967296):F.QaO .u32 (.ofNat n)=.ofNat n:=by
 show(bif Nat.blt n 4294967296 then Int.ofNat n else _)=_
 rw[show Nat.blt n 4294967296=true from by rw[Nat.blt_eq];exact h];rfl
theorem qpT{n:Nat}(h:n<2147483648):F.QaO .i32 (.ofNat n)=.ofNat n:=by
 show(bif Nat.blt n 2147483648 then Int.ofNat n else _)=_
 rw[show Nat.blt n 2147483648=true from by rw[Nat.blt_eq];exact h];rfl
theorem qnp{n:Nat}(h:n<256):F.QaO .u8 (.ofNat n)=.ofNat n:=by
 show(bif Nat.blt n 256 then Int.ofNat n else _)=_
 rw[show Nat.blt n 256=true from by rw[Nat.blt_eq];exact h];rfl
theorem qbB(n:Nat):F.QaO .u32 (.ofNat n)=.ofNat (n % 4294967296):=by
 rw[F.Qae]
 unfold IntKind.wrap
 rfl
variable {P:Program}
theorem qnh(op:BinOp)(t:TypeId)(cn:Bool)(k:IntKind)(a b:Int):bin P op t cn (.int k a) (.int k b)=G.int2 op k a b:=by
 show(bif Nat.beq (G.Qce k) (G.Qce k)then G.int2 op k a b else _)=_
 rw[Nat.beq_refl];rfl
theorem qyF(k:IntKind)(a b:Nat):G.int2 .add k (.ofNat a) (.ofNat b)=some (.int k (F.QaO k (.ofNat (a+b)))):=rfl
theorem qyB(k:IntKind)(a b:Nat):G.int2 .mul k (.ofNat a) (.ofNat b)=some (.int k (F.QaO k (.ofNat (a*b)))):=rfl
theorem qxx{k:IntKind}{a b:Nat}(h:b≤a):G.int2 .sub k (.ofNat a) (.ofNat b)=some (.int k (F.QaO k (.ofNat (a - b)))):=by
 show some (V.int k (F.QaO k (Int.sub (.ofNat a) (.ofNat b))))=_
 have:Int.sub (.ofNat a) (.ofNat b)=.ofNat (a - b):=(Int.ofNat_sub h).symm
 rw[this]
theorem qv0(k:IntKind)(a b:Nat):G.int2 .lss k (.ofNat a) (.ofNat b)=some (.bool (decide (a<b))):=by
 show some (V.bool (F.ltI (.ofNat a) (.ofNat b)))=_
 rw[F.Qas];congr 2;simp
theorem qyD(k:IntKind)(a b:Nat):G.int2 .gtr k (.ofNat a) (.ofNat b)=some (.bool (decide (b<a))):=by
 show some (V.bool (F.ltI (.ofNat b) (.ofNat a)))=_
 rw[F.Qas];congr 2;simp
theorem qyC(k:IntKind)(a b:Nat):G.int2 .leq k (.ofNat a) (.ofNat b)=some (.bool (decide (a≤b))):=by
 show some (V.bool (!F.ltI (.ofNat b) (.ofNat a)))=_
 rw[F.Qas];congr 2;rw[Bool.eq_iff_iff];simp
theorem qyE(k:IntKind)(a b:Nat):G.int2 .geq k (.ofNat a) (.ofNat b)=some (.bool (decide (b≤a))):=by
 show some (V.bool (!F.ltI (.ofNat a) (.ofNat b)))=_
 rw[F.Qas];congr 2;rw[Bool.eq_iff_iff];simp
theorem qxA(k:IntKind)(a b:Nat):G.int2 .eql k (.ofNat a) (.ofNat b)=some (.bool (decide (a=b))):=by
 show some (V.bool (F.eqI (.ofNat a) (.ofNat b)))=_
 rw[F.Qav];congr 2;rw[Bool.eq_iff_iff];simp[Int.natCast_inj]
theorem qq3(k:IntKind)(a b:Nat):G.int2 .neq k (.ofNat a) (.ofNat b)=some (.bool (decide (a≠b))):=by
 show some (V.bool (!F.eqI (.ofNat a) (.ofNat b)))=_
 rw[F.Qav];congr 2;rw[Bool.eq_iff_iff];simp[Int.natCast_inj]
theorem qaQ{p:Prop} [Decidable p](h:p):decide p=true:=decide_eq_true h
theorem qaY{p:Prop} [Decidable p](h:¬p):decide p=false:=decide_eq_false h
theorem qyA{k:IntKind}{a b:Nat}(h:b≠0):G.int2 .quo k (.ofNat a) (.ofNat b)=some (.int k (F.QaO k (.ofNat (a / b)))):=by
 show(if (Int.ofNat b)=0 then none else some (V.int k (k.wrap ((Int.ofNat a).tdiv (Int.ofNat b)))))=_
 rw[if_neg (by intro e;exact h (by simpa using e)),F.Qae]
 rfl
theorem qyz{k:IntKind}{a b:Nat}(h:b≠0):G.int2 .rem k (.ofNat a) (.ofNat b)=some (.int k (.ofNat (a % b))):=by
 show(if (Int.ofNat b)=0 then none else some (V.int k ((Int.ofNat a).tmod (Int.ofNat b))))=_
 rw[if_neg (by intro e;exact h (by simpa using e))]
 rfl
theorem qxy{k:IntKind}{a b:Nat}(h:b≤k.bits):G.int2 .shr k (.ofNat a) (.ofNat b)=some (.int k (.ofNat (a / 2 ^ b))):=by
 show(if (Int.ofNat b)<0 then none else some (V.int k ((Int.ofNat a).fdiv (2 ^ (min (Int.ofNat b).toNat k.bits)))))=_
 rw[if_neg (by simp)]
 have e:min (Int.ofNat b).toNat k.bits=b:=Nat.min_eq_left h
 rw[e]
 have e2:(2 ^ b:Int)=Int.ofNat (2 ^ b):=by simp
 rw[e2]
 have e3:(Int.ofNat a).fdiv (Int.ofNat (2 ^ b))=Int.ofNat (a / 2 ^ b):=by
  rw[Int.fdiv_eq_ediv_of_nonneg (Int.ofNat a) (show 0≤Int.ofNat (2 ^ b) from Int.natCast_nonneg _)];rfl
 rw[e3]
theorem qyy{k:IntKind}{a b:Nat}(h:b≤k.bits):G.int2 .shl k (.ofNat a) (.ofNat b)=some (.int k (F.QaO k (.ofNat (a*2 ^ b)))):=by
 show(if (Int.ofNat b)<0 then none else some (V.int k (k.wrap ((Int.ofNat a)*(2 ^ (min (Int.ofNat b).toNat k.bits))))))=_
 rw[if_neg (by simp)]
 have e:min (Int.ofNat b).toNat k.bits=b:=Nat.min_eq_left h
 rw[e,F.Qae]
 congr 3
theorem qxz{a b:Nat}(ha:a<18446744073709551616)(hb:b<18446744073709551616):G.int2 .or .u64 (.ofNat a) (.ofNat b)=some (.int .u64 (.ofNat (a ||| b))):=by
 show some (V.int .u64 (IntKind.u64.wrap (BitVec.ofInt 64 (Int.ofNat a) ||| BitVec.ofInt 64 (Int.ofNat b)).toNat))=_
 have e:(BitVec.ofInt 64 (Int.ofNat a) ||| BitVec.ofInt 64 (Int.ofNat b)).toNat=a ||| b:=by
  rw[BitVec.toNat_or]
  show(BitVec.ofInt 64 (a:Int)).toNat ||| (BitVec.ofInt 64 (b:Int)).toNat=_
  rw[BitVec.toNat_ofInt,BitVec.toNat_ofInt]
  congr 1<;>omega
 rw[e,←F.Qae]
 congr 2
 exact qek (Nat.or_lt_two_pow (n:=64) ha hb)
theorem qs9{a b:Nat}(ha:a<4294967296)(hb:b<4294967296):G.int2 .or .u32 (.ofNat a) (.ofNat b)=some (.int .u32 (.ofNat (a ||| b))):=by
 show some (V.int .u32 (IntKind.u32.wrap (BitVec.ofInt 32 (Int.ofNat a) ||| BitVec.ofInt 32 (Int.ofNat b)).toNat))=_
 have e:(BitVec.ofInt 32 (Int.ofNat a) ||| BitVec.ofInt 32 (Int.ofNat b)).toNat=a ||| b:=by
  rw[BitVec.toNat_or]
  show(BitVec.ofInt 32 (a:Int)).toNat ||| (BitVec.ofInt 32 (b:Int)).toNat=_
  rw[BitVec.toNat_ofInt,BitVec.toNat_ofInt]
  congr 1<;>omega
 rw[e,←F.Qae]
 congr 2
 exact qel (Nat.or_lt_two_pow (n:=32) ha hb)
theorem qoo{a b:Nat}(h:b≤64):G.int2 .shr .u64 (.ofNat a) (.ofNat b)=some (.int .u64 (.ofNat (a / 2 ^ b))):=qxy h
theorem qop{a b:Nat}(h:b≤32):G.int2 .shr .u32 (.ofNat a) (.ofNat b)=some (.int .u32 (.ofNat (a / 2 ^ b))):=qxy h
theorem qoq{a b:Nat}(h:b≤64):G.int2 .shl .u64 (.ofNat a) (.ofNat b)=some (.int .u64 (F.QaO .u64 (.ofNat (a*2 ^ b)))):=qyy h
theorem qxt{α β:Type}(c:α)(f:α→β):jn c f=f c:=rfl
theorem qmf(x y:R):brB (some true) x y=y:=rfl
theorem qkx(x y:R):brB (some false) x y=x:=rfl
theorem qnZ(a b:V):pick (.bool true) a b=some a:=rfl
theorem qmx(a b:V):pick (.bool false) a b=some b:=rfl
theorem qw6(b:Bool):G.un .not (.bool b)=some (.bool !b):=rfl
theorem qaJ(l:List V)(i:Nat):ext (.tuple l) i=F.QbB l i:=rfl
theorem qqh{α:Type}(x:α)(l:List α):F.QbB (x::l) 0=some x:=rfl
theorem qqi{α:Type}(x:α)(l:List α)(n:Nat):F.QbB (x::l) (n+1)=F.QbB l n:=rfl
theorem qgz(e:TypeId)(tok:Option Ref)(f:Bool)(sz:Nat)(l:List V):len (some (.slice e)) (.slice tok f sz l)=some (.int .i64 (.ofNat l.length)):=by
 show some (V.int .i64 (.ofNat (F.QaZ l)))=_
 rw[F.QaH]
theorem qk6(e:TypeId)(r:Ref)(o n:Nat)(li:Option Nat)(sz:Nat)(ag:Bool):len (some (.slice e)) (.arr r o n li sz ag)=some (.int .i64 (.ofNat n)):=rfl
theorem qiL(e:TypeId):len (some (.slice e)) .nils=some (.int .i64 (.ofNat 0)):=rfl
theorem qvT(s:Str):len (some .string) (.str s)=some (.int .i64 (.ofNat s.n)):=rfl
theorem qaD(k:IntKind)(d:List Nat):(nl k d).length=d.length:=by simp[nl]
theorem qn5(k:IntKind)(d:List Nat)(i:Nat)(h:i<d.length):F.QbB (nl k d) i=some (.int k (.ofNat (d.getD i 0))):=by
 rw[F.Qba]
 simp[nl,List.getElem?_eq_getElem h,List.getD_eq_getElem?_getD]
theorem qeB{t e:TypeId}{ag:Bool}(he:F.QaB P t=some e)(hl:F.Qax P e=some (1,ag))(tok:Option Ref)(f:Bool)(k k':IntKind)(d:List Nat)(i:Nat)(h:i<d.length) :
  ia P t (.slice tok f 1 (nl k d)) (.int k' (.ofNat i))=some (.iptr [.int k (.ofNat (d.getD i 0))]):=by
 show G.Qac (F.QaB P t) _ none=_
 rw[he]
 show G.Qac (F.Qax P e) _ none=_
 rw[hl]
 show(bif Nat.blt i (F.QaZ (nl k d))then G.Qac (F.QbB (nl k d) i) _ none else none)=_
 rw[F.QaH,qaD,show Nat.blt i d.length=true from by rw[Nat.blt_eq];exact h,qn5 k d i h]
 rfl
theorem ql1{t e:TypeId}{ag:Bool}(he:F.QaB P t=some e)(hl:F.Qax P e=some (1,ag))(r:Ref)(o n:Nat)(li:Option Nat)(ag':Bool)(k':IntKind)(i:Nat)(h:i<n) :
  ia P t (.arr r o n li 1 ag') (.int k' (.ofNat i))=some (.ptr r (o+i)):=by
 show G.Qac (F.QaB P t) _ none=_
 rw[he]
 show G.Qac (F.Qax P e) _ none=_
 rw[hl]
 show(bif Nat.blt i n then some (V.ptr r (Nat.add o (Nat.mul i 1)))else none)=_
 rw[show Nat.blt i n=true from by rw[Nat.blt_eq];exact h]
 show some (V.ptr r (o+i*1))=_
 rw[Nat.mul_one]
theorem qbO{t:TypeId}(hl:F.Qax P t=some (1,false))(v:V)(cs:List V)(l:Lo)(h:Hp):ld P t (.iptr (v::cs)) l h=some v:=by
 show G.part (F.Qax P t) (v::cs) 0=_
 rw[hl];rfl
noncomputable def ldc(P:Program)(t:TypeId)(g o:Nat)(row:Nat × Row):Option V:=G.onCells row.2 (fun _ cs=>bif Nat.beq g row.1 then G.part (F.Qax P t) cs o else none) none
theorem qxs(t:TypeId)(s g o:Nat)(l:Lo)(h:Hp):ld P t (.ptr (.loc s g) o) l h=ldc P t g o (lg l s):=rfl
theorem qgB{t:TypeId}(hl:F.Qax P t=some (1,false))(g o:Nat)(frz:Bool)(cs:List V):ldc P t g o (g,.cells frz cs)=F.QbB cs o:=by
 show(bif Nat.beq g g then G.part (F.Qax P t) cs o else none)=_
 rw[Nat.beq_refl,hl];rfl
noncomputable def ldg(P:Program)(t:TypeId)(o:Nat)(row:Option Row):Option V:=G.Qac row (fun row=>G.onCells row (fun _ cs=>G.part (F.Qax P t) cs o) none) none
theorem qvU(t:TypeId)(r o:Nat)(l:Lo)(h:Hp):ld P t (.ptr (.glob r) o) l h=ldg P t o (F.QbB h.rows r):=rfl
theorem qa9{t:TypeId}(hl:F.Qax P t=some (1,false))(o:Nat)(frz:Bool)(cs:List V):ldg P t o (some (.cells frz cs))=F.QbB cs o:=by
 show G.part (F.Qax P t) cs o=_
 rw[hl];rfl
theorem qfQ(k:IntKind)(d:List Nat)(i x:Nat)(h:i<d.length):setAt (nl k d) i [.int k (.ofNat x)]=some (nl k (d.set i x)):=by
 unfold setAt
 simp only[List.length_cons,List.length_nil,qaD]
 rw[show Nat.ble (i+(0+1)) d.length=true from by rw[Nat.ble_eq];omega]
 simp only[cond_true,nl,Option.some.injEq,←List.map_take,←List.map_drop]
 rw[List.set_eq_take_append_cons_drop,if_pos h]
 simp
variable {C:Cfg}{call:Qad}{gl:Nat→Bool}{o:Oper}{t' tm:Tm}{loc:Lo}{hp:Hp}{j:V→Lo→Hp→R}
theorem qaL{d:Nat}{v:V}{st:St}(hd:o.dst=some d)(h:Qah P C gl ⟨t',loc,hp⟩ o=some (.val v st)):gen P C call gl o t' tm loc hp j=j v st.loc st.hp:=by
 unfold gen
 rw[F.QbL]
 unfold QaA
 rw[h]
 simp only[QaF,hd]
 show j (gt (aset st.tm d v) d) st.loc st.hp=_
 rw[qcN,qaI,if_pos rfl]
theorem ql6{v:V}{st:St}(hd:o.dst=none)(h:Qah P C gl ⟨t',loc,hp⟩ o=some (.val v st)):gen P C call gl o t' tm loc hp j=j (.tuple []) st.loc st.hp:=by
 unfold gen
 rw[F.QbL]
 unfold QaA
 rw[h]
 simp only[QaF,hd]
 rfl
theorem qj4(h:Qah P C gl ⟨t',loc,hp⟩ o=none):gen P C call gl o t' tm loc hp j=none:=by
 unfold gen
 rw[F.QbL]
 unfold QaA
 rw[h];rfl
theorem qbI(s:St)(i:Nat):s.ρ i=gt s.tm i:=by rw[qcN];rfl
theorem qaB(s:St)(i:Nat):AM.opd s.ρ (.tmp i)=gt s.tm i:=qbI s i
theorem qdZ(s:St)(i:Nat):s.lc i=lg s.loc i:=by unfold lg;rw[F.QbV];rfl
theorem qbs(loc:Lo)(i:Nat)(x:Nat × Row):aset loc i x=lp loc i x:=by unfold lp;rw[F.Qcc];rfl
noncomputable def cvt(k:IntKind)(v:V)(f:V→R):R:=G.QbI v (fun _ n=>f (.int k (F.QaO k n))) none
theorem qwC(k k':IntKind)(n:Int)(f:V→R):cvt k (.int k' n) f=f (.int k (F.QaO k n)):=rfl
theorem qlg{d x:Nat}{s t:TypeId}{ks kd:IntKind}(hd:o.dst=some d)(ho:o.op=.convert s t (.tmp x))(h1:P.underlying s=some (.int ks))(h2:P.underlying t=some (.int kd)){k:IntKind}{n:Int}(hv:gt t' x=.int k n) :
  gen P C call gl o t' tm loc hp j=j (.int kd (F.QaO kd n)) loc hp:=by
 refine qaL (v:=.int kd (F.QaO kd n)) (st:=⟨t',loc,hp⟩) hd ?_
 have hp1:Qal P C gl (⟨t',loc,hp⟩:St).ρ (⟨t',loc,hp⟩:St).lc o=some (.int kd (F.QaO kd n),none):=by
  unfold Qal
  simp only[ho,Qam,qaB,hv,Qcr,h1,h2,F.Qae,Option.map_some]
 unfold Qah
 rw[hp1];rfl
theorem qv8{d:Nat}{x:Operand}{t:TypeId}{v:V}(hd:o.dst=some d)(ho:o.op=.box t x)(ha:C.QaN t=false)(hg:gl d=false)(hv:AM.opd (⟨t',loc,hp⟩:St).ρ x=v)(hl:v.live=true) :
  gen P C call gl o t' tm loc hp j=j (.ptr (.loc d ((lg loc d).1+1)) 0) (lp loc d ((lg loc d).1+1,.cells false v.cells)) hp:=by
 refine qaL (v:=.ptr (.loc d ((lg loc d).1+1)) 0) (st:=⟨t',lp loc d ((lg loc d).1+1,.cells false v.cells),hp⟩) hd ?_
 have hp1:Qal P C gl (⟨t',loc,hp⟩:St).ρ (⟨t',loc,hp⟩:St).lc o=some (.ptr (.loc d ((lg loc d).1+1)) 0,some (d,(lg loc d).1+1,.cells false v.cells)):=by
  unfold Qal
  simp only[ho,hd,ha,hg,hv,hl,qdZ,cond_false,Bool.false_or,Bool.not_true]
 unfold Qah
 rw[hp1]
 simp only[Qa4,qbs]
theorem qsO{t:TypeId}{z:V}{n:Nat}(hz:F.zeroV P t=some z)(hn:F.QbG P t=some n)(hl:z.live=true)(hc:F.QaZ z.cells=n)(d:Nat)(loc:Lo)(j:V→Lo→R) :
  al P t d loc j=j (.ptr (.loc d ((lg loc d).1+1)) 0) (lp loc d ((lg loc d).1+1,.cells false z.cells)):=by
 unfold al
 rw[hz,hn]
 show(bif z.live&&Nat.beq (F.QaZ z.cells) n then _ else none)=_
 rw[hl,hc,Nat.beq_refl]
 rfl
theorem qv7{d:Nat}{x:Operand}{t e:TypeId}{k:IntKind}{n:Int}(hd:o.dst=some d)(ho:o.op=.buildSlice t 1 #[(0,x)])(ha:C.QaN t=true)(hg:gl d=false)(he:QaB P t=some e)(hl:Qax P e=some (1,false))
  {k0:IntKind} {n0:Int} (hz:zeroV P e=some (.int k0 n0)) (hv:AM.opd (⟨t',loc,hp⟩:St).ρ x=.int k n) :
  gen P C call gl o t' tm loc hp j=j (.arr (.loc d ((lg loc d).1+1)) 0 1 (some 1) 1 false) (lp loc d ((lg loc d).1+1,.cells false [.int k n])) hp:=by
 refine qaL (v:=.arr (.loc d ((lg loc d).1+1)) 0 1 (some 1) 1 false) (st:=⟨t',lp loc d ((lg loc d).1+1,.cells false [.int k n]),hp⟩) hd ?_
 have hp1:Qal P C gl (⟨t',loc,hp⟩:St).ρ (⟨t',loc,hp⟩:St).lc o=none:=by
  unfold Qal
  simp only[ho,Qam,he,hl,hz,ha,Bool.not_true,Bool.false_and,cond_false,Option.map_none]
 unfold Qah
 rw[hp1]
 unfold stepG
 simp only[ho,hd,he,hl,hz,opds,List.map_cons,List.map_nil,hv,exps,exp,exp1,V.live,V.Qap,Bool.and_self,cond_true,ha,hg,Qaa,cond_false,qdZ,qbs]
 rfl
theorem qiP{d:Nat}{x:Operand}{t e:TypeId}{k:IntKind}{n:Nat}(hd:o.dst=some d)(ho:o.op=.buildSlice t 1 #[(0,x)])(ha:C.QaN t=true)(hg:gl d=false)(he:QaB P t=some e)(hl:Qax P e=some (1,false))
  {k0:IntKind} {n0:Int} (hz:zeroV P e=some (.int k0 n0)) (hv:AM.opd (⟨t',loc,hp⟩:St).ρ x=.int k (.ofNat n)) :
  gen P C call gl o t' tm loc hp j=j (.arr (.loc d ((lg loc d).1+1)) 0 1 (some 1) 1 false) (lp loc d ((lg loc d).1+1,.cells false (nl k [n]))) hp:=qv7 hd ho ha hg he hl hz hv
theorem qeG{d:Nat}{x:Nat}{t e:TypeId}{n b:Nat}{k1 k2:IntKind}(hd:o.dst=some d)(ho:o.op=.makeSlice t (.tmp x) (.tmp x))(hg:gl d=false)(he:QaB P t=some e)(hl:Qax P e=some (1,false))(hb:(P.info? e).map (·.bytes)=some b)
  (hz:zeroV P e=some (.int k2 (.ofNat 0))) (hv:gt t' x=.int k1 (.ofNat n)) (hn:n*b≤70368744177664) (hn2:n≤70368744177664) :
  gen P C call gl o t' tm loc hp j=j (.arr (.loc d ((lg loc d).1+1)) 0 n (some n) 1 false) (lp loc d ((lg loc d).1+1,.cells false (nl k2 (List.replicate n 0)))) hp:=by
 have hf:flat (List.replicate n (V.int k2 (.ofNat 0)))=nl k2 (List.replicate n 0):=by
  unfold flat nl
  rw[List.map_replicate]
  clear hv hn hn2
  induction n with
  | zero=>rfl
  | succ n ih=>rw[List.replicate_succ,List.flatMap_cons,ih];rfl
 refine qaL (v:=.arr (.loc d ((lg loc d).1+1)) 0 n (some n) 1 false) (st:=⟨t',lp loc d ((lg loc d).1+1,.cells false (nl k2 (List.replicate n 0))),hp⟩) hd ?_
 have hp1:Qal P C gl (⟨t',loc,hp⟩:St).ρ (⟨t',loc,hp⟩:St).lc o=none:=by
  unfold Qal
  simp only[ho,Qam,Option.map_none]
 unfold Qah
 rw[hp1]
 unfold stepG
 simp only[ho,hd,qaB,hv,QbZ,he,hl,hb,hz]
 rw[show Nat.ble n n=true from by rw[Nat.ble_eq];exact Nat.le_refl n,show Nat.ble (n*b) Qaj=true from by rw[Nat.ble_eq];exact hn,show Nat.ble n Qaj=true from by rw[Nat.ble_eq];exact hn2]
 simp only[V.cells,List.length_cons,List.length_nil,V.live,Bool.and_self,hg,Qaa,cond_false,cond_true,qdZ,qbs,hf]
 rfl
def Ar(loc:Lo)(d:Nat)(v:V)(k:IntKind)(l:List Nat):Prop :=
 (l=[]∧v=.nils)∨(l≠[]∧∃ g,v=.arr (.loc d g) 0 l.length none 1 false∧lg loc d=(g,.cells false (nl k l)))
theorem qcF(k:IntKind)(l:List Nat):flat (nl k l)=nl k l:=by
 unfold flat nl
 induction l with
 | nil=>rfl
 | cons x l ih=>rw[List.map_cons,List.flatMap_cons,ih];rfl
theorem qsE(k:IntKind)(l:List Nat):chunk 1 false l.length (nl k l)=nl k l:=by
 unfold nl
 induction l with
 | nil=>rfl
 | cons x l ih =>
  simp only[List.length_cons,List.map_cons,chunk,cond_false,List.headD_cons,List.drop_succ_cons,List.drop_zero,ih]
  rfl
theorem qap{s g:Nat}{row:Row}{st:St}(h:lg st.loc s=(g,row)):Qab st (.loc s g)=some row:=by
 show(bif Nat.beq (st.lc s).1 g then some (st.lc s).2 else none)=_
 rw[qdZ,h]
 simp
theorem qca(st:St)(s g:Nat)(row:Row):setRow st (.loc s g) row=⟨st.tm,lp st.loc s (g,row),st.hp⟩:=by
 show(⟨st.tm,aset st.loc s (g,row),st.hp⟩:St)=_
 rw[qbs]
theorem qdp(k:IntKind)(a b:List Nat):nl k (a++b)=nl k a++nl k b:=by simp[nl]
theorem qdo(k:IntKind)(l:List Nat):V.Qak (nl k l)=true:=by
 unfold nl
 induction l with
 | nil=>rfl
 | cons x l ih=>simp only[List.map_cons,V.Qak,V.Qap,ih,Bool.and_self]
theorem qcc(k:IntKind)(l:List Nat):V.Qaf (nl k l)=true:=by
 unfold nl
 induction l with
 | nil=>rfl
 | cons x l ih=>simp only[List.map_cons,V.Qaf,V.Qao,ih,Bool.and_self]
theorem qbS(k:IntKind)(l:List Nat):(nl k l).all (fun v=>Nat.beq v.cells.length 1&&v.cells.all V.Qaw)=true:=by
 unfold nl
 induction l with
 | nil=>rfl
 | cons x l ih=>simp only[List.map_cons,List.all_cons,ih,Bool.and_true];rfl
theorem qj8{d x:Nat}{s t:TypeId}{ks kd:IntKind}(hd:o.dst=some d)(ho:o.op=.convert s t (.tmp x))(h1:P.underlying s=some (.int ks))(h2:P.underlying t=some (.int kd)) :
  gen P C call gl o t' tm loc hp j=cvt kd (gt t' x) (fun v=>j v loc hp):=by
 have stuck:(∀ k n,gt t' x≠.int k n)→gen P C call gl o t' tm loc hp j=none:=by
  intro hn
  refine qj4 ?_
  have hp1:Qal P C gl (⟨t',loc,hp⟩:St).ρ (⟨t',loc,hp⟩:St).lc o=none:=by
   unfold Qal
   simp only[ho,Qam,qaB,Qcr,h1,h2]
   cases hv:gt t' x<;>first | rfl | exact absurd hv (hn _ _)
  unfold Qah
  rw[hp1]
  unfold stepG
  simp only[ho,hd,QbS,h1,h2]
 cases hv:gt t' x with
 | int k n=>exact qlg hd ho h1 h2 hv
 | _=>rw[stuck (fun k n=>by rw[hv];simp)];rfl
noncomputable def bx(d:Nat)(v:V)(l:Lo)(f:V→Lo→R):R:=bif v.live then f (.ptr (.loc d ((lg l d).1+1)) 0) (lp l d ((lg l d).1+1,.cells false v.cells))else none
theorem qwK{v:V}(hv:v.live=true)(d:Nat)(l:Lo)(f:V→Lo→R):bx d v l f=f (.ptr (.loc d ((lg l d).1+1)) 0) (lp l d ((lg l d).1+1,.cells false v.cells)):=by unfold bx;rw[hv];rfl
theorem qxS(cs:List V)(d:Nat)(l:Lo)(f:V→Lo→R):bx d (.agg cs) l f=f (.ptr (.loc d ((lg l d).1+1)) 0) (lp l d ((lg l d).1+1,.cells false cs)):=rfl
theorem qrm{d x:Nat}{t:TypeId}(hd:o.dst=some d)(ho:o.op=.box t (.tmp x))(ha:C.QaN t=false)(hg:gl d=false) :
  gen P C call gl o t' tm loc hp j=bx d (gt t' x) loc (fun v l=>j v l hp):=by
 cases hl:(gt t' x).live with
 | true =>
  rw[qwK hl]
  exact qv8 hd ho ha hg (qaB _ _) hl
 | false =>
  unfold bx
  rw[hl]
  refine qj4 ?_
  have hp1:Qal P C gl (⟨t',loc,hp⟩:St).ρ (⟨t',loc,hp⟩:St).lc o=none:=by
   unfold Qal
   simp only[ho,hd,ha,hg,qaB,hl,cond_false,Bool.false_or,Bool.not_false,cond_true]
  unfold Qah
  rw[hp1]
  unfold stepG
  have hv:gt t' x=.dead:=by
   cases h:gt t' x<;>rw[h]at hl<;>first | rfl | simp[V.live]at hl
  simp only[ho,hd,qaB,hv,exp,exp1,V.live,Bool.false_and,cond_false]
noncomputable def one(d:Nat)(v:V)(l:Lo)(f:V→Lo→R):R:=G.QbI v (fun k n=>f (.arr (.loc d ((lg l d).1+1)) 0 1 (some 1) 1 false) (lp l d ((lg l d).1+1,.cells false [.int k n]))) none
theorem qtW(d:Nat)(k:IntKind)(n:Nat)(l:Lo)(f:V→Lo→R):one d (.int k (.ofNat n)) l f=f (.arr (.loc d ((lg l d).1+1)) 0 1 (some 1) 1 false) (lp l d ((lg l d).1+1,.cells false (nl k [n]))):=rfl
noncomputable def stc(P:Program)(t g off:Nat)(x:V)(row:Nat × Row)(f:Nat × Row→R):R :=
 G.onCells row.2 (fun frz cs=>Bool.rec (motive:=fun _=>R)
  (bif Nat.beq g row.1&&F.QcN V.Qaw x.cells&&F.QaR P t (F.QaZ x.cells)then
   G.Qac (F.setAt cs off x.cells) (fun cs'=>f (g,.cells false cs')) none else none) none frz) none
theorem qtE(t:TypeId)(s g off:Nat)(x:V)(loc:Lo)(j:Lo→R):stL P t s g off x loc j=stc P t g off x (lg loc s) (fun row=>j (lp loc s row)):=rfl
theorem qbV{t:TypeId}(hl:F.QaR P t 1=true)(off:Nat)(d:List Nat)(h:off<d.length)(g:Nat)(k':IntKind)(n:Nat)(f:Nat × Row→R) :
  stc P t g off (.int k' (.ofNat n)) (g,.cells false (nl k' d)) f=f (g,.cells false (nl k' (d.set off n))):=by
 show(bif Nat.beq g g&&true&&F.QaR P t 1 then G.Qac (F.setAt (nl k' d) off [.int k' (.ofNat n)]) _ none else none)=_
 rw[Nat.beq_refl,hl,F.QbD,qfQ k' d off n h]
 rfl
theorem qah{t:TypeId}(hl:F.QaR P t 2=true)(g:Nat)(a b x y:V)(f:Nat × Row→R)(ha:a.Qaw=true)(hb:b.Qaw=true) :
  stc P t g 0 (.agg [a,b]) (g,.cells false [x,y]) f=f (g,.cells false [a,b]):=by
 show(bif Nat.beq g g&&F.QcN V.Qaw [a,b]&&F.QaR P t 2 then G.Qac (F.setAt [x,y] 0 [a,b]) _ none else none)=_
 rw[Nat.beq_refl,show F.QcN V.Qaw [a,b]=true from by rw[F.Qbm];simp[ha,hb],hl,F.QbD]
 rfl
theorem qaz{t:TypeId}(hl:F.Qax P t=some (2,true))(g:Nat)(frz:Bool)(a b:V):ldc P t g 0 (g,.cells frz [a,b])=some (.agg [a,b]):=by
 show(bif Nat.beq g g then G.part (F.Qax P t) [a,b] 0 else none)=_
 rw[Nat.beq_refl,hl];rfl
theorem qar{t:TypeId}(hl:F.Qax P t=some (1,false))(g:Nat)(frz:Bool)(a:V)(l:List V):ldc P t g 0 (g,.cells frz (a::l))=some a:=by
 rw[qgB hl];rfl
theorem qao{t:TypeId}(hl:F.Qax P t=some (1,false))(g:Nat)(frz:Bool)(a b:V)(l:List V):ldc P t g 1 (g,.cells frz (a::b::l))=some b:=by
 rw[qgB hl];rfl
theorem qb4{t:TypeId}(hl:F.Qax P t=some (1,false))(g:Nat)(frz:Bool)(k:IntKind)(d:List Nat)(i:Nat)(h:i<d.length):ldc P t g i (g,.cells frz (nl k d))=some (.int k (.ofNat (d.getD i 0))):=by
 rw[qgB hl,qn5 k d i h]
theorem qen{t e:TypeId}{ag:Bool}(he:F.QaB P t=some e)(hl:F.Qax P e=some (1,ag))(tok:Option Ref)(f:Bool)(k k':IntKind)(d:List Nat)(i:Nat)(h:i<d.length) :
  slc P t (.slice tok f 1 (nl k d)) none (some (.int k' (.ofNat i))) none=some (.slice none false 1 (nl k (d.take i))):=by
 show F.Qbd P t (.slice tok f 1 (nl k d)) none (some (.ofNat i)) none=_
 unfold F.Qbd
 simp only[he,hl,Nat.beq_refl,cond_true]
 unfold F.Qbn
 simp only[Option.getD_some,F.Qau,F.QaH,qaD]
 rw[show Nat.ble i d.length=true from by rw[Nat.ble_eq];omega]
 simp only[cond_true,Option.getD_none]
 rw[show Nat.ble 0 i=true from Nat.ble_eq ▸ Nat.zero_le i]
 simp only[cond_true]
 rw[show Nat.beq i d.length=false from by
  cases hb:Nat.beq i d.length with
  | false=>rfl
  | true=>rw[Nat.beq_eq]at hb;omega]
 simp only[cond_false,F.QbT,F.Qbq,List.drop_zero]
 simp[nl,List.map_take]
theorem qgM{t1 t2:Tm}(h:∀ x ∈ tmpsOf o,gt t1 x=gt t2 x):gen P C call gl o t1 tm loc hp j=gen P C call gl o t2 tm loc hp j:=by
 have hag:Agree (⟨t1,loc,hp⟩:St).ρ (St.ρ ((⟨t1,loc,hp⟩:St).as t2)) o:=by
  intro x hx
  cases x with
  | tmp t =>
   have ht:t ∈ tmpsOf o:=by unfold tmpsOf;rw[List.mem_filterMap];exact⟨.tmp t,hx,rfl⟩
   have:=h t ht
   rw[qcN,qcN]at this
   exact this
  | _=>rfl
 have hs:=qh4 (P:=P) (C:=C) (gl:=gl) hag
 have e2:(⟨t1,loc,hp⟩:St).as t2=⟨t2,loc,hp⟩:=rfl
 rw[e2]at hs
 unfold gen
 rw[F.QbL]
 unfold QaA
 rw[hs]
 cases Qah P C gl ⟨t1,loc,hp⟩ o with
 | none=>rfl
 | some r =>
  have key:∀ (st:St) (v:V),gtO (QaF st o.dst v).tm o.dst=gtO (QaF (st.as t2) o.dst v).tm o.dst∧(QaF st o.dst v).loc=(QaF (st.as t2) o.dst v).loc∧(QaF st o.dst v).hp=(QaF (st.as t2) o.dst v).hp:=by
   intro st v
   cases o.dst with
   | none=>exact⟨rfl,rfl,rfl⟩
   | some d =>
    refine⟨?_,rfl,rfl⟩
    show gt (aset st.tm d v) d=gt (aset t2 d v) d
    rw[qcN,qcN,qaI,qaI,if_pos rfl,if_pos rfl]
  cases r with
  | val v st =>
   show j (gtO (QaF st o.dst v).tm o.dst) (QaF st o.dst v).loc (QaF st o.dst v).hp=j (gtO (QaF (st.as t2) o.dst v).tm o.dst) (QaF (st.as t2) o.dst v).loc (QaF (st.as t2) o.dst v).hp
   rw[(key st v).1,(key st v).2.1,(key st v).2.2]
  | enter f args st =>
   simp only[Option.map_some,Res.as]
   show G.Qac (match call f args st.hp with
    | some (.val v h)=>some (Ex.normal,QaF { st with hp:=h } o.dst v)
    | some (.panic v h)=>some (.panic v,{ st with hp:=h })
    | none=>none) _ none=G.Qac (match call f args st.hp with
    | some (.val v h)=>some (Ex.normal,QaF { (st.as t2)with hp:=h } o.dst v)
    | some (.panic v h)=>some (.panic v,{ (st.as t2)with hp:=h })
    | none=>none) _ none
   cases call f args st.hp with
   | none=>rfl
   | some out =>
    cases out with
    | val v h =>
     have:=key { st with hp:=h } v
     show j (gtO (QaF { st with hp:=h } o.dst v).tm o.dst) (QaF { st with hp:=h } o.dst v).loc (QaF { st with hp:=h } o.dst v).hp=j (gtO (QaF { (st.as t2)with hp:=h } o.dst v).tm o.dst) (QaF { (st.as t2)with hp:=h } o.dst v).loc (QaF { (st.as t2)with hp:=h } o.dst v).hp
     rw[this.1,this.2.1,this.2.2];rfl
    | panic v h=>rfl
  | panic v st=>rfl
theorem qbD{g:Nat}{f:Bool}{k:IntKind}{ys:List Nat}{d2:Nat}{li:Option Nat}(h:lg loc d2=(g,.cells f (nl k ys))):Qag ⟨t',loc,hp⟩ (.arr (.loc d2 g) 0 ys.length li 1 false)=some (nl k ys):=by
 have h2:Qab ⟨t',loc,hp⟩ (.loc d2 g)=some (.cells f (nl k ys)):=qap h
 simp only[Qag,h2,Nat.mul_one,Nat.zero_add,qaD,List.drop_zero]
 rw[show Nat.ble ys.length ys.length=true from by rw[Nat.ble_eq];exact Nat.le_refl _]
 simp only[Nat.beq_refl,Bool.or_true,Bool.and_self,cond_true]
 have:=qsE k ys
 rw[this]
structure ApI(P:Program)(o:Oper)(d x y t:Nat):Prop where
 dst:o.dst=some d
 op:∃ c,o.op=.call c∧c.callee=.builtin .append∧c.args = #[.tmp x,.tmp y]∧c.argTypes[0]? = some t∧Qbv P c.argTypes[1]? = true
theorem qrk {d x y t e b : Nat} (hi : ApI P o d x y t) (hA : C.QaN t = true) (hg : gl d = false) (he : QaB P t = some e) (hl : Qax P e = some (1, false)) (hb : Qb1 P e = some b) (hxy : x ≠ y)
    {k : IntKind} {l ys : List Nat} {v w : V} (hv : Ar loc d v k l) (hw : ∀ tm hp, Qag ⟨tm, loc, hp⟩ w = some (nl k ys)) (hys : ys ≠ []) (hn : (l.length + ys.length) * b ≤ 70368744177664) :
    ∃ v' loc', (∀ (call : Qad) (tm : Tm) (hp : Hp) (j : V → Lo → Hp → R), gen P C call gl o (pt (pt .lf x v) y w) tm loc hp j = j v' loc' hp) ∧ Ar loc' d v' k (l ++ ys) ∧ ∀ i, i ≠ d → lg loc' i = lg loc i := by
  obtain ⟨hd, c, ho, hc, ha, hty, hni⟩ := hi
  have hx : gt (pt (pt .lf x v) y w) x = v := by rw [qal, if_neg (Ne.symm hxy), qal, if_pos rfl]
  have hy : gt (pt (pt .lf x v) y w) y = w := by rw [qal, if_pos rfl]
  have hp1 : ∀ (tm : Tm) hp, Qal P C gl (⟨tm, loc, hp⟩ : St).ρ (⟨tm, loc, hp⟩ : St).lc o = none := by
    intro tm hp
    unfold Qal
    simp only [ho, Qam, hc, ha, Option.map_none]
  have hne : ∀ {q : Prop}, nl k ys = [] → q := fun h => absurd (by simpa [nl] using h) hys
  have hmb : ∀ n, n ≤ 70368744177664 → Nat.ble n Qaj = true := fun n h => by rw [Nat.ble_eq]; exact h
  rcases hv with ⟨rfl, rfl⟩ | ⟨hl0, g, rfl, hrow⟩
  · refine ⟨.arr (.loc d ((lg loc d).1 + 1)) 0 ys.length none 1 false, lp loc d ((lg loc d).1 + 1, .cells false (nl k ys)), fun call tm hp j => qaL (st := ⟨pt (pt .lf x .nils) y w, lp loc d ((lg loc d).1 + 1, .cells false (nl k ys)), hp⟩) hd ?_, .inr ⟨by simpa using hys, (lg loc d).1 + 1, by simp, by rw [qbr, if_pos rfl]; simp⟩, fun i hi => by rw [qbr, if_neg (Ne.symm hi)]⟩
    unfold Qah
    rw [hp1]
    unfold stepG
    simp only [ho, QaP, hc, hty, hd, opds, ha, List.map_cons, List.map_nil, qaB, hx, hy, hni, cond_true, Qai, he, hl, hb, hw, qbS]
    split
    · rename_i h0; exact hne h0
    · rw [hmb _ (by simpa [qaD] using hn)]
      simp only [cond_true, hA, Qay, hg, Bool.false_and, cond_false, Qaa, qdZ, qbs, qcF, qaD]
  · have hrow' : ∀ tm hp, Qab ⟨tm, loc, hp⟩ (.loc d g) = some (.cells false (nl k l)) := fun tm hp => qap hrow
    refine ⟨.arr (.loc d (g + 1)) 0 (l ++ ys).length none 1 false, lp (lp loc d (g, .gone)) d (g + 1, .cells false (nl k (l ++ ys))), fun call tm hp j => qaL (st := ⟨pt (pt .lf x (.arr (.loc d g) 0 l.length none 1 false)) y w, lp (lp loc d (g, .gone)) d (g + 1, .cells false (nl k (l ++ ys))), hp⟩) hd ?_, .inr ⟨by simp [hl0], _, rfl, by rw [qbr, if_pos rfl]⟩, fun i hi => by rw [qbr, if_neg (Ne.symm hi), qbr, if_neg (Ne.symm hi)]⟩
    · unfold Qah
      rw [hp1]
      unfold stepG
      simp only [ho, QaP, hc, hty, hd, opds, ha, List.map_cons, List.map_nil, qaB, hx, hy, hni, cond_true, Qai, he, hl, hb, hw, qbS, hrow', qaD, Nat.beq_refl, beq_self_eq_true, Bool.and_self, Nat.zero_add, Nat.mul_one]
      rw [show Nat.ble l.length l.length = true from by rw [Nat.ble_eq]; exact Nat.le_refl _, hmb _ hn]
      simp only [Bool.and_self, cond_true]
      split
      · rename_i h0; exact hne h0
      · simp only [Qa3, Bool.not_true, Bool.false_and, cond_false]
        rw [show Nat.ble (l.length + ys.length) l.length = false from by
          cases hb : Nat.ble (l.length + ys.length) l.length with
          | false => rfl
          | true => rw [Nat.ble_eq] at hb; have : ys.length ≠ 0 := by simpa using hys
                    omega]
        simp only [cond_false, Qay, hg, Bool.false_and, qca, Qaa, qdZ, qbr, if_true, qbs, qcF, qdp, List.length_append, cond_true]
theorem qrh{d x y t e b d2:Nat}(hi:ApI P o d x y t)(hA:C.QaN t=true)(hg:gl d=false)(he:QaB P t=some e)(hl:Qax P e=some (1,false))(hb:Qb1 P e=some b)(hxy:x≠y)(h2:d2≠d)
  {loc:Lo} {k:IntKind} {l:List Nat} {v:V} (n:Nat) (hv:Ar loc d v k l) (hn:(l.length+1)*b≤70368744177664) :
  ∃ v' loc',(∀ (call:Qad) (tm:Tm) (hp:Hp) (j:V→Lo→Hp→R),gen P C call gl o (pt (pt .lf x v) y (.arr (.loc d2 ((lg loc d2).1+1)) 0 1 (some 1) 1 false)) tm (lp loc d2 ((lg loc d2).1+1,.cells false (nl k [n]))) hp j=j v' loc' hp)∧Ar loc' d v' k (l++[n])∧∀ i,i≠d→i≠d2→lg loc' i=lg loc i:=by
 have hv':Ar (lp loc d2 ((lg loc d2).1+1,.cells false (nl k [n]))) d v k l:=by
  rcases hv with h | ⟨h0,g,h1,h2'⟩
  ·exact .inl h
  ·exact .inr ⟨h0,g,h1,by rw[qbr,if_neg h2];exact h2'⟩
 obtain⟨v',loc',h1,h3,h4⟩:=qrk (P:=P) (C:=C) (gl:=gl) (o:=o) hi hA hg he hl hb hxy (ys:=[n]) (w:=.arr (.loc d2 ((lg loc d2).1+1)) 0 1 (some 1) 1 false) hv' (fun tm hp=>qbD (ys:=[n]) (by rw[qbr,if_pos rfl])) (by simp) hn
 exact⟨v',loc',h1,h3,fun i a b=>by rw[h4 i a,qbr,if_neg (Ne.symm b)]⟩
def Tk(loc:Lo)(d:Nat)(v:V)(k:IntKind)(l:List Nat):Prop :=
 (l=[]∧v=.nils)∨(l≠[]∧∃ g,v=.slice (some (.loc d g)) false 1 (nl k l)∧lg loc d=(g,.tok))
theorem qoz{d x y t e b:Nat}(hi:ApI P o d x y t)(hA:C.QaN t=false)(hg:gl d=false)(he:QaB P t=some e)(hl:Qax P e=some (1,false))(hb:Qb1 P e=some b)(hxy:x≠y)
  {k:IntKind} {l ys:List Nat} {v:V} {tk:Option Ref} {fu:Bool} (hv:Tk loc d v k l) (hys:ys≠[]) (hn:(l.length+ys.length)*b≤70368744177664) :
  ∃ v' loc',(∀ (call:Qad) (tm:Tm) (hp:Hp) (j:V→Lo→Hp→R),gen P C call gl o (pt (pt .lf x v) y (.slice tk fu 1 (nl k ys))) tm loc hp j=j v' loc' hp)∧Tk loc' d v' k (l++ys)∧∀ i,i≠d→lg loc' i=lg loc i:=by
 obtain⟨hd,c,ho,hc,ha,hty,hni⟩:=hi
 have hx:gt (pt (pt .lf x v) y (.slice tk fu 1 (nl k ys))) x=v:=by rw[qal,if_neg (Ne.symm hxy),qal,if_pos rfl]
 have hy:gt (pt (pt .lf x v) y (.slice tk fu 1 (nl k ys))) y=.slice tk fu 1 (nl k ys):=by rw[qal,if_pos rfl]
 have hp1:∀ (tm:Tm) hp,Qal P C gl (⟨tm,loc,hp⟩:St).ρ (⟨tm,loc,hp⟩:St).lc o=none:=by
  intro tm hp
  unfold Qal
  simp only[ho,Qam,hc,ha,Option.map_none]
 have hne:∀ {q:Prop},nl k ys=[]→q:=fun h=>absurd (by simpa[nl]using h) hys
 have hmb:∀ n,n≤70368744177664→Nat.ble n Qaj=true:=fun n h=>by rw[Nat.ble_eq];exact h
 rcases hv with ⟨rfl,rfl⟩ | ⟨hl0,g,rfl,hrow⟩
 ·refine⟨.slice (some (.loc d ((lg loc d).1+1))) false 1 (nl k ys),lp loc d ((lg loc d).1+1,.tok),fun call tm hp j=>qaL (st:=⟨pt (pt .lf x .nils) y (.slice tk fu 1 (nl k ys)),lp loc d ((lg loc d).1+1,.tok),hp⟩) hd ?_,.inr ⟨by simpa using hys,(lg loc d).1+1,by simp,by rw[qbr,if_pos rfl]⟩,fun i hi=>by rw[qbr,if_neg (Ne.symm hi)]⟩
  ·unfold Qah
   rw[hp1]
   unfold stepG
   simp only[ho,QaP,hc,hty,hd,opds,ha,List.map_cons,List.map_nil,qaB,hx,hy,hni,cond_true,Qai,he,hl,hb,Qag,qbS]
   split
   ·rename_i h0;exact hne h0
   ·rw[hmb _ (by simpa[qaD]using hn)]
    simp only[cond_true,hA,cond_false,qcc,QaG,hg,Qaa,qdZ,qbs]
 ·have hrow':∀ tm hp,Qab ⟨tm,loc,hp⟩ (.loc d g)=some .tok:=fun tm hp=>qap hrow
  refine⟨.slice (some (.loc d (g+1))) false 1 (nl k (l++ys)),lp (lp loc d (g,.gone)) d (g+1,.tok),fun call tm hp j=>qaL (st:=⟨pt (pt .lf x (.slice (some (.loc d g)) false 1 (nl k l))) y (.slice tk fu 1 (nl k ys)),lp (lp loc d (g,.gone)) d (g+1,.tok),hp⟩) hd ?_,.inr ⟨by simp[hl0],_,rfl,by rw[qbr,if_pos rfl]⟩,fun i hi=>by rw[qbr,if_neg (Ne.symm hi),qbr,if_neg (Ne.symm hi)]⟩
  ·unfold Qah
   rw[hp1]
   unfold stepG
   simp only[ho,QaP,hc,hty,hd,opds,ha,List.map_cons,List.map_nil,qaB,hx,hy,hni,cond_true,Qai,he,hl,hb,Qag,qbS,hrow',qaD,Nat.beq_refl]
   split
   ·rename_i h0;exact hne h0
   ·rw[hmb _ (by simpa[qaD]using hn)]
    simp only[cond_true,hA,cond_false,qcc,QaG,hg,qca,Qaa,qdZ,qbr,if_true,qbs,qdp]
theorem qBv(a b:Nat)(k k':IntKind):mxV (.int k (.ofNat a)) (.int k' (.ofNat b))=some (.int k (.ofNat (max a b))):=by
 show some (V.int k (Bool.rec (motive:=fun _=>Int) (.ofNat a) (.ofNat b) (F.ltI (.ofNat a) (.ofNat b))))=_
 rw[F.Qas]
 by_cases h:a<b
 ·rw[show decide ((Int.ofNat a)<Int.ofNat b)=true from by simpa using h,Nat.max_eq_right (Nat.le_of_lt h)]
 ·rw[show decide ((Int.ofNat a)<Int.ofNat b)=false from by simpa using h,Nat.max_eq_left (by omega)]
theorem qyX(a b:Nat)(k k':IntKind):mnV (.int k (.ofNat a)) (.int k' (.ofNat b))=some (.int k (.ofNat (min a b))):=by
 show some (V.int k (Bool.rec (motive:=fun _=>Int) (.ofNat a) (.ofNat b) (F.ltI (.ofNat b) (.ofNat a))))=_
 rw[F.Qas]
 by_cases h:b<a
 ·rw[show decide ((Int.ofNat b)<Int.ofNat a)=true from by simpa using h,Nat.min_eq_right (Nat.le_of_lt h)]
 ·rw[show decide ((Int.ofNat b)<Int.ofNat a)=false from by simpa using h,Nat.min_eq_left (by omega)]
def Sl(k:IntKind)(v:V)(d:List Nat):Prop:=(∃ f,v=.slice none f 1 (nl k d))∨(v=.nils∧d=[])
theorem qam{k:IntKind}{v:V}{d:List Nat}(h:Sl k v d)(e:TypeId):len (some (.slice e)) v=some (.int .i64 (.ofNat d.length)):=by
 rcases h with ⟨f,rfl⟩ | ⟨rfl,rfl⟩
 ·rw[qgz,qaD]
 ·exact qiL e
theorem qxv{t e:TypeId}{ag:Bool}(he:F.QaB P t=some e)(hl:F.Qax P e=some (1,ag)){k:IntKind}{v:V}{d:List Nat}(h:Sl k v d)(k':IntKind)(i:Nat)(hi:i<d.length) :
  ia P t v (.int k' (.ofNat i))=some (.iptr [.int k (.ofNat (d.getD i 0))]):=by
 rcases h with ⟨f,rfl⟩ | ⟨rfl,rfl⟩
 ·exact qeB he hl none f k k' d i hi
 ·simp at hi
theorem qtd{loc:Lo}{d:Nat}{v:V}{k:IntKind}{l:List Nat}(h:Ar loc d v k l):∃ v' loc',(∀ (tm:Tm)(hp:Hp),AM.exp false ⟨tm,loc,hp⟩ v=some (v',⟨tm,loc',hp⟩))∧Sl k v' l∧∀ i,i≠d→lg loc' i=lg loc i:=by
 rcases h with ⟨rfl,rfl⟩ | ⟨h0,g,rfl,hr⟩
 ·exact⟨.nils,loc,fun _ _=>rfl,.inr ⟨rfl,rfl⟩,fun _ _=>rfl⟩
 ·refine⟨.slice none false 1 (nl k l),lp loc d (g,.cells true (nl k l)),fun tm hp=>?_,.inl ⟨false,rfl⟩,fun i hi=>by rw[qbr,if_neg (Ne.symm hi)]⟩
  have h2:Qab ⟨tm,loc,hp⟩ (.loc d g)=some (.cells false (nl k l)):=qap hr
  simp only[exp,exp1,Qa3,Bool.or_true,Bool.false_or,cond_true,freeze,h2]
  have h3:Qag ⟨tm,loc,hp⟩ (.arr (.loc d g) 0 l.length none 1 false)=some (nl k l):=qbD hr
  rw[h3]
  simp only[qcc,cond_true,qca]
def Kp(l:List Nat)(t t':Tm):Prop:=∀ j ∈ l,gt t' j=gt t j
theorem qaH(l:List Nat)(t:Tm):Kp l t t:=fun _ _=>rfl
theorem qbh{l:List Nat}{t t':Tm}{i:Nat}{v:V}(h:i ∉ l)(hk:Kp l t t'):Kp l t (pt t' i v):=fun j hj=>by
 rw[qal,if_neg (fun e=>h (by rw[e];exact hj))]
 exact hk j hj
section
variable {P:Program}{kn:Kn}{tbl:Nat→Option Fc}
theorem qau{c d:RC}{s:St}{N:St→Prop}{X:Nat→St→Prop}{Q:St→Prop}{M:St→Prop}(h1:WW P kn tbl c s M (fun _ _=>False) (fun _=>False))(h2:∀ s1,M s1→WW P kn tbl d s1 N X Q):WW P kn tbl (.seq c d) s N X Q :=
 qac (qeU h1 h2 (fun _ _ h=>h.elim) (fun _ h=>h.elim))
theorem qcS{c d:RC}{s:St}{N:St→Prop}{X:Nat→St→Prop}{Q:St→Prop}(M:St→Prop)(h1:WW P kn tbl c s M X Q)(h2:∀ s1,M s1→WW P kn tbl d s1 N X Q):WW P kn tbl (.seq c d) s N X Q :=
 qac (qeU h1 h2 (fun _ _ h=>h) (fun _ h=>h))
end
structure Pl(v:V):Prop where
 cells:v.cells=[v]
 weak:v.QbM=v
 plain:v.plain=true
 ok:v.Qaw=true
 exp:∀ st,exp1 false st v=some (v,st)
 expT:∀ st,exp1 true st v=some (v,st)
 refs:v.Qao=true
 live:v.live=true
 Qdk:∀ cs,v≠.agg cs
theorem Pl.bool(b:Bool):Pl (.bool b):=⟨rfl,rfl,rfl,rfl,fun _=>rfl,fun _=>rfl,rfl,rfl,fun _ h=>by cases h⟩
theorem Pl.nils:Pl .nils:=⟨rfl,rfl,rfl,rfl,fun _=>rfl,fun _=>rfl,rfl,rfl,fun _ h=>by cases h⟩
theorem Sl.pl{k:IntKind}{v:V}{d:List Nat}(h:Sl k v d):Pl v:=by
 rcases h with ⟨f,rfl⟩ | ⟨rfl,_⟩
 ·exact⟨rfl,rfl,rfl,rfl,fun _=>rfl,fun _=>rfl,rfl,rfl,fun _ h=>by cases h⟩
 ·exact Pl.nils
theorem Pl.exp'{v:V}(h:Pl v)(st:St):AM.exp false st v=some (v,st):=by
 have:=h.exp st
 cases v with
 | agg cs=>exact absurd rfl (h.Qdk cs)
 | _=>exact this
theorem Pl.expF{v:V}(h:Pl v)(st:St):AM.exp true st v=some (v,st):=by
 have:=h.expT st
 cases v with
 | agg cs=>exact absurd rfl (h.Qdk cs)
 | _=>exact this
theorem qda{cs:List V}(h:∀ v ∈ cs,Pl v)(st:St):AM.exp false st (.agg cs)=some (.agg cs,st):=by
 have key:∀ cs:List V,(∀ v ∈ cs,Pl v)→Qcm false st cs=some (cs,st):=by
  intro cs
  induction cs with
  | nil=>intro _;rfl
  | cons v l ih =>
   intro h
   unfold Qcm
   simp only[(h v (by simp)).exp st,ih (fun u hu=>h u (by simp[hu]))]
 show(Qcm false st cs).map _=_
 rw[key cs h];rfl
def Ex1(v:V):Prop:=∀ st,AM.exp false st v=some (v,st)
def ExL:List V→Prop
 | []=>True
 | v::l=>Ex1 v∧ExL l
theorem qb3:∀ (l:List V)(st:St),ExL l→exps false st l=some (l,st)
 | [],_,_=>rfl
 | v::l,st,⟨h1,h2⟩=>by
  unfold exps
  simp only[h1 st,qb3 l st h2]
theorem clp{call:Qad}{f:FuncId}{args:List V}{tm:Tm}{loc:Lo}{hp:Hp}{j:V→Lo→Hp→R}{v:V}{h':Hp}(he:ExL args)(hc:call f args hp=some (.val v h')):cl call f args tm loc hp j=j v loc h':=by
 have:=qb3 args ⟨.lf,loc,hp⟩ he
 exact qme this hc
theorem qmS{d x y:Nat}{t:TypeId}{f0 f1:Field}{z0 z1 v w:V}(hd:o.dst=some d)(ho:o.op=.build t #[(0,.tmp x),(1,.tmp y)])(hu:P.underlying t=some (.struct #[f0,f1]))(hz:zeroV P t=some (.agg [z0,z1]))
  (h0:f0.offset=0) (h1:f1.offset=1) (s0:QbG P f0.type=some 1) (s1:QbG P f1.type=some 1) (hxy:x≠y) (hv:Pl v) (hw:Pl w) :
  gen P C call gl o (pt (pt .lf x v) y w) tm loc hp j=j (.agg [v,w]) loc hp:=by
 have hx:gt (pt (pt .lf x v) y w) x=v:=by rw[qal,if_neg (Ne.symm hxy),qal,if_pos rfl]
 have hy:gt (pt (pt .lf x v) y w) y=w:=by rw[qal,if_pos rfl]
 refine qaL (v:=.agg [v,w]) (st:=⟨pt (pt .lf x v) y w,loc,hp⟩) hd ?_
 have i0:(P.info? f0.type).isSome=true:=by
  unfold QbG at s0
  cases h:P.info? f0.type with
  | none=>rw[h]at s0;simp at s0
  | some i=>rfl
 have i1:(P.info? f1.type).isSome=true:=by
  unfold QbG at s1
  cases h:P.info? f1.type with
  | none=>rw[h]at s1;simp at s1
  | some i=>rfl
 have e0:Qat P t 0=some f0:=by unfold Qat;rw[hu];rfl
 have e1:Qat P t 1=some f1:=by unfold Qat;rw[hu];rfl
 have hp1:Qal P C gl (⟨pt (pt .lf x v) y w,loc,hp⟩:St).ρ (⟨pt (pt .lf x v) y w,loc,hp⟩:St).lc o=some (.agg [v,w],none):=by
  unfold Qal
  simp only[ho,Qam,hu,hz,V.live,Bool.true_and]
  have ea:(#[f0,f1]:Array Field).all (fun f=>(P.info? f.type).isSome)=true:=by simp[i0,i1]
  rw[ea]
  have c0:V.cells (.agg [z0,z1])=[z0,z1]:=rfl
  simp only[cond_true,Qbl,e0,e1,qaB,hx,hy,hv.weak,hw.weak,hv.plain,hw.plain,hv.cells,hw.cells,s0,s1,h0,h1,Option.getD_some,List.length_cons,List.length_nil,c0]
  rfl
 unfold Qah
 rw[hp1];rfl
def two(P:Program)(t:TypeId):Bool:=match P.underlying t with
 | some (.struct fs)=>(match fs.toList with
  | [f0,f1]=>Nat.beq f0.offset 0&&Nat.beq f1.offset 1&&(match QbG P f0.type,QbG P f1.type with | some a,some b=>Nat.beq a 1&&Nat.beq b 1 | _,_=>false)
  | _=>false)
 | _=>false
theorem qle{d x y:Nat}{t:TypeId}{z0 z1 v w:V}(hd:o.dst=some d)(ho:o.op=.build t #[(0,.tmp x),(1,.tmp y)])(h2:two P t=true)(hz:zeroV P t=some (.agg [z0,z1]))(hxy:x≠y)(hv:Pl v)(hw:Pl w) :
  gen P C call gl o (pt (pt .lf x v) y w) tm loc hp j=j (.agg [v,w]) loc hp:=by
 unfold two at h2
 split at h2
 ·rename_i fs hu
  split at h2
  ·rename_i f0 f1 hfs
   simp only[Bool.and_eq_true]at h2
   obtain⟨⟨a0,a1⟩,a2⟩:=h2
   have e:fs = #[f0,f1]:=by apply Array.toList_inj.1;rw[hfs]
   subst e
   split at a2
   ·rename_i a b h3 h4
    simp only[Bool.and_eq_true]at a2
    have b1:a=1:=Nat.eq_of_beq_eq_true a2.1
    have b2:b=1:=Nat.eq_of_beq_eq_true a2.2
    subst b1;subst b2
    exact qmS hd ho hu hz (Nat.eq_of_beq_eq_true a0) (Nat.eq_of_beq_eq_true a1) h3 h4 hxy hv hw
   ·simp at a2
  ·simp at h2
 ·simp at h2
theorem qaW{h:Hp}{a t d g:Nat}{f:Bool}{s:St}{x y:V}(hl:Qax P t=some (2,true))(hv:gt s.tm a=.ptr (.loc d g) 0)(hr:lg s.loc d=(g,.cells f [x,y]))(hx:Pl x)(hy:Pl y)(hd:s.hp.dirty=none) :
  fin P h [.cell a t] s=some (.val (.agg [x,y]) h):=by
 unfold fin
 have e1:Qbj P s [.cell a t]=some [.agg [x,y]]:=by
  simp only[Qbj,qbI,hv,qap hr,QaV,hl]
  rfl
 rw[e1]
 simp only[exps,qda (cs:=[x,y]) (by intro v hv;simp at hv;rcases hv with rfl | rfl<;>assumption)]
 have hc:QaX h s.hp=true:=by unfold QaX;rw[hd]
 unfold Qar
 rw[hc]
 simp only[V.Qaf,V.Qao,hx.refs,hy.refs,Bool.and_self,cond_true]
theorem qyZ(b:Bool):wv (.bool b) true=some b:=by cases b<;>rfl
theorem qy0(b:Bool):wv (.bool b) false=some (!b):=by cases b<;>rfl
theorem qs5{t e:TypeId}{ag:Bool}(he:F.QaB P t=some e)(hl:F.Qax P e=some (1,ag)){k:IntKind}{v:V}{d:List Nat}(h:Sl k v d)(k':IntKind)(i:Nat)(hi:i<d.length) :
  slc P t v none (some (.int k' (.ofNat i))) none=some (.slice none false 1 (nl k (d.take i))):=by
 rcases h with ⟨f,rfl⟩ | ⟨rfl,rfl⟩
 ·exact qen he hl none f k k' d i hi
 ·simp at hi
theorem qpB(cs:List V):(V.agg cs).cells=cs:=rfl
theorem qi3(n:Int):F.QaO .u32 n=.ofNat (n % 4294967296).toNat:=by
 rw[F.Qae]
 have h:0≤n % 4294967296:=Int.emod_nonneg _ (by decide)
 show n % 4294967296=_
 exact(Int.toNat_of_nonneg h).symm
theorem qvZ{a b:Nat}(h:b≤4294967296):G.int2 .sub .u32 (.ofNat a) (.ofNat b)=some (.int .u32 (.ofNat ((a+4294967296 - b) % 4294967296))):=by
 show some (V.int .u32 (F.QaO .u32 (Int.sub (.ofNat a) (.ofNat b))))=_
 rw[qi3]
 have e:(Int.sub (.ofNat a) (.ofNat b) % 4294967296).toNat=(a+4294967296 - b) % 4294967296:=by
  show(((a:Int) - (b:Int)) % 4294967296).toNat=_
  omega
 rw[e]
theorem qla{a b:Nat}(ha:a<4294967296)(hb:b<4294967296):G.int2 .and .u32 (.ofNat a) (.ofNat b)=some (.int .u32 (.ofNat (a &&& b))):=by
 show some (V.int .u32 (IntKind.u32.wrap (BitVec.ofInt 32 (Int.ofNat a) &&& BitVec.ofInt 32 (Int.ofNat b)).toNat))=_
 have e:(BitVec.ofInt 32 (Int.ofNat a) &&& BitVec.ofInt 32 (Int.ofNat b)).toNat=a &&& b:=by
  rw[BitVec.toNat_and]
  show(BitVec.ofInt 32 (a:Int)).toNat &&& (BitVec.ofInt 32 (b:Int)).toNat=_
  rw[BitVec.toNat_ofInt,BitVec.toNat_ofInt]
  congr 1<;>omega
 rw[e,←F.Qae]
 congr 2
 exact qel (Nat.lt_of_le_of_lt Nat.and_le_left ha)
theorem qon{a b:Nat}(ha:a<4294967296)(hb:b<4294967296):G.int2 .xor .u32 (.ofNat a) (.ofNat b)=some (.int .u32 (.ofNat (a ^^^ b))):=by
 show some (V.int .u32 (IntKind.u32.wrap (BitVec.ofInt 32 (Int.ofNat a) ^^^ BitVec.ofInt 32 (Int.ofNat b)).toNat))=_
 have e:(BitVec.ofInt 32 (Int.ofNat a) ^^^ BitVec.ofInt 32 (Int.ofNat b)).toNat=a ^^^ b:=by
  rw[BitVec.toNat_xor]
  show(BitVec.ofInt 32 (a:Int)).toNat ^^^ (BitVec.ofInt 32 (b:Int)).toNat=_
  rw[BitVec.toNat_ofInt,BitVec.toNat_ofInt]
  congr 1<;>omega
 rw[e,←F.Qae]
 congr 2
 exact qel (Nat.xor_lt_two_pow (n:=32) ha hb)
theorem qpW{a:Nat}(ha:a<4294967296):G.un .xor (.int .u32 (.ofNat a))=some (.int .u32 (.ofNat (4294967295 ^^^ a))):=by
 show F.QaS .xor .u32 (if IntKind.u32.signed=true then -1 else IntKind.u32.max) (.ofNat a)=_
 have e0:(if IntKind.u32.signed=true then -1 else IntKind.u32.max)=Int.ofNat 4294967295:=rfl
 rw[e0]
 have e1:F.QaS .xor .u32 (Int.ofNat 4294967295) (Int.ofNat a)=QaS .xor .u32 (Int.ofNat 4294967295) (Int.ofNat a):=by rw[F.QcZ]
 rw[e1]
 exact qon (a:=4294967295) (by decide) ha
def dn:Nat→Int
 | 0=>.negSucc 0
 | n+1=>.ofNat n
theorem qgG{n:Nat}(h:n<9223372036854775808):G.int2 .sub .i64 (.ofNat n) (.ofNat 1)=some (.int .i64 (dn n)):=by
 cases n with
 | zero=>rfl
 | succ m =>
  rw[qxx (by omega),qlN (by omega)]
  rfl
theorem qos(k:IntKind)(m n:Nat):G.int2 .geq k (.negSucc m) (.ofNat n)=some (.bool false):=rfl
theorem qeC{k:IntKind}{a b:Nat}(h:a<b):G.int2 .sub k (.ofNat a) (.ofNat b)=some (.int k (F.QaO k (.negSucc (b - a - 1)))):=by
 show some (V.int k (F.QaO k (Int.sub (.ofNat a) (.ofNat b))))=_
 have:Int.sub (.ofNat a) (.ofNat b)=.negSucc (b - a - 1):=by
  show(a:Int) - (b:Int)=_
  omega
 rw[this]
theorem qi4{n:Nat}(h:n<9223372036854775808):F.QaO .i64 (.negSucc n)=.negSucc n:=by
 show(bif true&&Nat.blt n 9223372036854775808 then Int.negSucc n else _)=_
 rw[show Nat.blt n 9223372036854775808=true from by rw[Nat.blt_eq];exact h];rfl
theorem qxj(k k':IntKind)(m:Nat):mxV (.int k (.negSucc m)) (.int k' (.negSucc 0))=some (.int k (.negSucc 0)):=by
 show some (V.int k (Bool.rec (motive:=fun _=>Int) (.negSucc m) (.negSucc 0) (F.ltI (.negSucc m) (.negSucc 0))))=_
 rw[F.Qas]
 by_cases h:m=0
 ·subst h;rfl
 ·rw[show decide (Int.negSucc m<Int.negSucc 0)=true from by rw[decide_eq_true_iff];omega]
theorem qxi(k k':IntKind)(m n:Nat):mxV (.int k (.ofNat m)) (.int k' (.negSucc n))=some (.int k (.ofNat m)):=rfl
theorem qxl(k k':IntKind)(m n:Nat):mnV (.int k (.negSucc m)) (.int k' (.ofNat n))=some (.int k (.negSucc m)):=rfl
theorem qwb{h:Hp}{a b:Nat}{s:St}{v w:V}(hv:gt s.tm a=v)(hw:gt s.tm b=w)(pv:Ex1 v)(pw:Ex1 w)(rv:v.Qao=true)(rw':w.Qao=true)(hd:s.hp.dirty=none) :
  fin P h [.tmp a,.tmp b] s=some (.val (.tuple [v,w]) h):=by
 unfold fin
 have e1:Qbj P s [.tmp a,.tmp b]=some [v,w]:=by simp only[Qbj,qbI,hv,hw,Option.map_some]
 rw[e1]
 have e2:=qb3 [v,w] s ⟨pv,pw,trivial⟩
 simp only[e2]
 have hc:QaX h s.hp=true:=by unfold QaX;rw[hd]
 show some (Out.val (.tuple [v,w]) (Qar h s.hp [v,w]))=_
 unfold Qar
 rw[hc]
 simp only[V.Qaf,rv,rw',Bool.and_self,cond_true]
theorem Ex1.int(k:IntKind)(n:Int):Ex1 (.int k n):=fun _=>rfl
theorem Pl.ex{v:V}(h:Pl v):Ex1 v:=h.exp'
theorem qpK(op:BinOp)(ho:op=.shr∨op=.shl)(t:TypeId)(cn:Bool)(k k':IntKind)(a b:Int):bin P op t cn (.int k a) (.int k' b)=G.int2 op k a b:=by
 show(bif Nat.beq (G.Qce k) (G.Qce k')then G.int2 op k a b else F.Qct op (.int k a) (.int k' b))=_
 cases h:Nat.beq (G.Qce k) (G.Qce k')with
 | true=>rfl
 | false =>
  simp only[cond_false]
  rw[F.QdM]
  rcases ho with rfl | rfl
  ·rfl
  ·rfl
theorem qpI(t:TypeId)(cn:Bool)(k':IntKind)(a b:Nat)(h:b≤32):bin P .shr t cn (.int .u32 (.ofNat a)) (.int k' (.ofNat b))=some (.int .u32 (.ofNat (a / 2 ^ b))):=by
 rw[qpK _ (.inl rfl),qop h]
theorem qpH(t:TypeId)(cn:Bool)(k':IntKind)(a b:Nat)(h:b≤64):bin P .shr t cn (.int .u64 (.ofNat a)) (.int k' (.ofNat b))=some (.int .u64 (.ofNat (a / 2 ^ b))):=by
 rw[qpK _ (.inl rfl),qoo h]
theorem qpJ(t:TypeId)(cn:Bool)(k':IntKind)(a b:Nat)(h:b≤64):bin P .shl t cn (.int .u64 (.ofNat a)) (.int k' (.ofNat b))=some (.int .u64 (F.QaO .u64 (.ofNat (a*2 ^ b)))):=by
 rw[qpK _ (.inr rfl),qoq h]
theorem qBQ{f:FuncId}{tm:Tm}{loc:Lo}{hp h':Hp}{j:V→Lo→Hp→R}{r:V}(hc:call f [] hp=some (.val r h')):cl call f [] tm loc hp j=j r loc h':=clp trivial hc
theorem qcG{f:FuncId}{v:V}{tm:Tm}{loc:Lo}{hp h':Hp}{j:V→Lo→Hp→R}{r:V}(hc:call f [v] hp=some (.val r h'))(h1:Ex1 v):cl call f [v] tm loc hp j=j r loc h':=clp ⟨h1,trivial⟩ hc
theorem qb5{f:FuncId}{v w:V}{tm:Tm}{loc:Lo}{hp h':Hp}{j:V→Lo→Hp→R}{r:V}(hc:call f [v,w] hp=some (.val r h'))(h1:Ex1 v)(h2:Ex1 w):cl call f [v,w] tm loc hp j=j r loc h':=clp ⟨h1,h2,trivial⟩ hc
theorem qxQ{f:FuncId}{v w u:V}{tm:Tm}{loc:Lo}{hp h':Hp}{j:V→Lo→Hp→R}{r:V}(hc:call f [v,w,u] hp=some (.val r h'))(h1:Ex1 v)(h2:Ex1 w)(h3:Ex1 u):cl call f [v,w,u] tm loc hp j=j r loc h':=clp ⟨h1,h2,h3,trivial⟩ hc
theorem Ex1.bool(b:Bool):Ex1 (.bool b):=fun _=>rfl
theorem Ex1.str(s:Str):Ex1 (.str s):=fun _=>rfl
theorem Sl.ex{k:IntKind}{v:V}{d:List Nat}(h:Sl k v d):Ex1 v:=h.pl.exp'
theorem qvW(s g o:Nat):ldF (.ptr (.loc s g) o)=⟨[s],[],false,false,false,false⟩:=rfl
theorem qqY(cs:List V):ldF (.iptr cs)=ft0:=rfl
theorem qf5(h:Hp):F.settle h h ⟨[],[],true,true,false,false⟩ = ⟨[],[],true,false,false,false⟩:=by
 unfold F.settle
 rw[Nat.beq_refl,Nat.beq_refl];rfl
theorem qiY{f:FuncId}{args:List V}{loc:Lo}{hp:Hp}{j:JD}{x:XD}{r:V}(hc:call f args hp=some (.val r hp))(he:ExL args)(hq:args.all quiet=true):clD call f args loc hp j x=j r ⟨[],[],true,false,false,false⟩ loc hp:=by
 unfold clD
 rw[F.Qbm,hq,F.QcG,qb3 args _ he]
 show G.Qac (call f args hp) _ none=_
 rw[hc]
 show j r (F.settle hp hp ⟨[],[],true,true,false,false⟩) loc hp=_
 rw[qf5]
theorem qb9{f:FuncId}{v:V}{loc:Lo}{hp:Hp}{j:JD}{x:XD}{r:V}(hc:call f [v] hp=some (.val r hp))(h1:Ex1 v)(q1:quiet v=true):clD call f [v] loc hp j x=j r ⟨[],[],true,false,false,false⟩ loc hp:=qiY hc ⟨h1,trivial⟩ (by simp[q1])
theorem qbl{f:FuncId}{v w:V}{loc:Lo}{hp:Hp}{j:JD}{x:XD}{r:V}(hc:call f [v,w] hp=some (.val r hp))(h1:Ex1 v)(h2:Ex1 w)(q1:quiet v=true)(q2:quiet w=true):clD call f [v,w] loc hp j x=j r ⟨[],[],true,false,false,false⟩ loc hp:=qiY hc ⟨h1,h2,trivial⟩ (by simp[q1,q2])
theorem qav{ops:List Oper}{P1 P2:List (Nat × Nat)}{fs:List Foot}{x:R}(h:chk ops P1 P2 (QdW fs [])=true):Qbw ops P1 P2 fs x=x:=by
 show(bif chk ops P1 P2 (QdW fs [])then x else none)=x
 rw[h];rfl
theorem qmT{t:TypeId}{a x:Nat}{s g off:Nat}{J:JD}{X:XD}(ho:o.op=.store t (.tmp a) (.tmp x))(hd:o.dst=none)(ha:gt t' a=.ptr (.loc s g) off) :
  qgN P C call gl o t' loc hp J X=stc P t g off (gt t' x) (lg loc s) (fun row=>J (.tuple []) ⟨[s],[s],false,false,false,false⟩ (lp loc s row) hp):=by
 have hcase:∀ cs':List V,Qal P C gl (⟨t',loc,hp⟩:St).ρ (⟨t',loc,hp⟩:St).lc o=some (.tuple [],some (s,g,.cells false cs'))→qgN P C call gl o t' loc hp J X=J (.tuple []) ⟨[s],[s],false,false,false,false⟩ (lp loc s (g,.cells false cs')) hp:=by
  intro cs' hloc
  unfold qgN
  rw[F.QbN,F.QbL,F.Qcg,F.Qcq]
  unfold Qaz
  rw[hloc]
  show G.Qac (QaA P C call gl ⟨t',loc,hp⟩ o) _ none=_
  unfold QaA Qah
  rw[hloc]
  simp only[Qa4,QaF,hd,qbs]
  show J (.tuple []) (F.settle hp hp ⟨[s],[s],false,false,false,false⟩) (lp loc s (g,.cells false cs')) hp=_
  have:F.settle hp hp ⟨[s],[s],false,false,false,false⟩ = ⟨[s],[s],false,false,false,false⟩:=by
   unfold F.settle
   rw[Nat.beq_refl,Nat.beq_refl];rfl
  rw[this]
 have hnone:Qal P C gl (⟨t',loc,hp⟩:St).ρ (⟨t',loc,hp⟩:St).lc o=none→qgN P C call gl o t' loc hp J X=none:=by
  intro hloc
  unfold qgN
  rw[F.QbN,F.Qcg,F.Qcq]
  unfold Qaz
  rw[hloc]
  simp only[ho,qaB,ha]
  rfl
 unfold stc
 have hl:Qal P C gl (⟨t',loc,hp⟩:St).ρ (⟨t',loc,hp⟩:St).lc o=(match lg loc s with
   | (g',.cells false cs)=>bif Nat.beq g g'&&(gt t' x).cells.all V.Qaw&&QaR P t (gt t' x).cells.length then
     (match setAt cs off (gt t' x).cells with
     | some cs'=>some (.tuple [],some (s,g,.cells false cs'))
     | none=>none)
    else none
   | _=>none):=by
  unfold Qal
  simp only[ho,qaB,ha,qdZ]
  rcases lg loc s with ⟨g',row⟩
  cases row<;>first | rfl | (rename_i f cs;cases f<;>rfl)
 cases hrow:lg loc s with
 | mk g' row =>
  rw[hrow]at hl
  cases row with
  | cells frz cs =>
   cases frz with
   | true=>rw[hnone hl];rfl
   | false =>
    show _=(bif Nat.beq g g'&&F.QcN V.Qaw (gt t' x).cells&&F.QaR P t (F.QaZ (gt t' x).cells)then G.Qac (F.setAt cs off (gt t' x).cells) _ none else none)
    rw[F.Qbm,F.QaH,F.QcY,F.QbD]
    simp only[]at hl
    cases hb:(Nat.beq g g'&&(gt t' x).cells.all V.Qaw&&QaR P t (gt t' x).cells.length)with
    | false=>rw[hb]at hl;rw[hnone hl];rfl
    | true =>
     rw[hb]at hl
     simp only[cond_true]at hl ⊢
     cases hs:setAt cs off (gt t' x).cells with
     | none=>rw[hs]at hl;rw[hnone hl];rfl
     | some cs'=>rw[hs]at hl;rw[hcase cs' hl];rfl
  | gone=>rw[hnone hl];rfl
  | tok=>rw[hnone hl];rfl
  | iter a b=>rw[hnone hl];rfl
  | mp a b=>rw[hnone hl];rfl
theorem qiT{tm:Tm}{loc:Lo}{hp:Hp}{d g:Nat}{li:Option Nat}{k:IntKind}{l:List Nat}{f0:Bool}(h:lg loc d=(g,.cells f0 (nl k l))) :
  AM.exp false ⟨tm,loc,hp⟩ (.arr (.loc d g) 0 l.length li 1 false)=some (.slice none false 1 (nl k l),⟨tm,lp loc d (g,.cells true (nl k l)),hp⟩):=by
 have h2:Qab ⟨tm,loc,hp⟩ (.loc d g)=some (.cells f0 (nl k l)):=qap h
 simp only[exp,exp1,Qa3,Bool.or_true,Bool.false_or,cond_true,freeze,h2]
 have h3:Qag ⟨tm,loc,hp⟩ (.arr (.loc d g) 0 l.length li 1 false)=some (nl k l):=qbD h
 rw[h3]
 simp only[qcc,cond_true,qca]
theorem qlu{f:FuncId}{d g:Nat}{li:Option Nat}{k:IntKind}{l:List Nat}{f0:Bool}{w:V}{tm:Tm}{loc:Lo}{hp h':Hp}{j:V→Lo→Hp→R}{r:V}{n:Nat}(hn:n=l.length)(h:lg loc d=(g,.cells f0 (nl k l)))
  (hc:call f [.slice none false 1 (nl k l),w] hp=some (.val r h')) (hw:Ex1 w):cl call f [.arr (.loc d g) 0 n li 1 false,w] tm loc hp j=j r (lp loc d (g,.cells true (nl k l))) h':=by
 subst hn
 refine qme (st:=⟨.lf,lp loc d (g,.cells true (nl k l)),hp⟩) (l:=[.slice none false 1 (nl k l),w]) ?_ hc
 have e2:=qb3 [w] ⟨.lf,lp loc d (g,.cells true (nl k l)),hp⟩ ⟨hw,trivial⟩
 show exps false ⟨.lf,loc,hp⟩ (.arr (.loc d g) 0 l.length li 1 false::[w])=_
 rw[show ∀ (st:St) (v:V) (r:List V),exps false st (v::r)=(match exp false st v with
  | none=>none
  | some (v',st')=>match exps false st' r with
   | none=>none
   | some (l',st'')=>some (v'::l',st'')) from fun _ _ _=>rfl]
 rw[qiT h]
 simp only[e2]
def hset(h:Hp)(r:Nat)(row:Row):Hp:=⟨h.rows.set r row,lower h.dirty r,h.mods+1⟩
def qgI(h:Hp)(row:Row):Hp:=⟨h.rows++[row],h.dirty,h.mods⟩
theorem qc5(h:Hp){r:Nat}{row row0:Row}(hr:h.rows[r]? = some row0):(hset h r row).rows[r]? = some row:=by
 have:r<h.rows.length:=by
  rcases Nat.lt_or_ge r h.rows.length with h1 | h1
  ·exact h1
  ·rw[List.getElem?_eq_none h1]at hr;simp at hr
 show(h.rows.set r row)[r]? = _
 rw[List.getElem?_set_self this]
theorem qck(h:Hp){r i:Nat}{row:Row}(hi:i≠r):(hset h r row).rows[i]? = h.rows[i]?:=by
 show(h.rows.set r row)[i]? = _
 rw[List.getElem?_set_ne (Ne.symm hi)]
theorem qbd(h:Hp)(r:Nat)(row:Row):(hset h r row).rows.length=h.rows.length:=by
 show(h.rows.set r row).length=_
 rw[List.length_set]
theorem qff(h:Hp)(row:Row):(qgI h row).rows[h.rows.length]? = some row:=by
 show(h.rows++[row])[h.rows.length]? = _
 simp
theorem qgH(h:Hp){i:Nat}(row:Row)(hi:i<h.rows.length):(qgI h row).rows[i]? = h.rows[i]?:=by
 show(h.rows++[row])[i]? = _
 rw[List.getElem?_append_left hi]
theorem qb7(h:Hp)(row:Row):(qgI h row).rows.length=h.rows.length+1:=by
 show(h.rows++[row]).length=_
 simp
theorem qbQ{tm:Tm}{loc:Lo}{h:Hp}{r:Nat}:Qab ⟨tm,loc,h⟩ (.glob r)=h.rows[r]?:=rfl
theorem qbx{tm:Tm}{loc:Lo}{h:Hp}{r:Nat}{row:Row}:setRow ⟨tm,loc,h⟩ (.glob r) row=⟨tm,loc,hset h r row⟩:=rfl
theorem qbU{t:TypeId}{a x r off:Nat}{k:IntKind}{n:Nat}{d:List Nat}(ho:o.op=.store t (.tmp a) (.tmp x))(hd:o.dst=none)(hax:a≠x)(hl:QaR P t 1=true)
  (hr:hp.rows[r]? = some (.cells false (nl k d))) (h:off<d.length) :
  gen P C call gl o (pt (pt .lf a (.ptr (.glob r) off)) x (.int k (.ofNat n))) tm loc hp j=j (.tuple []) loc (hset hp r (.cells false (nl k (d.set off n)))):=by
 have ha:gt (pt (pt .lf a (.ptr (.glob r) off)) x (.int k (.ofNat n))) a=.ptr (.glob r) off:=by rw[qal,if_neg (Ne.symm hax),qal,if_pos rfl]
 have hx:gt (pt (pt .lf a (.ptr (.glob r) off)) x (.int k (.ofNat n))) x=.int k (.ofNat n):=by rw[qal,if_pos rfl]
 refine ql6 (v:=.tuple []) (st:=⟨pt (pt .lf a (.ptr (.glob r) off)) x (.int k (.ofNat n)),loc,hset hp r (.cells false (nl k (d.set off n)))⟩) hd ?_
 have hp1:Qal P C gl (⟨pt (pt .lf a (.ptr (.glob r) off)) x (.int k (.ofNat n)),loc,hp⟩:St).ρ (⟨pt (pt .lf a (.ptr (.glob r) off)) x (.int k (.ofNat n)),loc,hp⟩:St).lc o=none:=by
  unfold Qal
  simp only[ho,qaB,ha]
 unfold Qah
 rw[hp1]
 unfold stepG
 have he:exp false ⟨pt (pt .lf a (.ptr (.glob r) off)) x (.int k (.ofNat n)),loc,hp⟩ (.int k (.ofNat n))=some (.int k (.ofNat n),⟨pt (pt .lf a (.ptr (.glob r) off)) x (.int k (.ofNat n)),loc,hp⟩):=rfl
 simp only[ho,qaB,ha,hx,hr,he,V.cells,List.all_cons,V.Qaw,List.all_nil,Bool.and_self,List.length_cons,List.length_nil,Nat.zero_add,hl,cond_true,qfQ k d off n h,qbx]
def Gr(h:Hp)(v:V)(k:IntKind)(l:List Nat):Prop :=
 (l=[]∧v=.nils)∨(l≠[]∧∃ r,v=.arr (.glob r) 0 l.length none 1 false∧h.rows[r]? = some (.cells false (nl k l)))
theorem qhL {d x y t e b : Nat} (hi : ApI P o d x y t) (hA : C.QaN t = true) (hg : gl d = true) (he : QaB P t = some e) (hl : Qax P e = some (1, false)) (hb : Qb1 P e = some b) (hxy : x ≠ y)
    {loc : Lo} {k : IntKind} {l ys : List Nat} {v w : V} (hv : Gr hp v k l) (hit : ∀ tm, Qag ⟨tm, loc, hp⟩ w = some (nl k ys)) (hys : ys ≠ []) (hn : (l.length + ys.length) * b ≤ 70368744177664) :
    ∃ h', (∀ (call : Qad) (tm : Tm) (j : V → Lo → Hp → R), gen P C call gl o (pt (pt .lf x v) y w) tm loc hp j = j (.arr (.glob hp.rows.length) 0 (l.length + ys.length) none 1 false) loc h') ∧
      h'.rows[hp.rows.length]? = some (.cells false (nl k (l ++ ys))) ∧ h'.rows.length = hp.rows.length + 1 ∧
      (∀ i, i < hp.rows.length → v ≠ .arr (.glob i) 0 l.length none 1 false → h'.rows[i]? = hp.rows[i]?) ∧ (h' = qgI hp (.cells false (nl k (l ++ ys))) ∨ ∃ r, v = .arr (.glob r) 0 l.length none 1 false ∧ h' = qgI (hset hp r .gone) (.cells false (nl k (l ++ ys)))) := by
  obtain ⟨hd, c, ho, hc, ha, hty, hni⟩ := hi
  have hx : gt (pt (pt .lf x v) y w) x = v := by rw [qal, if_neg (Ne.symm hxy), qal, if_pos rfl]
  have hy : gt (pt (pt .lf x v) y w) y = w := by rw [qal, if_pos rfl]
  have hp1 : Qal P C gl (⟨pt (pt .lf x v) y w, loc, hp⟩ : St).ρ (⟨pt (pt .lf x v) y w, loc, hp⟩ : St).lc o = none := by
    unfold Qal
    simp only [ho, Qam, hc, ha, Option.map_none]
  have hne : ∀ {q : Prop}, nl k ys = [] → q := fun h => absurd (by simpa [nl] using h) hys
  have hmb : ∀ n, n ≤ 70368744177664 → Nat.ble n Qaj = true := fun n h => by rw [Nat.ble_eq]; exact h
  rcases hv with ⟨rfl, rfl⟩ | ⟨hl0, r, rfl, hrow⟩
  · refine ⟨qgI hp (.cells false (nl k ys)), fun call tm j => qaL (v := .arr (.glob hp.rows.length) 0 (([] : List Nat).length + ys.length) none 1 false) (st := ⟨pt (pt .lf x .nils) y w, loc, qgI hp (.cells false (nl k ys))⟩) hd ?_, qff _ _, qb7 _ _, fun i hi _ => qgH _ _ hi, .inl rfl⟩
    unfold Qah
    rw [hp1]
    unfold stepG
    simp only [ho, QaP, hc, hty, hd, opds, ha, List.map_cons, List.map_nil, qaB, hx, hy, hni, cond_true, Qai, he, hl, hb, hit, qbS]
    split
    · rename_i h0; exact hne h0
    · rw [hmb _ (by simpa [qaD] using hn)]
      simp only [cond_true, hA, Qay, hg, Bool.true_and, Qaa, qcF, qdo, Bool.not_true, cond_false, qaD, List.length_nil, Nat.zero_add]
      rfl
  · refine ⟨qgI (hset hp r .gone) (.cells false (nl k (l ++ ys))), fun call tm j => qaL (v := .arr (.glob hp.rows.length) 0 (l.length + ys.length) none 1 false) (st := ⟨pt (pt .lf x (.arr (.glob r) 0 l.length none 1 false)) y w, loc, qgI (hset hp r .gone) (.cells false (nl k (l ++ ys)))⟩) hd ?_, ?_, ?_, ?_, .inr ⟨r, rfl, rfl⟩⟩
    · unfold Qah
      rw [hp1]
      unfold stepG
      simp only [ho, QaP, hc, hty, hd, opds, ha, List.map_cons, List.map_nil, qaB, hx, hy, hni, cond_true, Qai, he, hl, hb, hit, qbS, qbQ, hrow, qaD, Nat.beq_refl, beq_self_eq_true, Bool.and_self, Nat.zero_add, Nat.mul_one]
      rw [show Nat.ble l.length l.length = true from by rw [Nat.ble_eq]; exact Nat.le_refl _, hmb _ hn]
      simp only [Bool.and_self, cond_true]
      split
      · rename_i h0; exact hne h0
      · simp only [Qa3, Bool.not_false, Bool.true_and, qcF, qdo, Bool.not_true, cond_false]
        rw [show Nat.ble (l.length + ys.length) l.length = false from by
          cases hb : Nat.ble (l.length + ys.length) l.length with
          | false => rfl
          | true => rw [Nat.ble_eq] at hb; have : ys.length ≠ 0 := by simpa using hys
                    omega]
        simp only [cond_false, Qay, hg, Bool.true_and, qbx, Qaa, cond_true, qbd, ← qdp, qdo, Bool.not_true]
        rfl
    · have := qff (hset hp r .gone) (.cells false (nl k (l ++ ys)))
      rw [qbd] at this; exact this
    · rw [qb7, qbd]
    · intro i hi hne
      rw [qgH _ _ (by rw [qbd]; exact hi)]
      exact qck _ (fun e => hne (by rw [e]))
theorem qde{t:TypeId}(hl:F.Qax P t=some (1,false))(frz:Bool)(k:IntKind)(d:List Nat)(i:Nat)(h:i<d.length):ldg P t i (some (.cells frz (nl k d)))=some (.int k (.ofNat (d.getD i 0))):=by
 rw[qa9 hl,qn5 k d i h]
theorem qoC{d:Nat}{t e:TypeId}{z:V}(hd:o.dst=some d)(ho:o.op=.buildSlice t 0 #[])(ha:C.QaN t=true)(hg:gl d=false)(he:QaB P t=some e)(hl:Qax P e=some (1,false))(hz:zeroV P e=some z)(hz1:z.live=true)(hz2:z.cells.length=1) :
  gen P C call gl o t' tm loc hp j=j (.arr (.loc d ((lg loc d).1+1)) 0 0 (some 0) 1 false) (lp loc d ((lg loc d).1+1,.cells false [])) hp:=by
 refine qaL (v:=.arr (.loc d ((lg loc d).1+1)) 0 0 (some 0) 1 false) (st:=⟨t',lp loc d ((lg loc d).1+1,.cells false []),hp⟩) hd ?_
 have hp1:Qal P C gl (⟨t',loc,hp⟩:St).ρ (⟨t',loc,hp⟩:St).lc o=none:=by
  unfold Qal
  simp only[ho,Qam,he,hl,hz,ha,Bool.not_true,Bool.false_and,cond_false,Option.map_none]
 unfold Qah
 rw[hp1]
 unfold stepG
 simp only[ho,hd,he,hl,hz,opds,List.map_nil,exps,ha,hz1,hz2,hg,Qaa,cond_false,qdZ,qbs]
 rfl
theorem qoD {d x y t e b s g : Nat} (hi : ApI P o d x y t) (hA : C.QaN t = true) (hg : gl d = true) (he : QaB P t = some e) (hl : Qax P e = some (1, false)) (hb : Qb1 P e = some b) (hxy : x ≠ y)
    {loc : Lo} {k : IntKind} {ys : List Nat} {w : V} (hs : lg loc s = (g, .cells false [])) (hit : ∀ tm, Qag ⟨tm, loc, hp⟩ w = some (nl k ys)) (hys : ys ≠ []) (hn : ys.length * b ≤ 70368744177664) (call : Qad) (tm : Tm) (j : V → Lo → Hp → R) :
    gen P C call gl o (pt (pt .lf x (.arr (.loc s g) 0 0 (some 0) 1 false)) y w) tm loc hp j = j (.arr (.glob hp.rows.length) 0 ys.length none 1 false) loc (qgI hp (.cells false (nl k ys))) := by
  obtain ⟨hd, c, ho, hc, ha, hty, hni⟩ := hi
  generalize hv : V.arr (.loc s g) 0 0 (some 0) 1 false = v
  have hx : gt (pt (pt .lf x v) y w) x = v := by rw [qal, if_neg (Ne.symm hxy), qal, if_pos rfl]
  have hy : gt (pt (pt .lf x v) y w) y = w := by rw [qal, if_pos rfl]
  have hp1 : Qal P C gl (⟨pt (pt .lf x v) y w, loc, hp⟩ : St).ρ (⟨pt (pt .lf x v) y w, loc, hp⟩ : St).lc o = none := by
    unfold Qal
    simp only [ho, Qam, hc, ha, Option.map_none]
  have hne : ∀ {q : Prop}, nl k ys = [] → q := fun h => absurd (by simpa [nl] using h) hys
  have hmb : ∀ n, n ≤ 70368744177664 → Nat.ble n Qaj = true := fun n h => by rw [Nat.ble_eq]; exact h
  have hrow' : ∀ tm hp, Qab ⟨tm, loc, hp⟩ (.loc s g) = some (.cells false []) := fun tm hp => qap hs
  refine qaL (v := .arr (.glob hp.rows.length) 0 ys.length none 1 false) (st := ⟨pt (pt .lf x v) y w, loc, qgI hp (.cells false (nl k ys))⟩) hd ?_
  unfold Qah
  rw [hp1]
  unfold stepG
  simp only [ho, QaP, hc, hty, hd, opds, ha, List.map_cons, List.map_nil, qaB, hx, hy, hni, cond_true, Qai, he, hl, hb, hit, qbS]
  subst hv
  simp only [Nat.beq_refl, beq_self_eq_true, Bool.and_self, cond_true, hrow', Nat.zero_mul, Nat.zero_add, List.length_nil, qaD]
  rw [hmb _ hn]
  simp only [show Nat.ble 0 0 = true from rfl, Bool.and_self, cond_true]
  split
  · rename_i h0; exact hne h0
  · simp only [Qa3, Bool.not_true, Bool.false_and, cond_false]
    rw [show Nat.ble ys.length 0 = false from by
      cases hb : Nat.ble ys.length 0 with
      | false => rfl
      | true => rw [Nat.ble_eq] at hb; have : ys.length ≠ 0 := by simpa using hys
                omega]
    simp only [cond_false, Qay, hg, Bool.true_and, List.drop_nil, List.take_nil, List.nil_append, qcF, qdo, Bool.not_true, Qaa, cond_true]
    rfl
theorem qlY{k:IntKind}{v:V}{d:List Nat}(h:Sl k v d)(st:St):Qag st v=some (nl k d):=by
 rcases h with ⟨f,rfl⟩ | ⟨rfl,rfl⟩<;>rfl
theorem qdP{tm:Tm}{loc:Lo}{h:Hp}{r off len:Nat}{li:Option Nat}{k:IntKind}{L:List Nat}{f:Bool}(hr:h.rows[r]? = some (.cells f (nl k L)))(hl:off+len≤L.length) :
  Qag ⟨tm,loc,h⟩ (.arr (.glob r) off len li 1 false)=some (nl k ((L.drop off).take len)):=by
 simp only[Qag,qbQ,hr,Nat.mul_one,qaD]
 rw[show Nat.ble (off+len) L.length=true from by rw[Nat.ble_eq];exact hl]
 simp only[Nat.beq_refl,Bool.or_true,Bool.and_self,cond_true,Option.some.injEq]
 have e1:(nl k L).drop off=nl k (L.drop off):=by simp[nl]
 rw[e1]
 have key:∀ (n:Nat) (l:List Nat),n≤l.length→chunk 1 false n (nl k l)=nl k (l.take n):=by
  intro n
  induction n with
  | zero=>intro l _;rfl
  | succ n ih =>
   intro l hl
   cases l with
   | nil=>simp at hl
   | cons x l =>
    simp only[nl,List.map_cons,List.take_succ_cons,chunk,cond_false,List.headD_cons,List.drop_succ_cons,List.drop_zero]
    rw[show V.unagg (.int k (.ofNat x))=.int k (.ofNat x) from rfl]
    congr 1
    exact ih l (by simpa using hl)
 exact key len (L.drop off) (by simp;omega)
theorem Ex1.glob(r off len:Nat)(li:Option Nat)(sz:Nat)(ag:Bool):Ex1 (.arr (.glob r) off len li sz ag):=fun _=>rfl
theorem qh5{t e:TypeId}{ag0:Bool}(he:F.QaB P t=some e)(hl:F.Qax P e=some (1,ag0))(r:Ref)(off len:Nat)(ag:Bool)(k':IntKind)(i:Nat)(hi:i≤len) :
  slc P t (.arr r off len none 1 ag) none (some (.int k' (.ofNat i))) none=some (.arr r off i none 1 ag):=by
 show F.Qbd P t (.arr r off len none 1 ag) none (some (.ofNat i)) none=_
 unfold F.Qbd
 simp only[he,hl,Nat.beq_refl,cond_true]
 unfold F.Qbo
 simp only[Option.getD_some,F.Qau]
 rw[show Nat.ble i len=true from by rw[Nat.ble_eq];exact hi]
 simp only[cond_true,Option.getD_none,show Nat.ble 0 i=true from Nat.ble_eq ▸ Nat.zero_le i,show(Nat.beq 0 0)=true from rfl,Bool.not_true,Bool.and_false,cond_false,Nat.zero_mul,Nat.add_zero,Nat.sub_zero]
theorem qld{d x y:Nat}{t:TypeId}{z0 z1 w:V}{r n:Nat}{li:Option Nat}{k:IntKind}{L:List Nat}{f0:Bool}(hd:o.dst=some d)(ho:o.op=.build t #[(0,.tmp x),(1,.tmp y)])(h2:two P t=true)(hz:zeroV P t=some (.agg [z0,z1]))(hxy:x≠y)
  (hr:hp.rows[r]? = some (.cells f0 (nl k L))) (hn:n≤L.length) (hw:Pl w) :
  gen P C call gl o (pt (pt .lf x (.arr (.glob r) 0 n li 1 false)) y w) tm loc hp j=j (.agg [.slice none false 1 (nl k (L.take n)),w]) loc (hset hp r (.cells true (nl k L))):=by
 unfold two at h2
 split at h2
 ·rename_i fs hu
  split at h2
  ·rename_i f0' f1 hfs
   simp only[Bool.and_eq_true]at h2
   obtain⟨⟨a0,a1⟩,a2⟩:=h2
   have e:fs = #[f0',f1]:=by apply Array.toList_inj.1;rw[hfs]
   subst e
   split at a2
   ·rename_i a b s0 s1
    simp only[Bool.and_eq_true]at a2
    have b1:a=1:=Nat.eq_of_beq_eq_true a2.1
    have b2:b=1:=Nat.eq_of_beq_eq_true a2.2
    subst b1;subst b2
    have o0:f0'.offset=0:=Nat.eq_of_beq_eq_true a0
    have o1:f1.offset=1:=Nat.eq_of_beq_eq_true a1
    generalize hv:V.arr (.glob r) 0 n li 1 false=v
    have hx:gt (pt (pt .lf x v) y w) x=v:=by rw[qal,if_neg (Ne.symm hxy),qal,if_pos rfl]
    have hy:gt (pt (pt .lf x v) y w) y=w:=by rw[qal,if_pos rfl]
    have i0:(P.info? f0'.type).isSome=true:=by
     unfold QbG at s0
     cases h:P.info? f0'.type with
     | none=>rw[h]at s0;simp at s0
     | some i=>rfl
    have i1:(P.info? f1.type).isSome=true:=by
     unfold QbG at s1
     cases h:P.info? f1.type with
     | none=>rw[h]at s1;simp at s1
     | some i=>rfl
    have e0:Qat P t 0=some f0':=by unfold Qat;rw[hu];rfl
    have e1:Qat P t 1=some f1:=by unfold Qat;rw[hu];rfl
    have ea:(#[f0',f1]:Array Field).all (fun f=>(P.info? f.type).isSome)=true:=by simp[i0,i1]
    have hplain:v.QbM.plain=false:=by subst hv;rfl
    refine qaL (v:=.agg [.slice none false 1 (nl k (L.take n)),w]) (st:=⟨pt (pt .lf x v) y w,loc,hset hp r (.cells true (nl k L))⟩) hd ?_
    have hp1:Qal P C gl (⟨pt (pt .lf x v) y w,loc,hp⟩:St).ρ (⟨pt (pt .lf x v) y w,loc,hp⟩:St).lc o=none:=by
     unfold Qal
     simp only[ho,Qam,hu,hz,V.live,Bool.true_and]
     rw[ea]
     simp only[cond_true,Qbl,e0,qaB,hx,hplain,Bool.false_and,cond_false,Option.map_none]
    unfold Qah
    rw[hp1]
    unfold stepG
    have hex:exps true ⟨pt (pt .lf x v) y w,loc,hp⟩ [v,w]=some ([.slice none false 1 (nl k (L.take n)),w],⟨pt (pt .lf x v) y w,loc,hset hp r (.cells true (nl k L))⟩):=by
     subst hv
     have h1:exp true ⟨pt (pt .lf x (.arr (.glob r) 0 n li 1 false)) y w,loc,hp⟩ (.arr (.glob r) 0 n li 1 false)=some (.slice none false 1 (nl k (L.take n)),⟨pt (pt .lf x (.arr (.glob r) 0 n li 1 false)) y w,loc,hset hp r (.cells true (nl k L))⟩):=by
      simp only[exp,exp1,Bool.true_or,cond_true,freeze,qbQ,hr]
      have h3:=qdP (tm:=pt (pt .lf x (.arr (.glob r) 0 n li 1 false)) y w) (loc:=loc) (li:=li) hr (off:=0) (len:=n) (by omega)
      rw[List.drop_zero]at h3
      rw[h3]
      simp only[qcc,cond_true,qbx]
     rw[show ∀ (st:St) (v:V) (r:List V),exps true st (v::r)=(match exp true st v with
      | none=>none
      | some (v',st')=>match exps true st' r with
       | none=>none
       | some (l',st'')=>some (v'::l',st'')) from fun _ _ _=>rfl]
     rw[h1]
     simp only[exps,hw.expF]
    have ez:V.cells (.agg [z0,z1])=[z0,z1]:=rfl
    have pls:Pl (.slice none false 1 (nl k (L.take n))):=(Sl.pl (.inl ⟨false,rfl⟩:Sl k (.slice none false 1 (nl k (L.take n))) (L.take n)))
    simp only[ho,opds,List.map_cons,List.map_nil,qaB,hx,hy,hu,hz,hex,V.live,Bool.true_and]
    rw[ea]
    simp only[Bool.not_true,cond_false]
    show(match Qbl P t (fun i=>[V.slice none false 1 (nl k (L.take n)),w].getD i .dead) [(0,.tmp 0),(1,.tmp 1)] (V.cells (.agg [z0,z1]))with
     | some cs=>some (Res.val (.agg cs) _)
     | none=>none)=_
    have ef:Qbl P t (fun i=>[V.slice none false 1 (nl k (L.take n)),w].getD i .dead) [(0,.tmp 0),(1,.tmp 1)] (V.cells (.agg [z0,z1]))=some [.slice none false 1 (nl k (L.take n)),w]:=by
     have q0:AM.opd (fun i=>[V.slice none false 1 (nl k (L.take n)),w].getD i .dead) (.tmp 0)=.slice none false 1 (nl k (L.take n)):=rfl
     have q1:AM.opd (fun i=>[V.slice none false 1 (nl k (L.take n)),w].getD i .dead) (.tmp 1)=w:=rfl
     simp only[Qbl,e0,e1,q0,q1,pls.weak,pls.plain,pls.cells,hw.weak,hw.plain,hw.cells,s0,s1,o0,o1,ez,Option.getD_some,List.length_cons,List.length_nil]
     rfl
    rw[ef]
   ·simp at a2
  ·simp at h2
 ·simp at h2
theorem qoO{h:Hp}{a t d g:Nat}{f:Bool}{s:St}{x y:V}(hl:Qax P t=some (2,true))(hv:gt s.tm a=.ptr (.loc d g) 0)(hr:lg s.loc d=(g,.cells f [x,y]))(hx:Pl x)(hy:Pl y) :
  fin P h [.cell a t] s=some (.val (.agg [x,y]) (Qar h s.hp [.agg [x,y]])):=by
 unfold fin
 have e1:Qbj P s [.cell a t]=some [.agg [x,y]]:=by
  simp only[Qbj,qbI,hv,qap hr,QaV,hl]
  rfl
 rw[e1]
 simp only[exps,qda (cs:=[x,y]) (by intro v hv;simp at hv;rcases hv with rfl | rfl<;>assumption)]
def DG(n:Nat)(h:Hp):Prop:=∀ x,h.dirty=some x→n≤x
theorem DG.set{n:Nat}{h:Hp}(hd:DG n h){r:Nat}(hr:n≤r)(row:Row):DG n (hset h r row):=by
 intro x hx
 have hx:lower h.dirty r=some x:=hx
 cases hq:h.dirty with
 | none=>rw[hq]at hx;simp[lower]at hx;omega
 | some y =>
  have:=hd y hq
  rw[hq]at hx
  simp[lower]at hx
  omega
theorem DG.add{n:Nat}{h:Hp}(hd:DG n h)(row:Row):DG n (qgI h row):=hd
theorem DG.back{n:Nat}{h h':Hp}(h1:DG n h)(h2:DG n h')(l:List V):DG n (Qar h h' l):=by
 unfold Qar
 cases QaX h h' with
 | true =>
  cases V.Qaf l with
  | true=>exact h1
  | false=>exact h1
 | false =>
  intro x hx
  simp only[cond_false]at hx
  cases ha:h.dirty with
  | none=>rw[ha]at hx;exact h2 x hx
  | some a =>
   cases hb:h'.dirty with
   | none=>rw[ha,hb]at hx;simp at hx;have:=h1 a ha;omega
   | some b =>
    rw[ha,hb]at hx
    have e1:=h1 a ha;have e2:=h2 b hb
    simp at hx
    omega
theorem qha{h h':Hp}{l:List V}(hl:V.Qaf l=false):(Qar h h' l).rows=h'.rows:=by
 unfold Qar
 rw[hl]
 cases QaX h h'<;>rfl
def Gs(h:Hp)(v:V)(k:IntKind)(l:List Nat):Prop :=
 (l=[]∧v=.nils)∨(∃ r L,v=.arr (.glob r) 0 l.length none 1 false∧h.rows[r]? = some (.cells false (nl k L))∧L.take l.length=l∧l.length≤L.length∧0<L.length)
theorem Gs.items{h:Hp}{v:V}{k:IntKind}{l:List Nat}(hv:Gs h v k l)(tm:Tm)(loc:Lo):Qag ⟨tm,loc,h⟩ v=some (nl k l):=by
 rcases hv with ⟨rfl,rfl⟩ | ⟨r,L,rfl,hr,ht,hl,_⟩
 ·rfl
 ·have:=qdP (tm:=tm) (loc:=loc) (li:=none) hr (off:=0) (len:=l.length) (by omega)
  rw[List.drop_zero,ht]at this
  exact this
structure Qdq(hp h':Hp)(v v':V)(k:IntKind)(l l':List Nat):Prop where
 gs:Gs h' v' k l'
 len:hp.rows.length≤h'.rows.length
 same:∀ i,i<hp.rows.length→v≠.arr (.glob i) 0 l.length none 1 false→h'.rows[i]? = hp.rows[i]?
 dg:∀ n0,DG n0 hp→(∀ r,v=.arr (.glob r) 0 l.length none 1 false→n0≤r)→n0≤hp.rows.length→DG n0 h'∧∀ r,v'=.arr (.glob r) 0 l'.length none 1 false→n0≤r
theorem qj5{d x y t e b:Nat}(hi:ApI P o d x y t)(hA:C.QaN t=true)(hg:gl d=true)(he:QaB P t=some e)(hl:Qax P e=some (1,false))(hb:Qb1 P e=some b)(hxy:x≠y)
  {loc:Lo} {k:IntKind} {l:List Nat} {v w:V} {n:Nat} (hv:Gs hp v k l) (hit:∀ tm,Qag ⟨tm,loc,hp⟩ w=some (nl k [n])) (hn:(l.length+1)*b≤70368744177664) :
  ∃ v' h',(∀ (call:Qad) (tm:Tm) (j:V→Lo→Hp→R),gen P C call gl o (pt (pt .lf x v) y w) tm loc hp j=j v' loc h')∧Qdq hp h' v v' k l (l++[n]):=by
 have grow:∀ (hv:Gr hp v k l),∃ v' h',(∀ (call:Qad) (tm:Tm) (j:V→Lo→Hp→R),gen P C call gl o (pt (pt .lf x v) y w) tm loc hp j=j v' loc h')∧Qdq hp h' v v' k l (l++[n]):=by
  intro hv
  obtain⟨h',h1,h2,h3,h4,h5⟩:=qhL (P:=P) (C:=C) (gl:=gl) (o:=o) hi hA hg he hl hb hxy hv hit (by simp) (by simpa using hn)
  refine⟨_,h',h1,⟨.inr ⟨hp.rows.length,l++[n],by simp,h2,by rw[List.take_length],Nat.le_refl _,by simp⟩,by omega,h4,fun n0 a b c=>?_⟩⟩
  have e:DG n0 h':=by
   rcases h5 with rfl | ⟨r,hr,rfl⟩
   ·exact a
   ·exact DG.add (a.set (b r hr) .gone) _
  exact⟨e,fun r hr=>by injection hr with h1;injection h1 with h1;omega⟩
 rcases hv with h | ⟨r,L,rfl,hrow,ht,hlL,hL0⟩
 ·exact grow (.inl h)
 ·by_cases hfull:l.length=L.length
  ·have e:L=l:=by rw[←ht,hfull,List.take_length]
   subst e
   exact grow (.inr ⟨by intro h;rw[h]at hL0;simp at hL0,r,rfl,hrow⟩)
  ·obtain⟨hd,c,ho,hc,ha,hty,hni⟩:=hi
   generalize hvv:V.arr (.glob r) 0 l.length none 1 false=v at *
   have hx:gt (pt (pt .lf x v) y w) x=v:=by rw[qal,if_neg (Ne.symm hxy),qal,if_pos rfl]
   have hy:gt (pt (pt .lf x v) y w) y=w:=by rw[qal,if_pos rfl]
   have hp1:Qal P C gl (⟨pt (pt .lf x v) y w,loc,hp⟩:St).ρ (⟨pt (pt .lf x v) y w,loc,hp⟩:St).lc o=none:=by
    unfold Qal
    simp only[ho,Qam,hc,ha,Option.map_none]
   have hmb:∀ n,n≤70368744177664→Nat.ble n Qaj=true:=fun n h=>by rw[Nat.ble_eq];exact h
   refine⟨.arr (.glob r) 0 (l.length+1) none 1 false,hset hp r (.cells false (nl k (L.set l.length n))),fun call tm j=>qaL (st:=⟨pt (pt .lf x v) y w,loc,hset hp r (.cells false (nl k (L.set l.length n)))⟩) hd ?_,⟨.inr ⟨r,L.set l.length n,by simp,qc5 _ hrow,?_,by simp;omega,by simpa using hL0⟩,by rw[qbd];exact Nat.le_refl _,fun i hi hne=>qck _ (fun e=>hne (by rw[←hvv,e])),fun n0 a b c=>⟨a.set (b r hvv.symm) _,fun r' hr'=>by injection hr' with h1;injection h1 with h1;have:=b r hvv.symm;omega⟩⟩⟩
   ·unfold Qah
    rw[hp1]
    unfold stepG
    simp only[ho,QaP,hc,hty,hd,opds,ha,List.map_cons,List.map_nil,qaB,hx,hy,hni,cond_true,Qai,he,hl,hb,hit,qbS]
    subst hvv
    simp only[qbQ,hrow,qaD,Nat.beq_refl,beq_self_eq_true,Bool.and_self,Nat.zero_add,Nat.mul_one,List.length_cons,List.length_nil]
    rw[show Nat.ble l.length L.length=true from by rw[Nat.ble_eq];exact hlL,hmb _ hn]
    simp only[Bool.and_self,cond_true]
    rw[show nl k [n]=[V.int k (.ofNat n)] from rfl]
    simp only[Qa3,Bool.not_false,Bool.true_and]
    have hfl:flat [V.int k (Int.ofNat n)]=[V.int k (Int.ofNat n)]:=rfl
    rw[hfl,show(!V.Qak [V.int k (Int.ofNat n)])=false from rfl]
    simp only[cond_false]
    rw[show Nat.ble (l.length+1) L.length=true from by rw[Nat.ble_eq];omega]
    simp only[cond_true,qfQ k L l.length n (by omega),qbx]
   ·rw[List.length_append,List.length_cons,List.length_nil,List.take_add_one,List.getElem?_set_self (by omega),List.take_set,List.set_eq_of_length_le (by simp;omega),ht]
    rfl
theorem qqZ(r o:Nat):ldF (.ptr (.glob r) o)=⟨[],[],true,false,true,false⟩:=rfl
theorem qdu {t : TypeId} {a x r off n : Nat} {k : IntKind} {d : List Nat} {t' : Tm} {J : JD} {X : XD} (ho : o.op = .store t (.tmp a) (.tmp x)) (hd : o.dst = none) (hl : QaR P t 1 = true) (ha : gt t' a = .ptr (.glob r) off) (hx : gt t' x = .int k (.ofNat n))
    (hr : hp.rows[r]? = some (.cells false (nl k d))) (h : off < d.length) :
    qgN P C call gl o t' loc hp J X = J (.tuple []) ⟨[], [], true, true, false, false⟩ loc (hset hp r (.cells false (nl k (d.set off n)))) := by
  have hp1 : Qal P C gl (⟨t', loc, hp⟩ : St).ρ (⟨t', loc, hp⟩ : St).lc o = none := by
    unfold Qal
    simp only [ho, qaB, ha]
  have hf : Qaz P C gl (⟨t', loc, hp⟩ : St).ρ (⟨t', loc, hp⟩ : St).lc o = some ⟨[], [], true, true, false, false⟩ := by
    unfold Qaz
    rw [hp1]
    simp only [ho, qaB, ha, hx]
    rfl
  have hs : Qah P C gl ⟨t', loc, hp⟩ o = some (.val (.tuple []) ⟨t', loc, hset hp r (.cells false (nl k (d.set off n)))⟩) := by
    unfold Qah
    rw [hp1]
    unfold stepG
    have he : exp false ⟨t', loc, hp⟩ (.int k (.ofNat n)) = some (.int k (.ofNat n), ⟨t', loc, hp⟩) := rfl
    simp only [ho, qaB, ha, hx, hr, he, V.cells, List.all_cons, V.Qaw, List.all_nil, Bool.and_self, List.length_cons, List.length_nil, Nat.zero_add, hl, cond_true, qfQ k d off n h, qbx]
  unfold qgN
  rw [F.QbN, F.QbL, F.Qcg, F.Qcq, hf]
  show G.Qac (QaA P C call gl ⟨t', loc, hp⟩ o) _ none = _
  unfold QaA
  rw [hs]
  simp only [QaF, hd]
  show J (.tuple []) (F.settle hp (hset hp r (.cells false (nl k (d.set off n)))) ⟨[], [], true, true, false, false⟩) loc (hset hp r (.cells false (nl k (d.set off n)))) = _
  have : F.settle hp (hset hp r (.cells false (nl k (d.set off n)))) ⟨[], [], true, true, false, false⟩ = ⟨[], [], true, true, false, false⟩ := by
    unfold F.settle
    have e : Nat.beq (hset hp r (.cells false (nl k (d.set off n)))).mods hp.mods = false := by
      cases hb : Nat.beq (hset hp r (.cells false (nl k (d.set off n)))).mods hp.mods with
      | false => rfl
      | true => have h2 : hp.mods + 1 = hp.mods := Nat.eq_of_beq_eq_true hb
                omega
    rw [e]; rfl
  rw [this]
theorem qwB(i:Decidable True):@decide True i=true:=decide_eq_true trivial
theorem qsq(i:Decidable False):@decide False i=false:=decide_eq_false (fun h=>h)
attribute [go_sem] qqZ qvW qqY qpI qpH qpJ qvZ qla qon qpW qos qi4 qxj qxi qxl qwB qsq qpB beq_self_eq_true Nat.zero_add Nat.reduceAdd qBv qyX qal qbr qcL qog qoc qnh qyF qyB qv0 qyD qyC qyE qxA qq3 qpN qxt qmf qkx qyZ qy0 qnZ qmx qw6 qaJ qqh qqi qgz qk6 qiL qvT qaD qxs qvU qwC qxS qtW qtE qlN qek qel qnp qpT qxx qyA qyz qoo qop qoq qxz qs9
section
variable {P:Program}{kn:Kn}{tbl:Nat→Option Fc}{f:Qad→Tm→Lo→Hp→K→R}{s:St}{tm':Tm}{loc':Lo}{hp':Hp}{N:St→Prop}{X:Nat→St→Prop}{Q:St→Prop}{a b:RC}{p p1 p2 p3:Prop}
theorem sS  (h:p:=by simp -implicitDefEqProofs (disch:=omega) only[go_sem,reduceIte,Nat.reduceEqDiff]):p:=h
theorem sE  (hq:N ⟨tm',loc',hp'⟩)(h:∀ n k,f (fn P kn tbl n) s.tm s.loc s.hp k=k tm' loc' hp':=by intro  n k;simp -implicitDefEqProofs (disch:=omega) only[go_sem,reduceIte,Nat.reduceEqDiff];rfl):WW P kn tbl (.reg f) s N X Q:=qad (h ) hq
theorem sR  (hq:WW P kn tbl b ⟨tm',loc',hp'⟩ N X Q)(h:∀ n k,f (fn P kn tbl n) s.tm s.loc s.hp k=k tm' loc' hp':=by intro  n k;simp -implicitDefEqProofs (disch:=omega) only[go_sem,reduceIte,Nat.reduceEqDiff];rfl):WW P kn tbl (.seq (.reg f) b) s N X Q:=qac (qad (h ) hq)
theorem sS1(x1:p1)(h:p1→p:=by intro x1;simp -implicitDefEqProofs (disch:=omega) only[go_sem,reduceIte,Nat.reduceEqDiff,x1]):p:=h x1
theorem sE1(x1:p1)(hq:N ⟨tm',loc',hp'⟩)(h:p1→∀ n k,f (fn P kn tbl n) s.tm s.loc s.hp k=k tm' loc' hp':=by intro x1 n k;simp -implicitDefEqProofs (disch:=omega) only[go_sem,reduceIte,Nat.reduceEqDiff,x1];rfl):WW P kn tbl (.reg f) s N X Q:=qad (h x1) hq
theorem sR1(x1:p1)(hq:WW P kn tbl b ⟨tm',loc',hp'⟩ N X Q)(h:p1→∀ n k,f (fn P kn tbl n) s.tm s.loc s.hp k=k tm' loc' hp':=by intro x1 n k;simp -implicitDefEqProofs (disch:=omega) only[go_sem,reduceIte,Nat.reduceEqDiff,x1];rfl):WW P kn tbl (.seq (.reg f) b) s N X Q:=qac (qad (h x1) hq)
theorem sQ1(x1:p1)(hq:WW P kn tbl a ⟨tm',loc',hp'⟩ (fun s1=>WW P kn tbl b s1 N X Q) X Q)(h:p1→∀ n k,f (fn P kn tbl n) s.tm s.loc s.hp k=k tm' loc' hp':=by intro x1 n k;simp -implicitDefEqProofs (disch:=omega) only[go_sem,reduceIte,Nat.reduceEqDiff,x1];rfl):WW P kn tbl (.seq (.seq (.reg f) a) b) s N X Q:=qac (qac (qad (h x1) hq))
theorem sS2(x1:p1)(x2:p2)(h:p1→p2→p:=by intro x1 x2;simp -implicitDefEqProofs (disch:=omega) only[go_sem,reduceIte,Nat.reduceEqDiff,x1,x2]):p:=h x1 x2
theorem sE2(x1:p1)(x2:p2)(hq:N ⟨tm',loc',hp'⟩)(h:p1→p2→∀ n k,f (fn P kn tbl n) s.tm s.loc s.hp k=k tm' loc' hp':=by intro x1 x2 n k;simp -implicitDefEqProofs (disch:=omega) only[go_sem,reduceIte,Nat.reduceEqDiff,x1,x2];rfl):WW P kn tbl (.reg f) s N X Q:=qad (h x1 x2) hq
theorem sR2(x1:p1)(x2:p2)(hq:WW P kn tbl b ⟨tm',loc',hp'⟩ N X Q)(h:p1→p2→∀ n k,f (fn P kn tbl n) s.tm s.loc s.hp k=k tm' loc' hp':=by intro x1 x2 n k;simp -implicitDefEqProofs (disch:=omega) only[go_sem,reduceIte,Nat.reduceEqDiff,x1,x2];rfl):WW P kn tbl (.seq (.reg f) b) s N X Q:=qac (qad (h x1 x2) hq)
theorem sQ2(x1:p1)(x2:p2)(hq:WW P kn tbl a ⟨tm',loc',hp'⟩ (fun s1=>WW P kn tbl b s1 N X Q) X Q)(h:p1→p2→∀ n k,f (fn P kn tbl n) s.tm s.loc s.hp k=k tm' loc' hp':=by intro x1 x2 n k;simp -implicitDefEqProofs (disch:=omega) only[go_sem,reduceIte,Nat.reduceEqDiff,x1,x2];rfl):WW P kn tbl (.seq (.seq (.reg f) a) b) s N X Q:=qac (qac (qad (h x1 x2) hq))
theorem sE3(x1:p1)(x2:p2)(x3:p3)(hq:N ⟨tm',loc',hp'⟩)(h:p1→p2→p3→∀ n k,f (fn P kn tbl n) s.tm s.loc s.hp k=k tm' loc' hp':=by intro x1 x2 x3 n k;simp -implicitDefEqProofs (disch:=omega) only[go_sem,reduceIte,Nat.reduceEqDiff,x1,x2,x3];rfl):WW P kn tbl (.reg f) s N X Q:=qad (h x1 x2 x3) hq
theorem sR3(x1:p1)(x2:p2)(x3:p3)(hq:WW P kn tbl b ⟨tm',loc',hp'⟩ N X Q)(h:p1→p2→p3→∀ n k,f (fn P kn tbl n) s.tm s.loc s.hp k=k tm' loc' hp':=by intro x1 x2 x3 n k;simp -implicitDefEqProofs (disch:=omega) only[go_sem,reduceIte,Nat.reduceEqDiff,x1,x2,x3];rfl):WW P kn tbl (.seq (.reg f) b) s N X Q:=qac (qad (h x1 x2 x3) hq)
theorem sQ3(x1:p1)(x2:p2)(x3:p3)(hq:WW P kn tbl a ⟨tm',loc',hp'⟩ (fun s1=>WW P kn tbl b s1 N X Q) X Q)(h:p1→p2→p3→∀ n k,f (fn P kn tbl n) s.tm s.loc s.hp k=k tm' loc' hp':=by intro x1 x2 x3 n k;simp -implicitDefEqProofs (disch:=omega) only[go_sem,reduceIte,Nat.reduceEqDiff,x1,x2,x3];rfl):WW P kn tbl (.seq (.seq (.reg f) a) b) s N X Q:=qac (qac (qad (h x1 x2 x3) hq))
theorem sSG  (h:p:=by simp -implicitDefEqProofs (disch:=omega) only[go_sem,reduceIte,Nat.reduceEqDiff,qae,List.getD_cons_zero,List.getD_cons_succ]):p:=h
theorem sEG  (hq:N ⟨tm',loc',hp'⟩)(h:∀ n k,f (fn P kn tbl n) s.tm s.loc s.hp k=k tm' loc' hp':=by intro  n k;simp -implicitDefEqProofs (disch:=omega) only[go_sem,reduceIte,Nat.reduceEqDiff,qae,List.getD_cons_zero,List.getD_cons_succ];rfl):WW P kn tbl (.reg f) s N X Q:=qad (h ) hq
theorem sRG  (hq:WW P kn tbl b ⟨tm',loc',hp'⟩ N X Q)(h:∀ n k,f (fn P kn tbl n) s.tm s.loc s.hp k=k tm' loc' hp':=by intro  n k;simp -implicitDefEqProofs (disch:=omega) only[go_sem,reduceIte,Nat.reduceEqDiff,qae,List.getD_cons_zero,List.getD_cons_succ];rfl):WW P kn tbl (.seq (.reg f) b) s N X Q:=qac (qad (h ) hq)
theorem sQG  (hq:WW P kn tbl a ⟨tm',loc',hp'⟩ (fun s1=>WW P kn tbl b s1 N X Q) X Q)(h:∀ n k,f (fn P kn tbl n) s.tm s.loc s.hp k=k tm' loc' hp':=by intro  n k;simp -implicitDefEqProofs (disch:=omega) only[go_sem,reduceIte,Nat.reduceEqDiff,qae,List.getD_cons_zero,List.getD_cons_succ];rfl):WW P kn tbl (.seq (.seq (.reg f) a) b) s N X Q:=qac (qac (qad (h ) hq))
end
end Go.AM.S
end
