/- Part 4 of the proof: what it says stands at its theorems. -/
import Derived.Test.YtooliddjiiilfaaRrA3
import Derived.KernelRfl
set_option linter.unusedVariables false
set_option linter.unusedSimpArgs false
set_option linter.unusedSectionVars false
section
namespace Go.AM.S
open Go Go.AM Go.Proofs
open _root_.Go.AM.G (R)
set_option maxRecDepth 100000
set_option linter.defProp false
noncomputable section
def go1(F:Func)(f id i x:Nat)(v:V)(c:Qad)(t:Tm)(l:Lo)(h:Hp)(j:V→Lo→Hp→R):R:=gn F f id i c (pt .lf x v) t l h j
def go2(F:Func)(f id i x y:Nat)(v w:V)(c:Qad)(t:Tm)(l:Lo)(h:Hp)(j:V→Lo→Hp→R):R:=gn F f id i c (pt (pt .lf x v) y w) t l h j
theorem qtc{F:Func}{f id i x:Nat}{c:Qad}{t' t:Tm}{l:Lo}{h:Hp}{j:V→Lo→Hp→R}(ht:tmpsOf (opA F id i)=[x]):gn F f id i c t' t l h j=go1 F f id i x (gt t' x) c t l h j :=
 qgM (fun y hy=>by rw[ht]at hy;rw[List.mem_singleton.1 hy,qal,if_pos rfl])
theorem qv6{F:Func}{f id i x:Nat}{c:Qad}{t' t:Tm}{l:Lo}{h:Hp}{j:V→Lo→Hp→R}(ht:tmpsOf (opA F id i)=[x,x]):gn F f id i c t' t l h j=go1 F f id i x (gt t' x) c t l h j :=
 qgM (fun y hy=>by
  rw[ht]at hy
  have:y=x:=by simpa using hy
  rw[this,qal,if_pos rfl])
theorem qxD{F:Func}{f id i x y:Nat}{c:Qad}{t' t:Tm}{l:Lo}{h:Hp}{j:V→Lo→Hp→R}(ht:tmpsOf (opA F id i)=[x,y])(hxy:x≠y):gn F f id i c t' t l h j=go2 F f id i x y (gt t' x) (gt t' y) c t l h j :=
 qgM (fun q hq=>by
  rw[ht]at hq
  rcases List.mem_cons.1 hq with rfl | hq
  ·rw[qal,if_neg (Ne.symm hxy),qal,if_pos rfl]
  ·rw[List.mem_singleton.1 hq,qal,if_pos rfl])
abbrev M1(F:Func)(f i k x:Nat):Prop:=∀ (c:Qad) (t' t:Tm) (l:Lo) (h:Hp) (j:V→Lo→Hp→R),gn F f i k c t' t l h j=go1 F f i k x (gt t' x) c t l h j
theorem mk1{F:Func}{f i k x:Nat}(ht:tmpsOf (opA F i k)=[x]):M1 F f i k x:=fun _ _ _ _ _ _=>qtc ht
theorem qwX{F:Func}{f i k x:Nat}(ht:tmpsOf (opA F i k)=[x,x]):M1 F f i k x:=fun _ _ _ _ _ _=>qv6 ht
abbrev M2(F:Func)(f i k x y:Nat):Prop:=∀ (c:Qad) (t' t:Tm) (l:Lo) (h:Hp) (j:V→Lo→Hp→R),gn F f i k c t' t l h j=go2 F f i k x y (gt t' x) (gt t' y) c t l h j
theorem mk2{F:Func}{f i k x y:Nat}(ht:tmpsOf (opA F i k)=[x,y])(hxy:x≠y):M2 F f i k x y:=fun _ _ _ _ _ _=>qxD ht hxy
abbrev NC(F:Func)(f i k:Nat)(kd:IntKind)(x:Nat):Prop:=∀ (c:Qad) (t' t:Tm) (l:Lo) (h:Hp) (j:V→Lo→Hp→R),gn F f i k c t' t l h j=cvt kd (gt t' x) (fun v=>j v l h)
theorem mkC{F:Func}{f i k d x:Nat}{s t:TypeId}{ks kd:IntKind}(hd:(opA F i k).dst=some d)(ho:(opA F i k).op=.convert s t (.tmp x))(h1:Pg.underlying s=some (.int ks))(h2:Pg.underlying t=some (.int kd)):NC F f i k kd x:=fun _ _ _ _ _ _=>qj8 hd ho h1 h2
abbrev NB(F:Func)(f i k d x:Nat):Prop:=∀ (c:Qad) (t' t:Tm) (l:Lo) (h:Hp) (j:V→Lo→Hp→R),gn F f i k c t' t l h j=bx d (gt t' x) l (fun v l=>j v l h)
theorem mkB{F:Func}{f i k d x:Nat}{t:TypeId}(hd:(opA F i k).dst=some d)(ho:(opA F i k).op=.box t (.tmp x))(ha:Cg.QaN t=false)(hg:Cg.glob f d=false):NB F f i k d x:=fun _ _ _ _ _ _=>qrm hd ho ha hg
abbrev PE(p:Tm→V→Tm)(i:Nat):Prop:=∀ (t:Tm) (v:V),p t v=pt t i v
abbrev GE(g:Tm→V)(i:Nat):Prop:=∀ t:Tm,g t=gt t i
abbrev DS(F:Func)(f i k a x ty:Nat):Prop:=∀ (s g off:Nat) (v:V) (c:Qad) (t:Tm) (l:Lo) (h:Hp) (J:JD) (X:XD),gD F f i k c (pt (pt t a (.ptr (.loc s g) off)) x v) l h J X=stc Pg ty g off v (lg l s) (fun row=>J (.tuple []) ⟨[s],[s],false,false,false,false⟩ (lp l s row) h)
theorem mkS{F:Func}{f i k a x ty:Nat}(ho:(opA F i k).op=.store ty (.tmp a) (.tmp x))(hd:(opA F i k).dst=none)(hax:x≠a):DS F f i k a x ty:=fun s g off v c t l h J X=>by
 have h1:gt (pt (pt t a (.ptr (.loc s g) off)) x v) a=.ptr (.loc s g) off:=by rw[qal,if_neg hax,qal,if_pos rfl]
 have h2:gt (pt (pt t a (.ptr (.loc s g) off)) x v) x=v:=by rw[qal,if_pos rfl]
 have h3:=qmT (C:=Cg) (P:=Pg) (gl:=Cg.glob f) (call:=c) (loc:=l) (hp:=h) (J:=J) (X:=X) ho hd h1
 rw[h2]at h3
 exact h3
abbrev QO(F:Func)(f i k x d:Nat):Prop:=∀ (c:Qad) (t:Tm) (l:Lo) (h:Hp) (j:V→Lo→Hp→R) (q:IntKind) (n:Nat),go1 F f i k x (.int q (.ofNat n)) c t l h j=j (.arr (.loc d ((lg l d).1+1)) 0 1 (some 1) 1 false) (lp l d ((lg l d).1+1,.cells false (nl q [n]))) h
theorem mkO{F:Func}{f i k x d:Nat}{t e:TypeId}{k0:IntKind}{n0:Int}(hd:(opA F i k).dst=some d)(ho:(opA F i k).op=.buildSlice t 1 #[(0,.tmp x)])(ha:Cg.QaN t=true)(hg:Cg.glob f d=false)(he:QaB Pg t=some e)(hl:Qax Pg e=some (1,false))(hz:zeroV Pg e=some (.int k0 n0)):QO F f i k x d :=
 fun c tm l h j q n=>qiP (C:=Cg) (gl:=Cg.glob f) (call:=c) (tm:=tm) (loc:=l) (hp:=h) (j:=j) (t':=pt .lf x (.int q (.ofNat n))) (k:=q) (n:=n) (x:=.tmp x) hd ho ha hg he hl hz (by rw[qaB,qal,if_pos rfl])
abbrev AP(F:Func)(f i k x y d:Nat):Prop:=∀ {loc:Lo} {q:IntKind} {l:List Nat} {v:V} (n:Nat) (hv:Ar loc d v q l) (hn:l.length≤1000000000),∃ v' loc',(∀ (c:Qad) (tm:Tm) (hp:Hp) (j:V→Lo→Hp→R),go2 F f i k x y v (.arr (.loc y ((lg loc y).1+1)) 0 1 (some 1) 1 false) c tm (lp loc y ((lg loc y).1+1,.cells false (nl q [n]))) hp j=j v' loc' hp)∧Ar loc' d v' q (l++[n])∧∀ i,i≠d→i≠y→lg loc' i=lg loc i
theorem mkP{F:Func}{f i k x y d:Nat}{t e b:Nat}(hi:ApI Pg (opA F i k) d x y t)(hA:Cg.QaN t=true)(hg:Cg.glob f d=false)(he:QaB Pg t=some e)(hl:Qax Pg e=some (1,false))(hb:Qb1 Pg e=some b)(hxy:x≠y)(hyd:y≠d)(hb8:b≤8):AP F f i k x y d:=fun {loc q l v} n hv hn=>qrh hi hA hg he hl hb hxy hyd n hv (by have:=Nat.mul_le_mul_left (l.length+1) hb8;omega)
abbrev APT(F:Func)(f i k x y d:Nat):Prop:=∀ {loc:Lo} {q:IntKind} {l:List Nat} {v:V} (ys:List Nat) (tk:Option Ref) (fu:Bool) (hv:Tk loc d v q l) (hy:ys≠[]) (hn:l.length+ys.length≤1000000000),∃ v' loc',(∀ (c:Qad) (tm:Tm) (hp:Hp) (j:V→Lo→Hp→R),go2 F f i k x y v (.slice tk fu 1 (nl q ys)) c tm loc hp j=j v' loc' hp)∧Tk loc' d v' q (l++ys)∧∀ i,i≠d→lg loc' i=lg loc i
theorem qxo{F:Func}{f i k x y d:Nat}{t e b:Nat}(hi:ApI Pg (opA F i k) d x y t)(hA:Cg.QaN t=false)(hg:Cg.glob f d=false)(he:QaB Pg t=some e)(hl:Qax Pg e=some (1,false))(hb:Qb1 Pg e=some b)(hxy:x≠y)(hb8:b≤8):APT F f i k x y d:=fun {loc q l v} ys tk fu hv hy hn=>qoz hi hA hg he hl hb hxy hv hy (by have:=Nat.mul_le_mul_left (l.length+ys.length) hb8;omega)
theorem qtD(t s g off:Nat)(x:V)(loc:Lo)(hp:Hp)(j:V→Lo→Hp→R)(slow:R):sto t (.ptr (.loc s g) off) x loc hp j slow=stL Pg t s g off x loc (fun loc=>j (.tuple []) loc hp):=rfl
theorem qpZ(t r off:Nat)(x:V)(loc:Lo)(hp:Hp)(j:V→Lo→Hp→R)(slow:R):sto t (.ptr (.glob r) off) x loc hp j slow=slow:=rfl
theorem qyw(c:List (Nat × V))(f:List (Nat × V)→R):jE c f=f c:=rfl
theorem qyv(c:List Foot)(f:List Foot→R):jF c f=f c:=rfl
theorem qBT(n:Nat):I n=.int .i64 (.ofNat n):=rfl
end
attribute [go_sem] qtD qpZ qBT qyw qyv
theorem g0_:GE g0 0:=fun _=>rfl
theorem g1_:GE g1 1:=fun _=>rfl
theorem g2_:GE g2 2:=fun _=>rfl
theorem g3_:GE g3 3:=fun _=>rfl
theorem g4_:GE g4 4:=fun _=>rfl
theorem g5_:GE g5 5:=fun _=>rfl
theorem g6_:GE g6 6:=fun _=>rfl
theorem g7_:GE g7 7:=fun _=>rfl
theorem g8_:GE g8 8:=fun _=>rfl
theorem g9_:GE g9 9:=fun _=>rfl
theorem qBO:GE g10 10:=fun _=>rfl
theorem qBN:GE g11 11:=fun _=>rfl
theorem qBM:GE g12 12:=fun _=>rfl
theorem qBL:GE g13 13:=fun _=>rfl
theorem qBK:GE g14 14:=fun _=>rfl
theorem qBJ:GE g15 15:=fun _=>rfl
theorem qBI:GE g20 20:=fun _=>rfl
theorem qBH:GE g21 21:=fun _=>rfl
theorem qBG:GE g22 22:=fun _=>rfl
theorem qBF:GE g28 28:=fun _=>rfl
theorem qBE:GE g29 29:=fun _=>rfl
theorem qBD:GE g30 30:=fun _=>rfl
theorem qBC:GE g41 41:=fun _=>rfl
theorem qBB:GE g42 42:=fun _=>rfl
theorem qBA:GE g57 57:=fun _=>rfl
theorem qBz:GE g70 70:=fun _=>rfl
theorem qBy:GE g71 71:=fun _=>rfl
theorem p0_:PE p0 0:=fun _ _=>rfl
theorem p1_:PE p1 1:=fun _ _=>rfl
theorem p2_:PE p2 2:=fun _ _=>rfl
theorem p3_:PE p3 3:=fun _ _=>rfl
theorem p4_:PE p4 4:=fun _ _=>rfl
theorem p5_:PE p5 5:=fun _ _=>rfl
theorem p6_:PE p6 6:=fun _ _=>rfl
theorem p7_:PE p7 7:=fun _ _=>rfl
theorem p8_:PE p8 8:=fun _ _=>rfl
theorem p9_:PE p9 9:=fun _ _=>rfl
theorem qAg:PE p10 10:=fun _ _=>rfl
theorem qAf:PE p11 11:=fun _ _=>rfl
theorem qAe:PE p12 12:=fun _ _=>rfl
theorem qAd:PE p13 13:=fun _ _=>rfl
theorem qAc:PE p14 14:=fun _ _=>rfl
theorem qAb:PE p15 15:=fun _ _=>rfl
theorem qAa:PE p16 16:=fun _ _=>rfl
theorem qz9:PE p17 17:=fun _ _=>rfl
theorem qz8:PE p18 18:=fun _ _=>rfl
theorem qz7:PE p19 19:=fun _ _=>rfl
theorem qz6:PE p20 20:=fun _ _=>rfl
theorem qz5:PE p21 21:=fun _ _=>rfl
theorem qz4:PE p22 22:=fun _ _=>rfl
theorem qz3:PE p23 23:=fun _ _=>rfl
theorem qz2:PE p24 24:=fun _ _=>rfl
theorem qz1:PE p25 25:=fun _ _=>rfl
theorem qz0:PE p26 26:=fun _ _=>rfl
theorem qzZ:PE p27 27:=fun _ _=>rfl
theorem qzY:PE p28 28:=fun _ _=>rfl
theorem qzX:PE p29 29:=fun _ _=>rfl
theorem qzW:PE p30 30:=fun _ _=>rfl
theorem qzV:PE p31 31:=fun _ _=>rfl
theorem qzU:PE p32 32:=fun _ _=>rfl
theorem qzT:PE p33 33:=fun _ _=>rfl
theorem qzS:PE p34 34:=fun _ _=>rfl
theorem qzR:PE p35 35:=fun _ _=>rfl
theorem qzQ:PE p36 36:=fun _ _=>rfl
theorem qzP:PE p37 37:=fun _ _=>rfl
theorem qzO:PE p38 38:=fun _ _=>rfl
theorem qzN:PE p39 39:=fun _ _=>rfl
theorem qzM:PE p40 40:=fun _ _=>rfl
theorem qzL:PE p41 41:=fun _ _=>rfl
theorem qzK:PE p42 42:=fun _ _=>rfl
theorem qzJ:PE p43 43:=fun _ _=>rfl
theorem qzI:PE p44 44:=fun _ _=>rfl
theorem qzH:PE p45 45:=fun _ _=>rfl
theorem qzG:PE p46 46:=fun _ _=>rfl
theorem qzF:PE p47 47:=fun _ _=>rfl
theorem qzE:PE p48 48:=fun _ _=>rfl
theorem qzD:PE p49 49:=fun _ _=>rfl
theorem qzC:PE p50 50:=fun _ _=>rfl
theorem qzB:PE p51 51:=fun _ _=>rfl
theorem qzA:PE p52 52:=fun _ _=>rfl
theorem qzz:PE p53 53:=fun _ _=>rfl
theorem qzy:PE p54 54:=fun _ _=>rfl
theorem qzx:PE p55 55:=fun _ _=>rfl
theorem qzw:PE p56 56:=fun _ _=>rfl
theorem qzv:PE p57 57:=fun _ _=>rfl
theorem qzu:PE p58 58:=fun _ _=>rfl
theorem qzt:PE p59 59:=fun _ _=>rfl
theorem qzs:PE p60 60:=fun _ _=>rfl
theorem qzr:PE p62 62:=fun _ _=>rfl
theorem qzq:PE p63 63:=fun _ _=>rfl
theorem qzp:PE p64 64:=fun _ _=>rfl
theorem qzo:PE p65 65:=fun _ _=>rfl
theorem qzn:PE p66 66:=fun _ _=>rfl
theorem qzm:PE p67 67:=fun _ _=>rfl
theorem qzl:PE p68 68:=fun _ _=>rfl
theorem qzk:PE p69 69:=fun _ _=>rfl
theorem qzj:PE p70 70:=fun _ _=>rfl
theorem qzi:PE p71 71:=fun _ _=>rfl
theorem qzh:PE p72 72:=fun _ _=>rfl
theorem qzg:PE p75 75:=fun _ _=>rfl
theorem qzf:PE p76 76:=fun _ _=>rfl
theorem qze:PE p77 77:=fun _ _=>rfl
theorem qzd:PE p78 78:=fun _ _=>rfl
theorem qzc:PE p79 79:=fun _ _=>rfl
theorem qzb:PE p82 82:=fun _ _=>rfl
theorem qza:PE p83 83:=fun _ _=>rfl
theorem qy9:PE p84 84:=fun _ _=>rfl
theorem qy8:PE p88 88:=fun _ _=>rfl
theorem qy7:PE p97 97:=fun _ _=>rfl
theorem qyo:PE p105 105:=fun _ _=>rfl
theorem qyn:PE p112 112:=fun _ _=>rfl
theorem qym:PE qyV 113:=fun _ _=>rfl
theorem qyl:PE p115 115:=fun _ _=>rfl
theorem qyk:PE p126 126:=fun _ _=>rfl
theorem qyj:PE p131 131:=fun _ _=>rfl
theorem qyi:PE qyU 132:=fun _ _=>rfl
theorem qyh:PE qyT 133:=fun _ _=>rfl
theorem U2:Pg.underlying 2=some (.int .i64):=by kernel_rfl
theorem L2:F.Qax Pg 2=some (1,false):=by kernel_rfl
theorem N2:F.QaR Pg 2 1=true:=by kernel_rfl
theorem U3:Pg.underlying 3=some (.int .i64):=by kernel_rfl
theorem L3:F.Qax Pg 3=some (1,false):=by kernel_rfl
theorem Z3:F.zeroV Pg 3=some (.int .i64 (.ofNat 0)):=by kernel_rfl
theorem N3:F.QaR Pg 3 1=true:=by kernel_rfl
theorem U4:Pg.underlying 4=some .bool:=by kernel_rfl
theorem L4:F.Qax Pg 4=some (1,false):=by kernel_rfl
theorem N4:F.QaR Pg 4 1=true:=by kernel_rfl
theorem U5:Pg.underlying 5=some (.int .u8):=by kernel_rfl
theorem L5:F.Qax Pg 5=some (1,false):=by kernel_rfl
theorem N5:F.QaR Pg 5 1=true:=by kernel_rfl
theorem U9:Pg.underlying 9=some .string:=by kernel_rfl
theorem L9:F.Qax Pg 9=some (1,false):=by kernel_rfl
theorem Z9:F.zeroV Pg 9=some (.str ⟨0,0⟩):=by kernel_rfl
theorem N9:F.QaR Pg 9 1=true:=by kernel_rfl
theorem U21:Pg.underlying 21=some (.int .i32):=by kernel_rfl
theorem L21:F.Qax Pg 21=some (1,false):=by kernel_rfl
theorem N21:F.QaR Pg 21 1=true:=by kernel_rfl
theorem U24:Pg.underlying 24=some (.slice 86):=by kernel_rfl
theorem E24:F.QaB Pg 24=some 86:=by kernel_rfl
theorem L24:F.Qax Pg 24=some (1,false):=by kernel_rfl
theorem N24:F.QaR Pg 24 1=true:=by kernel_rfl
theorem L26:F.Qax Pg 26=some (2,true):=by kernel_rfl
theorem Z26:F.zeroV Pg 26=some (.agg [.nils,(.bool false)]):=by kernel_rfl
theorem S26:F.QbG Pg 26=some 2:=by kernel_rfl
theorem N26:F.QaR Pg 26 2=true:=by kernel_rfl
theorem U29:Pg.underlying 29=some (.slice 3):=by kernel_rfl
theorem E29:F.QaB Pg 29=some 3:=by kernel_rfl
theorem L29:F.Qax Pg 29=some (1,false):=by kernel_rfl
theorem N29:F.QaR Pg 29 1=true:=by kernel_rfl
theorem L31:F.Qax Pg 31=some (2,true):=by kernel_rfl
theorem Z31:F.zeroV Pg 31=some (.agg [(.bool false),.nils]):=by kernel_rfl
theorem S31:F.QbG Pg 31=some 2:=by kernel_rfl
theorem N31:F.QaR Pg 31 2=true:=by kernel_rfl
theorem U51:Pg.underlying 51=some (.slice 5):=by kernel_rfl
theorem E51:F.QaB Pg 51=some 5:=by kernel_rfl
theorem L51:F.Qax Pg 51=some (1,false):=by kernel_rfl
theorem N51:F.QaR Pg 51 1=true:=by kernel_rfl
theorem L59:F.Qax Pg 59=some (4,true):=by kernel_rfl
theorem Z59:F.zeroV Pg 59=some (.agg [.nils,(.bool false),.nils,(.bool false)]):=by kernel_rfl
theorem S59:F.QbG Pg 59=some 4:=by kernel_rfl
theorem N59:F.QaR Pg 59 4=true:=by kernel_rfl
theorem L63:F.Qax Pg 63=some (4,true):=by kernel_rfl
theorem Z63:F.zeroV Pg 63=some (.agg [(.bool false),.nils,(.bool false),.nils]):=by kernel_rfl
theorem S63:F.QbG Pg 63=some 4:=by kernel_rfl
theorem N63:F.QaR Pg 63 4=true:=by kernel_rfl
theorem U79:Pg.underlying 79=some (.slice 9):=by kernel_rfl
theorem E79:F.QaB Pg 79=some 9:=by kernel_rfl
theorem L79:F.Qax Pg 79=some (1,false):=by kernel_rfl
theorem N79:F.QaR Pg 79 1=true:=by kernel_rfl
theorem U80:Pg.underlying 80=some (.int .u64):=by kernel_rfl
theorem L80:F.Qax Pg 80=some (1,false):=by kernel_rfl
theorem N80:F.QaR Pg 80 1=true:=by kernel_rfl
theorem U86:Pg.underlying 86=some (.int .u32):=by kernel_rfl
theorem L86:F.Qax Pg 86=some (1,false):=by kernel_rfl
theorem N86:F.QaR Pg 86 1=true:=by kernel_rfl
theorem U87:Pg.underlying 87=some (.int .u64):=by kernel_rfl
theorem L87:F.Qax Pg 87=some (1,false):=by kernel_rfl
theorem N87:F.QaR Pg 87 1=true:=by kernel_rfl
theorem qx5:∀ (r:Ref)(o:Nat),fa Pg 26 (.ptr r o) 0=some (.ptr r (o+0)):=fun r o=>by kernel_rfl
theorem qx4:∀ (r:Ref)(o:Nat),fa Pg 26 (.ptr r o) 1=some (.ptr r (o+1)):=fun r o=>by kernel_rfl
theorem qx3:∀ (r:Ref)(o:Nat),fa Pg 31 (.ptr r o) 0=some (.ptr r (o+0)):=fun r o=>by kernel_rfl
theorem qx2:∀ (r:Ref)(o:Nat),fa Pg 31 (.ptr r o) 1=some (.ptr r (o+1)):=fun r o=>by kernel_rfl
theorem qx1:∀ (r:Ref)(o:Nat),fa Pg 59 (.ptr r o) 0=some (.ptr r (o+0)):=fun r o=>by kernel_rfl
theorem qx0:∀ (r:Ref)(o:Nat),fa Pg 59 (.ptr r o) 1=some (.ptr r (o+2)):=fun r o=>by kernel_rfl
theorem qxZ:∀ (r:Ref)(o:Nat),fa Pg 63 (.ptr r o) 0=some (.ptr r (o+0)):=fun r o=>by kernel_rfl
theorem qxY:∀ (r:Ref)(o:Nat),fa Pg 63 (.ptr r o) 1=some (.ptr r (o+2)):=fun r o=>by kernel_rfl
theorem qj0{k:IntKind}{v:V}{d:List Nat}(h:Sl k v d)(k':IntKind)(i:Nat)(hi:i<d.length):ia Pg 24 v (.int k' (.ofNat i))=some (.iptr [.int k (.ofNat (d.getD i 0))]):=qxv E24 L86 h k' i hi
theorem qk9{k:IntKind}{v:V}{d:List Nat}(h:Sl k v d)(k':IntKind)(i:Nat)(hi:i<d.length):ia Pg 29 v (.int k' (.ofNat i))=some (.iptr [.int k (.ofNat (d.getD i 0))]):=qxv E29 L3 h k' i hi
theorem qy4{k:IntKind}{v:V}{d:List Nat}(h:Sl k v d)(k':IntKind)(i:Nat)(hi:i<d.length):slc Pg 24 v none (some (.int k' (.ofNat i))) none=some (.slice none false 1 (nl k (d.take i))):=qs5 E24 L86 h k' i hi
theorem qy3{k:IntKind}{v:V}{d:List Nat}(h:Sl k v d)(k':IntKind)(i:Nat)(hi:i<d.length):slc Pg 29 v none (some (.int k' (.ofNat i))) none=some (.slice none false 1 (nl k (d.take i))):=qs5 E29 L3 h k' i hi
theorem qtR:∀ (c:Qad)(t' t:Tm)(l:Lo)(h:Hp)(j:V→Lo→Hp→R),gn Try.f15 15 6 0 c t' t l h j=j (.agg [.nils,(.bool false)]) l h:=fun c t' t l h j=>qaL (C:=Cg) (gl:=Cg.glob 15) (call:=c) (tm:=t) (loc:=l) (hp:=h) (j:=j) (t':=t') (o:=opA Try.f15 6 0) (d:=39) (v:=(.agg [.nils,(.bool false)])) (st:=⟨t',l,h⟩) (by kernel_rfl) (by kernel_rfl)
theorem qvS:M1 Try.f15 15 9 1 40:=mk1 (by kernel_rfl)
theorem qqX:M1 Try.f15 15 10 0 41:=mk1 (by kernel_rfl)
theorem qqe:∀ (c:Qad)(t' t:Tm)(l:Lo)(h:Hp)(j:V→Lo→Hp→R),gn Try.f15 15 13 0 c t' t l h j=j (.agg [.nils,(.bool false)]) l h:=fun c t' t l h j=>qaL (C:=Cg) (gl:=Cg.glob 15) (call:=c) (tm:=t) (loc:=l) (hp:=h) (j:=j) (t':=t') (o:=opA Try.f15 13 0) (d:=52) (v:=(.agg [.nils,(.bool false)])) (st:=⟨t',l,h⟩) (by kernel_rfl) (by kernel_rfl)
theorem qqv:NC Try.f15 15 14 4 .u64 56:=mkC (d:=57) (s:=21) (t:=80) (by kernel_rfl) (by kernel_rfl) U21 U80
theorem qtQ:∀ (c:Qad)(t' t:Tm)(l:Lo)(h:Hp)(j:V→Lo→Hp→R),gn Try.f16 16 2 0 c t' t l h j=j (.agg [(.bool false),.nils]) l h:=fun c t' t l h j=>qaL (C:=Cg) (gl:=Cg.glob 16) (call:=c) (tm:=t) (loc:=l) (hp:=h) (j:=j) (t':=t') (o:=opA Try.f16 2 0) (d:=12) (v:=(.agg [(.bool false),.nils])) (st:=⟨t',l,h⟩) (by kernel_rfl) (by kernel_rfl)
theorem qqu:NC Try.f16 16 14 6 .i64 38:=mkC (d:=39) (s:=5) (t:=3) (by kernel_rfl) (by kernel_rfl) U5 U3
theorem qqW:M2 Try.f16 16 15 3 41 43:=mk2 (by kernel_rfl) (by decide)
theorem qrd:ApI Pg (opA Try.f16 15 3) 44 41 43 29:=⟨by kernel_rfl,{ callee:=.builtin .append,args:=#[.tmp 41,.tmp 43],argTypes:=#[29,29] },by kernel_rfl,rfl,rfl,rfl,by kernel_rfl⟩
theorem qsX:APT Try.f16 16 15 3 41 43 44:=qxo qrd (by kernel_rfl) (by kernel_rfl) (e:=3) (by kernel_rfl) (by kernel_rfl) (b:=8) (by kernel_rfl) (by decide) (by decide)
theorem qvq:NB Try.f18 18 0 0 1 0:=mkB (t:=26) (by kernel_rfl) (by kernel_rfl) (by kernel_rfl) (by kernel_rfl)
theorem qqt:NC Try.f18 18 10 6 .u64 29:=mkC (d:=30) (s:=86) (t:=80) (by kernel_rfl) (by kernel_rfl) U86 U80
theorem qqs:NC Try.f18 18 11 4 .u32 35:=mkC (d:=36) (s:=80) (t:=86) (by kernel_rfl) (by kernel_rfl) U80 U86
theorem qqV:M2 Try.f18 18 11 6 37 36:=mk2 (by kernel_rfl) (by decide)
theorem qpU{r off n:Nat}{d:List Nat}{h:Hp}(hr:h.rows[r]? = some (.cells false (nl .u32 d)))(ho:off<d.length)(c:Qad)(t:Tm)(l:Lo)(j:V→Lo→Hp→R):go2 Try.f18 18 11 6 37 36 (.ptr (.glob r) off) (.int .u32 (.ofNat n)) c t l h j=j (.tuple []) l (hset h r (.cells false (nl .u32 (d.set off n)))):=qbU (C:=Cg) (gl:=Cg.glob 18) (call:=c) (o:=opA Try.f18 11 6) (t:=86) (by kernel_rfl) (by kernel_rfl) (by decide) (by kernel_rfl) hr ho
theorem qqr:NC Try.f18 18 17 4 .u8 62:=mkC (d:=63) (s:=80) (t:=5) (by kernel_rfl) (by kernel_rfl) U80 U5
theorem qqU:M1 Try.f18 18 17 5 63:=mk1 (by kernel_rfl)
theorem qqd:QO Try.f18 18 17 5 63 64:=mkO (t:=51) (e:=5) (by kernel_rfl) (by kernel_rfl) (by kernel_rfl) (by kernel_rfl) (by kernel_rfl) (by kernel_rfl) (show zeroV Pg 5=some (.int .u8 (.ofNat 0))by kernel_rfl)
theorem qqT:M2 Try.f18 18 17 6 59 64:=mk2 (by kernel_rfl) (by decide)
theorem qrc:ApI Pg (opA Try.f18 17 6) 65 59 64 51:=⟨by kernel_rfl,{ callee:=.builtin .append,args:=#[.tmp 59,.tmp 64],argTypes:=#[51,51] },by kernel_rfl,rfl,rfl,rfl,by kernel_rfl⟩
theorem qsW{loc:Lo}{k:IntKind}{l:List Nat}{v w:V}{n:Nat}{hp:Hp}(hv:Gs hp v k l)(hw:∀ tm,Qag ⟨tm,loc,hp⟩ w=some (nl k [n]))(hn:l.length≤1000000000):∃ v' h',(∀ (c:Qad)(tm:Tm)(j:V→Lo→Hp→R),go2 Try.f18 18 17 6 59 64 v w c tm loc hp j=j v' loc h')∧Qdq hp h' v v' k l (l++[n]):=qj5 qrc (by kernel_rfl) (by kernel_rfl) (e:=5) (by kernel_rfl) (by kernel_rfl) (b:=1) (by kernel_rfl) (by decide) hv hw (by omega)
theorem qqc:∀ (c:Qad)(t' t:Tm)(l:Lo)(h:Hp)(j:V→Lo→Hp→R),gn Try.f18 18 23 1 c t' t l h j=j (.arr (.loc 84 ((lg l 84).1+1)) 0 1 (some 1) 1 false) (lp l 84 ((lg l 84).1+1,.cells false (nl .u8 [45]))) h:=fun c t' t l h j=>qiP (C:=Cg) (gl:=Cg.glob 18) (call:=c) (tm:=t) (loc:=l) (hp:=h) (j:=j) (t':=t') (k:=.u8) (n:=45) (o:=opA Try.f18 23 1) (d:=84) (x:=.const (.int .u8 45)) (t:=51) (e:=5) (by kernel_rfl) (by kernel_rfl) (by kernel_rfl) (by kernel_rfl) (by kernel_rfl) (by kernel_rfl) (show zeroV Pg 5=some (.int .u8 (.ofNat 0))by kernel_rfl) rfl
theorem qqS:M2 Try.f18 18 23 2 83 84:=mk2 (by kernel_rfl) (by decide)
theorem qrb:ApI Pg (opA Try.f18 23 2) 85 83 84 51:=⟨by kernel_rfl,{ callee:=.builtin .append,args:=#[.tmp 83,.tmp 84],argTypes:=#[51,51] },by kernel_rfl,rfl,rfl,rfl,by kernel_rfl⟩
theorem qsV{loc:Lo}{k:IntKind}{l:List Nat}{v w:V}{n:Nat}{hp:Hp}(hv:Gs hp v k l)(hw:∀ tm,Qag ⟨tm,loc,hp⟩ w=some (nl k [n]))(hn:l.length≤1000000000):∃ v' h',(∀ (c:Qad)(tm:Tm)(j:V→Lo→Hp→R),go2 Try.f18 18 23 2 83 84 v w c tm loc hp j=j v' loc h')∧Qdq hp h' v v' k l (l++[n]):=qj5 qrb (by kernel_rfl) (by kernel_rfl) (e:=5) (by kernel_rfl) (by kernel_rfl) (b:=1) (by kernel_rfl) (by decide) hv hw (by omega)
theorem qqR:M1 Try.f18 18 25 1 88:=mk1 (by kernel_rfl)
theorem qvp:NC Try.f21 21 1 1 .u64 4:=mkC (d:=5) (s:=2) (t:=80) (by kernel_rfl) (by kernel_rfl) U2 U80
theorem qvo:NC Try.f21 21 4 1 .u32 10:=mkC (d:=11) (s:=80) (t:=86) (by kernel_rfl) (by kernel_rfl) U80 U86
theorem qvn:NC Try.f21 21 4 4 .u32 13:=mkC (d:=14) (s:=80) (t:=86) (by kernel_rfl) (by kernel_rfl) U80 U86
theorem qvR:M2 Try.f21 21 4 5 11 14:=mk2 (by kernel_rfl) (by decide)
theorem qvm:NC Try.f22 22 2 1 .u64 8:=mkC (d:=9) (s:=2) (t:=80) (by kernel_rfl) (by kernel_rfl) U2 U80
theorem qvl:NC Try.f22 22 7 3 .i64 17:=mkC (d:=18) (s:=80) (t:=3) (by kernel_rfl) (by kernel_rfl) U80 U3
theorem qvQ:M2 Try.f22 22 7 5 15 19:=mk2 (by kernel_rfl) (by decide)
theorem qv5:ApI Pg (opA Try.f22 7 5) 20 15 19 29:=⟨by kernel_rfl,{ callee:=.builtin .append,args:=#[.tmp 15,.tmp 19],argTypes:=#[29,29] },by kernel_rfl,rfl,rfl,rfl,by kernel_rfl⟩
theorem qwW:APT Try.f22 22 7 5 15 19 20:=qxo qv5 (by kernel_rfl) (by kernel_rfl) (e:=3) (by kernel_rfl) (by kernel_rfl) (b:=8) (by kernel_rfl) (by decide) (by decide)
theorem qvP:M2 Try.f22 22 9 2 23 24:=mk2 (by kernel_rfl) (by decide)
theorem qvk:NB Try.f23 23 0 0 1 0:=mkB (t:=31) (by kernel_rfl) (by kernel_rfl) (by kernel_rfl) (by kernel_rfl)
theorem qqq:NC Try.f23 23 11 4 .u8 44:=mkC (d:=45) (s:=3) (t:=5) (by kernel_rfl) (by kernel_rfl) U3 U5
theorem qqQ:M1 Try.f23 23 11 5 45:=mk1 (by kernel_rfl)
theorem qqb:QO Try.f23 23 11 5 45 46:=mkO (t:=51) (e:=5) (by kernel_rfl) (by kernel_rfl) (by kernel_rfl) (by kernel_rfl) (by kernel_rfl) (by kernel_rfl) (show zeroV Pg 5=some (.int .u8 (.ofNat 0))by kernel_rfl)
theorem qqP:M2 Try.f23 23 11 6 41 46:=mk2 (by kernel_rfl) (by decide)
theorem qra:ApI Pg (opA Try.f23 11 6) 47 41 46 51:=⟨by kernel_rfl,{ callee:=.builtin .append,args:=#[.tmp 41,.tmp 46],argTypes:=#[51,51] },by kernel_rfl,rfl,rfl,rfl,by kernel_rfl⟩
theorem qsU:AP Try.f23 23 11 6 41 46 47:=mkP qra (by kernel_rfl) (by kernel_rfl) (e:=5) (by kernel_rfl) (by kernel_rfl) (b:=1) (by kernel_rfl) (by decide) (by decide) (by decide)
theorem qqa:∀ (c:Qad)(t' t:Tm)(l:Lo)(h:Hp)(j:V→Lo→Hp→R),gn Try.f23 23 14 1 c t' t l h j=j (.arr (.loc 53 ((lg l 53).1+1)) 0 1 (some 1) 1 false) (lp l 53 ((lg l 53).1+1,.cells false (nl .u8 [45]))) h:=fun c t' t l h j=>qiP (C:=Cg) (gl:=Cg.glob 23) (call:=c) (tm:=t) (loc:=l) (hp:=h) (j:=j) (t':=t') (k:=.u8) (n:=45) (o:=opA Try.f23 14 1) (d:=53) (x:=.const (.int .u8 45)) (t:=51) (e:=5) (by kernel_rfl) (by kernel_rfl) (by kernel_rfl) (by kernel_rfl) (by kernel_rfl) (by kernel_rfl) (show zeroV Pg 5=some (.int .u8 (.ofNat 0))by kernel_rfl) rfl
theorem qqO:M2 Try.f23 23 14 2 52 53:=mk2 (by kernel_rfl) (by decide)
theorem qq9:ApI Pg (opA Try.f23 14 2) 54 52 53 51:=⟨by kernel_rfl,{ callee:=.builtin .append,args:=#[.tmp 52,.tmp 53],argTypes:=#[51,51] },by kernel_rfl,rfl,rfl,rfl,by kernel_rfl⟩
theorem qqN:M1 Try.f23 23 19 1 79:=mk1 (by kernel_rfl)
theorem qvj:NB Try.f25 25 0 0 2 0:=mkB (t:=26) (by kernel_rfl) (by kernel_rfl) (by kernel_rfl) (by kernel_rfl)
theorem qvi:NB Try.f25 25 0 1 3 1:=mkB (t:=26) (by kernel_rfl) (by kernel_rfl) (by kernel_rfl) (by kernel_rfl)
theorem qvh:NB Try.f26 26 0 0 2 0:=mkB (t:=31) (by kernel_rfl) (by kernel_rfl) (by kernel_rfl) (by kernel_rfl)
theorem qvg:NB Try.f26 26 0 1 3 1:=mkB (t:=31) (by kernel_rfl) (by kernel_rfl) (by kernel_rfl) (by kernel_rfl)
theorem qvf:NB Try.f27 27 0 0 2 0:=mkB (t:=26) (by kernel_rfl) (by kernel_rfl) (by kernel_rfl) (by kernel_rfl)
theorem qve:NB Try.f27 27 0 1 3 1:=mkB (t:=26) (by kernel_rfl) (by kernel_rfl) (by kernel_rfl) (by kernel_rfl)
theorem qvd:NB Try.f28 28 0 0 2 0:=mkB (t:=31) (by kernel_rfl) (by kernel_rfl) (by kernel_rfl) (by kernel_rfl)
theorem qvc:NB Try.f28 28 0 1 3 1:=mkB (t:=31) (by kernel_rfl) (by kernel_rfl) (by kernel_rfl) (by kernel_rfl)
theorem qvb:NB Try.f29 29 0 0 2 0:=mkB (t:=26) (by kernel_rfl) (by kernel_rfl) (by kernel_rfl) (by kernel_rfl)
theorem qva:NB Try.f29 29 0 1 3 1:=mkB (t:=26) (by kernel_rfl) (by kernel_rfl) (by kernel_rfl) (by kernel_rfl)
theorem qvO:M1 Try.f29 29 1 7 17:=qwX (by kernel_rfl)
theorem qtP:∀ (c:Qad)(t:Tm)(l:Lo)(h:Hp)(j:V→Lo→Hp→R)(k:IntKind)(n:Nat),n≤1000000000→go1 Try.f29 29 1 7 17 (.int k (.ofNat n)) c t l h j=j (.arr (.loc 18 ((lg l 18).1+1)) 0 n (some n) 1 false) (lp l 18 ((lg l 18).1+1,.cells false (nl .u32 (List.replicate n 0)))) h:=fun c t l h j k n hn=>qeG (C:=Cg) (gl:=Cg.glob 29) (call:=c) (tm:=t) (loc:=l) (hp:=h) (j:=j) (t':=pt .lf 17 (.int k (.ofNat n))) (k1:=k) (n:=n) (o:=opA Try.f29 1 7) (d:=18) (x:=17) (t:=24) (e:=86) (b:=4) (by kernel_rfl) (by kernel_rfl) (by kernel_rfl) (by kernel_rfl) (by kernel_rfl) (by kernel_rfl) (by kernel_rfl) (by rw[qal,if_pos rfl]) (by omega) (by omega)
theorem qu9:NC Try.f29 29 9 2 .u64 36:=mkC (d:=37) (s:=86) (t:=80) (by kernel_rfl) (by kernel_rfl) U86 U80
theorem qu8:NC Try.f29 29 9 4 .u64 38:=mkC (d:=39) (s:=86) (t:=80) (by kernel_rfl) (by kernel_rfl) U86 U80
theorem qqn:NC Try.f29 29 9 12 .u64 46:=mkC (d:=47) (s:=86) (t:=80) (by kernel_rfl) (by kernel_rfl) U86 U80
theorem qqp:NC Try.f29 29 10 5 .u32 54:=mkC (d:=55) (s:=80) (t:=86) (by kernel_rfl) (by kernel_rfl) U80 U86
theorem qqM:M2 Try.f29 29 10 7 56 55:=mk2 (by kernel_rfl) (by decide)
theorem qqo:NC Try.f29 29 13 7 .u32 66:=mkC (d:=67) (s:=80) (t:=86) (by kernel_rfl) (by kernel_rfl) U80 U86
theorem qqL:M2 Try.f29 29 13 9 68 67:=mk2 (by kernel_rfl) (by decide)
theorem qu7:NB Try.f30 30 0 0 2 0:=mkB (t:=31) (by kernel_rfl) (by kernel_rfl) (by kernel_rfl) (by kernel_rfl)
theorem qu6:NB Try.f30 30 0 1 3 1:=mkB (t:=31) (by kernel_rfl) (by kernel_rfl) (by kernel_rfl) (by kernel_rfl)
theorem qvN:M1 Try.f30 30 1 7 16:=qwX (by kernel_rfl)
theorem qtO:∀ (c:Qad)(t:Tm)(l:Lo)(h:Hp)(j:V→Lo→Hp→R)(k:IntKind)(n:Nat),n≤1000000000→go1 Try.f30 30 1 7 16 (.int k (.ofNat n)) c t l h j=j (.arr (.loc 17 ((lg l 17).1+1)) 0 n (some n) 1 false) (lp l 17 ((lg l 17).1+1,.cells false (nl .i64 (List.replicate n 0)))) h:=fun c t l h j k n hn=>qeG (C:=Cg) (gl:=Cg.glob 30) (call:=c) (tm:=t) (loc:=l) (hp:=h) (j:=j) (t':=pt .lf 16 (.int k (.ofNat n))) (k1:=k) (n:=n) (o:=opA Try.f30 1 7) (d:=17) (x:=16) (t:=29) (e:=3) (b:=8) (by kernel_rfl) (by kernel_rfl) (by kernel_rfl) (by kernel_rfl) (by kernel_rfl) (by kernel_rfl) (by kernel_rfl) (by rw[qal,if_pos rfl]) (by omega) (by omega)
theorem qqK:M2 Try.f30 30 12 9 70 67:=mk2 (by kernel_rfl) (by decide)
theorem qu5:NB Try.f31 31 0 0 1 0:=mkB (t:=26) (by kernel_rfl) (by kernel_rfl) (by kernel_rfl) (by kernel_rfl)
theorem qu4:NB Try.f32 32 0 0 1 0:=mkB (t:=31) (by kernel_rfl) (by kernel_rfl) (by kernel_rfl) (by kernel_rfl)
theorem qqJ:M2 Try.f32 32 1 11 11 13:=mk2 (by kernel_rfl) (by decide)
theorem qmj{v w:V}(hv:Pl v)(hw:Pl w)(c:Qad)(t:Tm)(l:Lo)(h:Hp)(j:V→Lo→Hp→R):go2 Try.f32 32 1 11 11 13 v w c t l h j=j (.agg [v,w]) l h:=qle (C:=Cg) (gl:=Cg.glob 32) (call:=c) (o:=opA Try.f32 1 11) (d:=14) (t:=31) (by kernel_rfl) (by kernel_rfl) (by kernel_rfl) (show zeroV Pg 31=some (.agg [(.bool false),.nils])by kernel_rfl) (by decide) hv hw
theorem qu3:NB Try.f33 33 0 0 2 0:=mkB (t:=26) (by kernel_rfl) (by kernel_rfl) (by kernel_rfl) (by kernel_rfl)
theorem qu2:NB Try.f33 33 0 1 3 1:=mkB (t:=26) (by kernel_rfl) (by kernel_rfl) (by kernel_rfl) (by kernel_rfl)
theorem qu1:NB Try.f34 34 0 0 2 0:=mkB (t:=31) (by kernel_rfl) (by kernel_rfl) (by kernel_rfl) (by kernel_rfl)
theorem qu0:NB Try.f34 34 0 1 3 1:=mkB (t:=31) (by kernel_rfl) (by kernel_rfl) (by kernel_rfl) (by kernel_rfl)
theorem quZ:NB Try.f35 35 0 0 1 0:=mkB (t:=26) (by kernel_rfl) (by kernel_rfl) (by kernel_rfl) (by kernel_rfl)
theorem qtN:∀ (c:Qad)(t' t:Tm)(l:Lo)(h:Hp)(j:V→Lo→Hp→R),gn Try.f35 35 1 1 c t' t l h j=j (.agg [.nils,(.bool false)]) l h:=fun c t' t l h j=>qaL (C:=Cg) (gl:=Cg.glob 35) (call:=c) (tm:=t) (loc:=l) (hp:=h) (j:=j) (t':=t') (o:=opA Try.f35 1 1) (d:=4) (v:=(.agg [.nils,(.bool false)])) (st:=⟨t',l,h⟩) (by kernel_rfl) (by kernel_rfl)
theorem quY:NB Try.f36 36 0 0 1 0:=mkB (t:=31) (by kernel_rfl) (by kernel_rfl) (by kernel_rfl) (by kernel_rfl)
theorem quX:NB Try.f37 37 0 0 2 0:=mkB (t:=26) (by kernel_rfl) (by kernel_rfl) (by kernel_rfl) (by kernel_rfl)
theorem quW:NB Try.f37 37 0 1 3 1:=mkB (t:=26) (by kernel_rfl) (by kernel_rfl) (by kernel_rfl) (by kernel_rfl)
theorem qtM:∀ (c:Qad)(t' t:Tm)(l:Lo)(h:Hp)(j:V→Lo→Hp→R),gn Try.f37 37 3 0 c t' t l h j=j (.agg [.nils,(.bool false)]) l h:=fun c t' t l h j=>qaL (C:=Cg) (gl:=Cg.glob 37) (call:=c) (tm:=t) (loc:=l) (hp:=h) (j:=j) (t':=t') (o:=opA Try.f37 3 0) (d:=17) (v:=(.agg [.nils,(.bool false)])) (st:=⟨t',l,h⟩) (by kernel_rfl) (by kernel_rfl)
theorem quV:NB Try.f38 38 0 0 2 0:=mkB (t:=31) (by kernel_rfl) (by kernel_rfl) (by kernel_rfl) (by kernel_rfl)
theorem quU:NB Try.f38 38 0 1 3 1:=mkB (t:=31) (by kernel_rfl) (by kernel_rfl) (by kernel_rfl) (by kernel_rfl)
theorem quT:NB Try.f39 39 0 0 2 0:=mkB (t:=26) (by kernel_rfl) (by kernel_rfl) (by kernel_rfl) (by kernel_rfl)
theorem quS:NB Try.f39 39 0 1 3 1:=mkB (t:=26) (by kernel_rfl) (by kernel_rfl) (by kernel_rfl) (by kernel_rfl)
theorem quR:NB Try.f40 40 0 0 2 0:=mkB (t:=31) (by kernel_rfl) (by kernel_rfl) (by kernel_rfl) (by kernel_rfl)
theorem quQ:NB Try.f40 40 0 1 3 1:=mkB (t:=31) (by kernel_rfl) (by kernel_rfl) (by kernel_rfl) (by kernel_rfl)
theorem quP:NB Try.f44 44 0 0 2 0:=mkB (t:=26) (by kernel_rfl) (by kernel_rfl) (by kernel_rfl) (by kernel_rfl)
theorem quO:NB Try.f44 44 0 1 3 1:=mkB (t:=26) (by kernel_rfl) (by kernel_rfl) (by kernel_rfl) (by kernel_rfl)
theorem qtL:∀ (c:Qad)(t' t:Tm)(l:Lo)(h:Hp)(j:V→Lo→Hp→R),gn Try.f44 44 2 0 c t' t l h j=j (.agg [.nils,(.bool false),.nils,(.bool false)]) l h:=fun c t' t l h j=>qaL (C:=Cg) (gl:=Cg.glob 44) (call:=c) (tm:=t) (loc:=l) (hp:=h) (j:=j) (t':=t') (o:=opA Try.f44 2 0) (d:=10) (v:=(.agg [.nils,(.bool false),.nils,(.bool false)])) (st:=⟨t',l,h⟩) (by kernel_rfl) (by kernel_rfl)
theorem quN:NB Try.f45 45 0 0 2 0:=mkB (t:=31) (by kernel_rfl) (by kernel_rfl) (by kernel_rfl) (by kernel_rfl)
theorem quM:NB Try.f45 45 0 1 3 1:=mkB (t:=31) (by kernel_rfl) (by kernel_rfl) (by kernel_rfl) (by kernel_rfl)
theorem qvM:M1 Try.f45 45 2 1 14:=mk1 (by kernel_rfl)
theorem qvL:M2 Try.f45 45 8 2 38 39:=mk2 (by kernel_rfl) (by decide)
theorem quL:NB Try.f46 46 0 0 1 0:=mkB (t:=59) (by kernel_rfl) (by kernel_rfl) (by kernel_rfl) (by kernel_rfl)
theorem quK:NB Try.f47 47 0 0 2 0:=mkB (t:=59) (by kernel_rfl) (by kernel_rfl) (by kernel_rfl) (by kernel_rfl)
theorem quJ:NB Try.f47 47 0 1 3 1:=mkB (t:=63) (by kernel_rfl) (by kernel_rfl) (by kernel_rfl) (by kernel_rfl)
theorem quI:NB Try.f48 48 0 0 1 0:=mkB (t:=59) (by kernel_rfl) (by kernel_rfl) (by kernel_rfl) (by kernel_rfl)
theorem quH:NB Try.f49 49 0 0 1 0:=mkB (t:=59) (by kernel_rfl) (by kernel_rfl) (by kernel_rfl) (by kernel_rfl)
theorem quG:NB Try.f52 52 0 0 1 0:=mkB (t:=59) (by kernel_rfl) (by kernel_rfl) (by kernel_rfl) (by kernel_rfl)
theorem quF:NB Try.f53 53 0 0 2 0:=mkB (t:=59) (by kernel_rfl) (by kernel_rfl) (by kernel_rfl) (by kernel_rfl)
theorem quE:NB Try.f53 53 0 1 3 1:=mkB (t:=59) (by kernel_rfl) (by kernel_rfl) (by kernel_rfl) (by kernel_rfl)
theorem quD:NB Try.f54 54 0 0 2 0:=mkB (t:=59) (by kernel_rfl) (by kernel_rfl) (by kernel_rfl) (by kernel_rfl)
theorem quC:NB Try.f54 54 0 1 3 1:=mkB (t:=59) (by kernel_rfl) (by kernel_rfl) (by kernel_rfl) (by kernel_rfl)
theorem quB:NB Try.f55 55 0 0 2 0:=mkB (t:=59) (by kernel_rfl) (by kernel_rfl) (by kernel_rfl) (by kernel_rfl)
theorem quA:NB Try.f55 55 0 1 3 1:=mkB (t:=59) (by kernel_rfl) (by kernel_rfl) (by kernel_rfl) (by kernel_rfl)
theorem quz:NB Try.f56 56 0 0 2 0:=mkB (t:=59) (by kernel_rfl) (by kernel_rfl) (by kernel_rfl) (by kernel_rfl)
theorem quy:NB Try.f56 56 0 1 3 1:=mkB (t:=59) (by kernel_rfl) (by kernel_rfl) (by kernel_rfl) (by kernel_rfl)
theorem qux:NB Try.f57 57 0 0 1 0:=mkB (t:=59) (by kernel_rfl) (by kernel_rfl) (by kernel_rfl) (by kernel_rfl)
theorem quw:NB Try.f58 58 0 0 2 0:=mkB (t:=63) (by kernel_rfl) (by kernel_rfl) (by kernel_rfl) (by kernel_rfl)
theorem quv:NB Try.f58 58 0 1 3 1:=mkB (t:=63) (by kernel_rfl) (by kernel_rfl) (by kernel_rfl) (by kernel_rfl)
theorem quu:NB Try.f59 59 0 0 1 0:=mkB (t:=63) (by kernel_rfl) (by kernel_rfl) (by kernel_rfl) (by kernel_rfl)
theorem qut:NB Try.f60 60 0 0 2 0:=mkB (t:=63) (by kernel_rfl) (by kernel_rfl) (by kernel_rfl) (by kernel_rfl)
theorem qus:NB Try.f60 60 0 1 3 1:=mkB (t:=63) (by kernel_rfl) (by kernel_rfl) (by kernel_rfl) (by kernel_rfl)
theorem qur:NB Try.f61 61 0 0 1 0:=mkB (t:=59) (by kernel_rfl) (by kernel_rfl) (by kernel_rfl) (by kernel_rfl)
theorem quq:NB Try.f62 62 0 0 2 0:=mkB (t:=63) (by kernel_rfl) (by kernel_rfl) (by kernel_rfl) (by kernel_rfl)
theorem qup:NB Try.f62 62 0 1 3 1:=mkB (t:=63) (by kernel_rfl) (by kernel_rfl) (by kernel_rfl) (by kernel_rfl)
theorem qun:NB Try.f63 63 0 0 1 0:=mkB (t:=59) (by kernel_rfl) (by kernel_rfl) (by kernel_rfl) (by kernel_rfl)
theorem qum:NC Try.f64 64 4 2 .u64 17:=mkC (d:=18) (s:=86) (t:=80) (by kernel_rfl) (by kernel_rfl) U86 U80
theorem qul:NC Try.f64 64 5 3 .u32 24:=mkC (d:=25) (s:=80) (t:=86) (by kernel_rfl) (by kernel_rfl) U80 U86
theorem qvK:M2 Try.f64 64 5 5 26 25:=mk2 (by kernel_rfl) (by decide)
theorem qtw{r off n:Nat}{d:List Nat}{h:Hp}(hr:h.rows[r]? = some (.cells false (nl .u32 d)))(ho:off<d.length)(c:Qad)(t:Tm)(l:Lo)(j:V→Lo→Hp→R):go2 Try.f64 64 5 5 26 25 (.ptr (.glob r) off) (.int .u32 (.ofNat n)) c t l h j=j (.tuple []) l (hset h r (.cells false (nl .u32 (d.set off n)))):=qbU (C:=Cg) (gl:=Cg.glob 64) (call:=c) (o:=opA Try.f64 5 5) (t:=86) (by kernel_rfl) (by kernel_rfl) (by decide) (by kernel_rfl) hr ho
theorem quk:NC Try.f64 64 9 2 .u32 33:=mkC (d:=34) (s:=80) (t:=86) (by kernel_rfl) (by kernel_rfl) U80 U86
theorem qvJ:M1 Try.f64 64 9 3 34:=mk1 (by kernel_rfl)
theorem qtK:QO Try.f64 64 9 3 34 35:=mkO (t:=24) (e:=86) (by kernel_rfl) (by kernel_rfl) (by kernel_rfl) (by kernel_rfl) (by kernel_rfl) (by kernel_rfl) (show zeroV Pg 86=some (.int .u32 (.ofNat 0))by kernel_rfl)
theorem qvI:M2 Try.f64 64 9 4 32 35:=mk2 (by kernel_rfl) (by decide)
theorem qv4:ApI Pg (opA Try.f64 9 4) 36 32 35 24:=⟨by kernel_rfl,{ callee:=.builtin .append,args:=#[.tmp 32,.tmp 35],argTypes:=#[24,24] },by kernel_rfl,rfl,rfl,rfl,by kernel_rfl⟩
theorem qwV{loc:Lo}{k:IntKind}{l ys:List Nat}{v w:V}{hp:Hp}(hv:Gr hp v k l)(hw:∀ tm,Qag ⟨tm,loc,hp⟩ w=some (nl k ys))(hy:ys≠[])(hn:l.length+ys.length≤1000000000):∃ h',(∀ (c:Qad)(tm:Tm)(j:V→Lo→Hp→R),go2 Try.f64 64 9 4 32 35 v w c tm loc hp j=j (.arr (.glob hp.rows.length) 0 (l.length+ys.length) none 1 false) loc h')∧h'.rows[hp.rows.length]? = some (.cells false (nl k (l++ys)))∧h'.rows.length=hp.rows.length+1∧(∀ i,i<hp.rows.length→v≠.arr (.glob i) 0 l.length none 1 false→h'.rows[i]? = hp.rows[i]?)∧(h'=qgI hp (.cells false (nl k (l++ys)))∨∃ r,v=.arr (.glob r) 0 l.length none 1 false∧h'=qgI (hset hp r .gone) (.cells false (nl k (l++ys)))):=qhL qv4 (by kernel_rfl) (by kernel_rfl) (e:=86) (by kernel_rfl) (by kernel_rfl) (b:=4) (by kernel_rfl) (by decide) hv hw hy (by omega)
theorem qvH:M2 Try.f65 65 3 7 22 28:=mk2 (by kernel_rfl) (by decide)
theorem qpP{v w:V}(hv:Pl v)(hw:Pl w)(c:Qad)(t:Tm)(l:Lo)(h:Hp)(j:V→Lo→Hp→R):go2 Try.f65 65 3 7 22 28 v w c t l h j=j (.agg [v,w]) l h:=qle (C:=Cg) (gl:=Cg.glob 65) (call:=c) (o:=opA Try.f65 3 7) (d:=29) (t:=26) (by kernel_rfl) (by kernel_rfl) (by kernel_rfl) (show zeroV Pg 26=some (.agg [.nils,(.bool false)])by kernel_rfl) (by decide) hv hw
theorem qmh{w:V}{r n:Nat}{li:Option Nat}{L:List Nat}{f0:Bool}{h:Hp}(hr:h.rows[r]? = some (.cells f0 (nl .u32 L)))(hn:n≤L.length)(hw:Pl w)(c:Qad)(t:Tm)(l:Lo)(j:V→Lo→Hp→R):go2 Try.f65 65 3 7 22 28 (.arr (.glob r) 0 n li 1 false) w c t l h j=j (.agg [.slice none false 1 (nl .u32 (L.take n)),w]) l (hset h r (.cells true (nl .u32 L))):=qld (C:=Cg) (gl:=Cg.glob 65) (call:=c) (o:=opA Try.f65 3 7) (d:=29) (t:=26) (by kernel_rfl) (by kernel_rfl) (by kernel_rfl) (show zeroV Pg 26=some (.agg [.nils,(.bool false)])by kernel_rfl) (by decide) hr hn hw
theorem qvG:M2 Try.f67 67 3 7 27 28:=mk2 (by kernel_rfl) (by decide)
theorem qpO{v w:V}(hv:Pl v)(hw:Pl w)(c:Qad)(t:Tm)(l:Lo)(h:Hp)(j:V→Lo→Hp→R):go2 Try.f67 67 3 7 27 28 v w c t l h j=j (.agg [v,w]) l h:=qle (C:=Cg) (gl:=Cg.glob 67) (call:=c) (o:=opA Try.f67 3 7) (d:=29) (t:=31) (by kernel_rfl) (by kernel_rfl) (by kernel_rfl) (show zeroV Pg 31=some (.agg [(.bool false),.nils])by kernel_rfl) (by decide) hv hw
theorem qvF:M2 Try.f68 68 3 2 5 6:=mk2 (by kernel_rfl) (by decide)
theorem qv3:ApI Pg (opA Try.f68 3 2) 7 5 6 24:=⟨by kernel_rfl,{ callee:=.builtin .append,args:=#[.tmp 5,.tmp 6],argTypes:=#[24,24] },by kernel_rfl,rfl,rfl,rfl,by kernel_rfl⟩
theorem qui:NC Try.f71 71 7 5 .u64 25:=mkC (d:=26) (s:=86) (t:=80) (by kernel_rfl) (by kernel_rfl) U86 U80
theorem quh:NC Try.f71 71 9 5 .u64 36:=mkC (d:=37) (s:=86) (t:=80) (by kernel_rfl) (by kernel_rfl) U86 U80
theorem qqm:NC Try.f71 71 10 2 .u32 40:=mkC (d:=41) (s:=80) (t:=86) (by kernel_rfl) (by kernel_rfl) U80 U86
theorem qqI:M1 Try.f71 71 10 3 41:=mk1 (by kernel_rfl)
theorem qp9:QO Try.f71 71 10 3 41 42:=mkO (t:=24) (e:=86) (by kernel_rfl) (by kernel_rfl) (by kernel_rfl) (by kernel_rfl) (by kernel_rfl) (by kernel_rfl) (show zeroV Pg 86=some (.int .u32 (.ofNat 0))by kernel_rfl)
theorem qqH:M2 Try.f71 71 10 4 39 42:=mk2 (by kernel_rfl) (by decide)
theorem qq8:ApI Pg (opA Try.f71 10 4) 43 39 42 24:=⟨by kernel_rfl,{ callee:=.builtin .append,args:=#[.tmp 39,.tmp 42],argTypes:=#[24,24] },by kernel_rfl,rfl,rfl,rfl,by kernel_rfl⟩
theorem qsT:AP Try.f71 71 10 4 39 42 43:=mkP qq8 (by kernel_rfl) (by kernel_rfl) (e:=86) (by kernel_rfl) (by kernel_rfl) (b:=4) (by kernel_rfl) (by decide) (by decide) (by decide)
theorem qqG:M1 Try.f73 73 10 2 33:=mk1 (by kernel_rfl)
theorem qp8:QO Try.f73 73 10 2 33 34:=mkO (t:=24) (e:=86) (by kernel_rfl) (by kernel_rfl) (by kernel_rfl) (by kernel_rfl) (by kernel_rfl) (by kernel_rfl) (show zeroV Pg 86=some (.int .u32 (.ofNat 0))by kernel_rfl)
theorem qqF:M2 Try.f73 73 10 3 32 34:=mk2 (by kernel_rfl) (by decide)
theorem qq7:ApI Pg (opA Try.f73 10 3) 35 32 34 24:=⟨by kernel_rfl,{ callee:=.builtin .append,args:=#[.tmp 32,.tmp 34],argTypes:=#[24,24] },by kernel_rfl,rfl,rfl,rfl,by kernel_rfl⟩
theorem qsS:AP Try.f73 73 10 3 32 34 35:=mkP qq7 (by kernel_rfl) (by kernel_rfl) (e:=86) (by kernel_rfl) (by kernel_rfl) (b:=4) (by kernel_rfl) (by decide) (by decide) (by decide)
theorem qqE:M2 Try.f74 74 10 4 44 47:=mk2 (by kernel_rfl) (by decide)
theorem qq6:ApI Pg (opA Try.f74 10 4) 48 44 47 29:=⟨by kernel_rfl,{ callee:=.builtin .append,args:=#[.tmp 44,.tmp 47],argTypes:=#[29,29] },by kernel_rfl,rfl,rfl,rfl,by kernel_rfl⟩
theorem qsR:APT Try.f74 74 10 4 44 47 48:=qxo qq6 (by kernel_rfl) (by kernel_rfl) (e:=3) (by kernel_rfl) (by kernel_rfl) (b:=8) (by kernel_rfl) (by decide) (by decide)
theorem qqD:M2 Try.f76 76 12 3 35 37:=mk2 (by kernel_rfl) (by decide)
theorem qq5:ApI Pg (opA Try.f76 12 3) 38 35 37 29:=⟨by kernel_rfl,{ callee:=.builtin .append,args:=#[.tmp 35,.tmp 37],argTypes:=#[29,29] },by kernel_rfl,rfl,rfl,rfl,by kernel_rfl⟩
theorem qsQ:APT Try.f76 76 12 3 35 37 38:=qxo qq5 (by kernel_rfl) (by kernel_rfl) (e:=3) (by kernel_rfl) (by kernel_rfl) (b:=8) (by kernel_rfl) (by decide) (by decide)
theorem qvE:M1 Try.f78 78 2 2 20:=qwX (by kernel_rfl)
theorem qtJ:∀ (c:Qad)(t:Tm)(l:Lo)(h:Hp)(j:V→Lo→Hp→R)(k:IntKind)(n:Nat),n≤1000000000→go1 Try.f78 78 2 2 20 (.int k (.ofNat n)) c t l h j=j (.arr (.loc 21 ((lg l 21).1+1)) 0 n (some n) 1 false) (lp l 21 ((lg l 21).1+1,.cells false (nl .u32 (List.replicate n 0)))) h:=fun c t l h j k n hn=>qeG (C:=Cg) (gl:=Cg.glob 78) (call:=c) (tm:=t) (loc:=l) (hp:=h) (j:=j) (t':=pt .lf 20 (.int k (.ofNat n))) (k1:=k) (n:=n) (o:=opA Try.f78 2 2) (d:=21) (x:=20) (t:=24) (e:=86) (b:=4) (by kernel_rfl) (by kernel_rfl) (by kernel_rfl) (by kernel_rfl) (by kernel_rfl) (by kernel_rfl) (by kernel_rfl) (by rw[qal,if_pos rfl]) (by omega) (by omega)
theorem qug:NC Try.f78 78 6 6 .u64 34:=mkC (d:=35) (s:=86) (t:=80) (by kernel_rfl) (by kernel_rfl) U86 U80
theorem quf:NC Try.f78 78 7 6 .u64 42:=mkC (d:=43) (s:=86) (t:=80) (by kernel_rfl) (by kernel_rfl) U86 U80
theorem que:NC Try.f78 78 7 8 .u32 44:=mkC (d:=45) (s:=80) (t:=86) (by kernel_rfl) (by kernel_rfl) U80 U86
theorem qqA:M2 Try.f78 78 7 10 46 45:=mk2 (by kernel_rfl) (by decide)
theorem qud:NC Try.f78 78 8 4 .u64 50:=mkC (d:=51) (s:=86) (t:=80) (by kernel_rfl) (by kernel_rfl) U86 U80
theorem quc:NC Try.f78 78 9 2 .u32 54:=mkC (d:=55) (s:=80) (t:=86) (by kernel_rfl) (by kernel_rfl) U80 U86
theorem qvD:M1 Try.f78 78 9 3 55:=mk1 (by kernel_rfl)
theorem qtI:QO Try.f78 78 9 3 55 56:=mkO (t:=24) (e:=86) (by kernel_rfl) (by kernel_rfl) (by kernel_rfl) (by kernel_rfl) (by kernel_rfl) (by kernel_rfl) (show zeroV Pg 86=some (.int .u32 (.ofNat 0))by kernel_rfl)
theorem qql:NC Try.f78 78 10 7 .u64 65:=mkC (d:=66) (s:=3) (t:=87) (by kernel_rfl) (by kernel_rfl) U3 U87
theorem qqC:M1 Try.f78 78 13 2 77:=qwX (by kernel_rfl)
theorem qp7:∀ (c:Qad)(t:Tm)(l:Lo)(h:Hp)(j:V→Lo→Hp→R)(k:IntKind)(n:Nat),n≤1000000000→go1 Try.f78 78 13 2 77 (.int k (.ofNat n)) c t l h j=j (.arr (.loc 78 ((lg l 78).1+1)) 0 n (some n) 1 false) (lp l 78 ((lg l 78).1+1,.cells false (nl .u32 (List.replicate n 0)))) h:=fun c t l h j k n hn=>qeG (C:=Cg) (gl:=Cg.glob 78) (call:=c) (tm:=t) (loc:=l) (hp:=h) (j:=j) (t':=pt .lf 77 (.int k (.ofNat n))) (k1:=k) (n:=n) (o:=opA Try.f78 13 2) (d:=78) (x:=77) (t:=24) (e:=86) (b:=4) (by kernel_rfl) (by kernel_rfl) (by kernel_rfl) (by kernel_rfl) (by kernel_rfl) (by kernel_rfl) (by kernel_rfl) (by rw[qal,if_pos rfl]) (by omega) (by omega)
theorem qqk:NC Try.f78 78 19 5 .u64 112:=mkC (d:=113) (s:=86) (t:=80) (by kernel_rfl) (by kernel_rfl) U86 U80
theorem qqj:NC Try.f78 78 22 3 .u32 131:=mkC (d:=132) (s:=80) (t:=86) (by kernel_rfl) (by kernel_rfl) U80 U86
theorem qqB:M2 Try.f78 78 22 5 133 132:=mk2 (by kernel_rfl) (by decide)
theorem qvC:M2 Try.f79 79 5 6 23 24:=mk2 (by kernel_rfl) (by decide)
theorem qv2:ApI Pg (opA Try.f79 5 6) 25 23 24 29:=⟨by kernel_rfl,{ callee:=.builtin .append,args:=#[.tmp 23,.tmp 24],argTypes:=#[29,29] },by kernel_rfl,rfl,rfl,rfl,by kernel_rfl⟩
theorem qqz:M2 Try.f79 79 12 3 45 46:=mk2 (by kernel_rfl) (by decide)
theorem qq4:ApI Pg (opA Try.f79 12 3) 47 45 46 29:=⟨by kernel_rfl,{ callee:=.builtin .append,args:=#[.tmp 45,.tmp 46],argTypes:=#[29,29] },by kernel_rfl,rfl,rfl,rfl,by kernel_rfl⟩
theorem qub:NB Try.f80 80 0 0 1 0:=mkB (t:=63) (by kernel_rfl) (by kernel_rfl) (by kernel_rfl) (by kernel_rfl)
theorem qua:NB Try.f81 81 0 0 3 0:=mkB (t:=59) (by kernel_rfl) (by kernel_rfl) (by kernel_rfl) (by kernel_rfl)
theorem qt9:NB Try.f81 81 0 1 4 1:=mkB (t:=59) (by kernel_rfl) (by kernel_rfl) (by kernel_rfl) (by kernel_rfl)
theorem qt8:NB Try.f82 82 0 0 2 0:=mkB (t:=26) (by kernel_rfl) (by kernel_rfl) (by kernel_rfl) (by kernel_rfl)
theorem qt7:NB Try.f82 82 0 1 3 1:=mkB (t:=26) (by kernel_rfl) (by kernel_rfl) (by kernel_rfl) (by kernel_rfl)
theorem qvB:M1 Try.f85 85 1 3 11:=qwX (by kernel_rfl)
theorem qt6:NC Try.f85 85 5 1 .u64 20:=mkC (d:=21) (s:=86) (t:=80) (by kernel_rfl) (by kernel_rfl) U86 U80
theorem qt5:NC Try.f85 85 6 5 .u32 28:=mkC (d:=29) (s:=80) (t:=86) (by kernel_rfl) (by kernel_rfl) U80 U86
theorem qvA:M2 Try.f85 85 6 8 31 30:=mk2 (by kernel_rfl) (by decide)
theorem qtv{r off n:Nat}{d:List Nat}{h:Hp}(hr:h.rows[r]? = some (.cells false (nl .u32 d)))(ho:off<d.length)(c:Qad)(t:Tm)(l:Lo)(j:V→Lo→Hp→R):go2 Try.f85 85 6 8 31 30 (.ptr (.glob r) off) (.int .u32 (.ofNat n)) c t l h j=j (.tuple []) l (hset h r (.cells false (nl .u32 (d.set off n)))):=qbU (C:=Cg) (gl:=Cg.glob 85) (call:=c) (o:=opA Try.f85 6 8) (t:=86) (by kernel_rfl) (by kernel_rfl) (by decide) (by kernel_rfl) hr ho
theorem qt4:NC Try.f85 85 7 5 .u32 36:=mkC (d:=37) (s:=80) (t:=86) (by kernel_rfl) (by kernel_rfl) U80 U86
theorem qvz:M2 Try.f85 85 7 7 38 37:=mk2 (by kernel_rfl) (by decide)
theorem qtu{r off n:Nat}{d:List Nat}{h:Hp}(hr:h.rows[r]? = some (.cells false (nl .u32 d)))(ho:off<d.length)(c:Qad)(t:Tm)(l:Lo)(j:V→Lo→Hp→R):go2 Try.f85 85 7 7 38 37 (.ptr (.glob r) off) (.int .u32 (.ofNat n)) c t l h j=j (.tuple []) l (hset h r (.cells false (nl .u32 (d.set off n)))):=qbU (C:=Cg) (gl:=Cg.glob 85) (call:=c) (o:=opA Try.f85 7 7) (t:=86) (by kernel_rfl) (by kernel_rfl) (by decide) (by kernel_rfl) hr ho
theorem qvx:M2 Try.f86 86 7 2 28 29:=mk2 (by kernel_rfl) (by decide)
theorem qvw:M1 Try.f87 87 1 2 10:=qwX (by kernel_rfl)
theorem qtH:∀ (c:Qad)(t:Tm)(l:Lo)(h:Hp)(j:V→Lo→Hp→R)(k:IntKind)(n:Nat),n≤1000000000→go1 Try.f87 87 1 2 10 (.int k (.ofNat n)) c t l h j=j (.arr (.loc 11 ((lg l 11).1+1)) 0 n (some n) 1 false) (lp l 11 ((lg l 11).1+1,.cells false (nl .u32 (List.replicate n 0)))) h:=fun c t l h j k n hn=>qeG (C:=Cg) (gl:=Cg.glob 87) (call:=c) (tm:=t) (loc:=l) (hp:=h) (j:=j) (t':=pt .lf 10 (.int k (.ofNat n))) (k1:=k) (n:=n) (o:=opA Try.f87 1 2) (d:=11) (x:=10) (t:=24) (e:=86) (b:=4) (by kernel_rfl) (by kernel_rfl) (by kernel_rfl) (by kernel_rfl) (by kernel_rfl) (by kernel_rfl) (by kernel_rfl) (by rw[qal,if_pos rfl]) (by omega) (by omega)
theorem qt3:NC Try.f87 87 5 1 .u64 19:=mkC (d:=20) (s:=86) (t:=80) (by kernel_rfl) (by kernel_rfl) U86 U80
theorem qt2:NC Try.f87 87 6 6 .u32 29:=mkC (d:=30) (s:=80) (t:=86) (by kernel_rfl) (by kernel_rfl) U80 U86
theorem qvv:M2 Try.f87 87 6 9 32 31:=mk2 (by kernel_rfl) (by decide)
theorem qt1:NC Try.f87 87 8 6 .u32 40:=mkC (d:=41) (s:=80) (t:=86) (by kernel_rfl) (by kernel_rfl) U80 U86
theorem qvu:M2 Try.f87 87 8 9 43 42:=mk2 (by kernel_rfl) (by decide)
theorem qvt:M2 Try.f88 88 8 4 30 33:=mk2 (by kernel_rfl) (by decide)
theorem qv1:ApI Pg (opA Try.f88 8 4) 34 30 33 29:=⟨by kernel_rfl,{ callee:=.builtin .append,args:=#[.tmp 30,.tmp 33],argTypes:=#[29,29] },by kernel_rfl,rfl,rfl,rfl,by kernel_rfl⟩
theorem qwU:APT Try.f88 88 8 4 30 33 34:=qxo qv1 (by kernel_rfl) (by kernel_rfl) (e:=3) (by kernel_rfl) (by kernel_rfl) (b:=8) (by kernel_rfl) (by decide) (by decide)
theorem qt0:NC Try.f89 89 7 2 .u8 14:=mkC (d:=15) (s:=86) (t:=5) (by kernel_rfl) (by kernel_rfl) U86 U5
theorem qtZ:NC Try.f89 89 7 4 .i64 16:=mkC (d:=17) (s:=5) (t:=3) (by kernel_rfl) (by kernel_rfl) U5 U3
def qjL:=qbO L2
def qjG:=qar L2
def qjt:=qao L2
def qkY:=qb4 L2
def qhl:=qa9 L2
def qkT:=qbV N2
def qjK:=qbO L3
def qjF:=qar L3
def qjs:=qao L3
def qkX:=qb4 L3
def qhk:=qa9 L3
def qkS:=qbV N3
def qjJ:=qbO L4
def qjE:=qar L4
def qjr:=qao L4
def qkW:=qb4 L4
def qhj:=qa9 L4
def qkR:=qbV N4
def qjI:=qbO L5
def qjD:=qar L5
def qjq:=qao L5
def qkV:=qb4 L5
def qhi:=qa9 L5
def qkQ:=qbV N5
def qjH:=qbO L9
def qjC:=qar L9
def qjp:=qao L9
def qkU:=qb4 L9
def qhh:=qa9 L9
def qkP:=qbV N9
def qiz:=qbO L21
def qir:=qar L21
def qij:=qao L21
def qjB:=qb4 L21
def qgi:=qa9 L21
def qjo:=qbV N21
def qes:=qeB E24 L86
def qfL:=ql1 E24 L86
def qer:=qen E24 L86
def qe4:=qh5 E24 L86
def qiy:=qbO L24
def qiq:=qar L24
def qii:=qao L24
def qjA:=qb4 L24
def qgh:=qa9 L24
def qjn:=qbV N24
def qib:=qaz L26
def qh9:=qah N26
def qcZ:=qsO Z26 S26 rfl rfl
def qe7:=qeB E29 L3
def qgl:=ql1 E29 L3
def qe3:=qen E29 L3
def qfK:=qh5 E29 L3
def qix:=qbO L29
def qip:=qar L29
def qih:=qao L29
def qjz:=qb4 L29
def qgg:=qa9 L29
def qjm:=qbV N29
def qia:=qaz L31
def qh8:=qah N31
def qcY:=qsO Z31 S31 rfl rfl
def qe6:=qeB E51 L5
def qgk:=ql1 E51 L5
def qe2:=qen E51 L5
def qfJ:=qh5 E51 L5
def qiw:=qbO L51
def qio:=qar L51
def qig:=qao L51
def qjy:=qb4 L51
def qgf:=qa9 L51
def qjl:=qbV N51
def qcX:=qsO Z59 S59 rfl rfl
def qcW:=qsO Z63 S63 rfl rfl
def qe5:=qeB E79 L9
def qgj:=ql1 E79 L9
def qe1:=qen E79 L9
def qfI:=qh5 E79 L9
def qiv:=qbO L79
def qin:=qar L79
def qif:=qao L79
def qjx:=qb4 L79
def qge:=qa9 L79
def qjk:=qbV N79
def qiu:=qbO L80
def qim:=qar L80
def qie:=qao L80
def qjw:=qb4 L80
def qgd:=qa9 L80
def qjj:=qbV N80
def qit:=qbO L86
def qil:=qar L86
def qid:=qao L86
def qjv:=qb4 L86
def qgc:=qa9 L86
def qji:=qbV N86
def qis:=qbO L87
def qik:=qar L87
def qic:=qao L87
def qju:=qb4 L87
def qgb:=qa9 L87
def qjh:=qbV N87
theorem qm7:DS Try.f23 23 18 13 77 72 5:=mkS (by kernel_rfl) (by kernel_rfl) (by decide)
theorem qm6:DS Try.f23 23 18 15 78 76 5:=mkS (by kernel_rfl) (by kernel_rfl) (by decide)
theorem qsp:DS Try.f25 25 2 8 4 18 26:=mkS (by kernel_rfl) (by kernel_rfl) (by decide)
theorem qso:DS Try.f25 25 4 8 4 33 26:=mkS (by kernel_rfl) (by kernel_rfl) (by decide)
theorem qsn:DS Try.f25 25 5 8 4 41 26:=mkS (by kernel_rfl) (by kernel_rfl) (by decide)
theorem qsm:DS Try.f26 26 2 8 4 17 31:=mkS (by kernel_rfl) (by kernel_rfl) (by decide)
theorem qsl:DS Try.f26 26 4 8 4 31 31:=mkS (by kernel_rfl) (by kernel_rfl) (by decide)
theorem qsk:DS Try.f26 26 5 8 4 39 31:=mkS (by kernel_rfl) (by kernel_rfl) (by decide)
theorem qsj:DS Try.f27 27 1 4 4 8 26:=mkS (by kernel_rfl) (by kernel_rfl) (by decide)
theorem qsi:DS Try.f28 28 1 4 4 8 31:=mkS (by kernel_rfl) (by kernel_rfl) (by decide)
theorem qsh:DS Try.f37 37 2 2 4 15 26:=mkS (by kernel_rfl) (by kernel_rfl) (by decide)
theorem qsg:DS Try.f37 37 2 3 5 16 26:=mkS (by kernel_rfl) (by kernel_rfl) (by decide)
theorem qsf:DS Try.f37 37 8 5 7 56 26:=mkS (by kernel_rfl) (by kernel_rfl) (by decide)
theorem qpo:DS Try.f37 37 13 2 4 64 26:=mkS (by kernel_rfl) (by kernel_rfl) (by decide)
theorem qpn:DS Try.f37 37 13 3 5 65 26:=mkS (by kernel_rfl) (by kernel_rfl) (by decide)
theorem qse:DS Try.f38 38 2 2 4 14 31:=mkS (by kernel_rfl) (by kernel_rfl) (by decide)
theorem qsd:DS Try.f38 38 2 3 5 15 31:=mkS (by kernel_rfl) (by kernel_rfl) (by decide)
theorem qpk:DS Try.f38 38 4 13 8 30 31:=mkS (by kernel_rfl) (by kernel_rfl) (by decide)
theorem qpj:DS Try.f38 38 4 14 9 34 31:=mkS (by kernel_rfl) (by kernel_rfl) (by decide)
theorem qsc:DS Try.f38 38 8 3 8 46 31:=mkS (by kernel_rfl) (by kernel_rfl) (by decide)
theorem qsb:DS Try.f38 38 9 3 8 49 31:=mkS (by kernel_rfl) (by kernel_rfl) (by decide)
theorem qpm:DS Try.f38 38 10 2 4 50 31:=mkS (by kernel_rfl) (by kernel_rfl) (by decide)
theorem qpl:DS Try.f38 38 10 3 5 51 31:=mkS (by kernel_rfl) (by kernel_rfl) (by decide)
theorem qsa:DS Try.f39 39 1 6 2 9 26:=mkS (by kernel_rfl) (by kernel_rfl) (by decide)
theorem qr9:DS Try.f39 39 1 7 3 12 26:=mkS (by kernel_rfl) (by kernel_rfl) (by decide)
theorem qr8:DS Try.f39 39 4 2 2 23 26:=mkS (by kernel_rfl) (by kernel_rfl) (by decide)
theorem qr7:DS Try.f39 39 4 3 3 24 26:=mkS (by kernel_rfl) (by kernel_rfl) (by decide)
theorem qr6:DS Try.f40 40 1 8 5 11 31:=mkS (by kernel_rfl) (by kernel_rfl) (by decide)
theorem qr5:DS Try.f40 40 1 9 6 14 31:=mkS (by kernel_rfl) (by kernel_rfl) (by decide)
theorem qr4:DS Try.f40 40 4 2 5 25 31:=mkS (by kernel_rfl) (by kernel_rfl) (by decide)
theorem qr3:DS Try.f40 40 4 3 6 26 31:=mkS (by kernel_rfl) (by kernel_rfl) (by decide)
theorem qr2:DS Try.f43 43 2 3 2 11 26:=mkS (by kernel_rfl) (by kernel_rfl) (by decide)
theorem qr1:DS Try.f43 43 2 4 3 13 31:=mkS (by kernel_rfl) (by kernel_rfl) (by decide)
theorem qr0:DS Try.f44 44 4 4 2 15 26:=mkS (by kernel_rfl) (by kernel_rfl) (by decide)
theorem qrZ:DS Try.f44 44 4 5 3 17 26:=mkS (by kernel_rfl) (by kernel_rfl) (by decide)
theorem qrY:DS Try.f44 44 8 5 4 37 59:=mkS (by kernel_rfl) (by kernel_rfl) (by decide)
theorem qrX:DS Try.f45 45 4 4 2 20 31:=mkS (by kernel_rfl) (by kernel_rfl) (by decide)
theorem qrW:DS Try.f45 45 4 5 3 22 31:=mkS (by kernel_rfl) (by kernel_rfl) (by decide)
theorem qrV:DS Try.f48 48 1 4 2 6 26:=mkS (by kernel_rfl) (by kernel_rfl) (by decide)
theorem qrU:DS Try.f51 51 7 2 4 41 59:=mkS (by kernel_rfl) (by kernel_rfl) (by decide)
theorem qrT:DS Try.f51 51 7 3 5 42 63:=mkS (by kernel_rfl) (by kernel_rfl) (by decide)
theorem qpi:DS Try.f52 52 1 10 3 11 26:=mkS (by kernel_rfl) (by kernel_rfl) (by decide)
theorem qph:DS Try.f52 52 1 11 4 12 26:=mkS (by kernel_rfl) (by kernel_rfl) (by decide)
theorem qrS:DS Try.f53 53 1 9 4 13 59:=mkS (by kernel_rfl) (by kernel_rfl) (by decide)
theorem qpg:DS Try.f55 55 1 11 4 15 59:=mkS (by kernel_rfl) (by kernel_rfl) (by decide)
theorem qrR:DS Try.f56 56 1 9 4 13 59:=mkS (by kernel_rfl) (by kernel_rfl) (by decide)
theorem qrQ:DS Try.f57 57 1 7 2 9 59:=mkS (by kernel_rfl) (by kernel_rfl) (by decide)
theorem qpf:DS Try.f58 58 1 21 5 25 63:=mkS (by kernel_rfl) (by kernel_rfl) (by decide)
theorem qrP:DS Try.f59 59 1 6 2 8 63:=mkS (by kernel_rfl) (by kernel_rfl) (by decide)
theorem qpe:DS Try.f60 60 1 15 5 19 63:=mkS (by kernel_rfl) (by kernel_rfl) (by decide)
theorem qrO:DS Try.f61 61 1 6 2 8 59:=mkS (by kernel_rfl) (by kernel_rfl) (by decide)
theorem qpd:DS Try.f69 69 3 13 26 21 5:=mkS (by kernel_rfl) (by kernel_rfl) (by decide)
theorem qpa{r off n:Nat}{d:List Nat}{h:Hp}(hr:h.rows[r]? = some (.cells false (nl .u8 d)))(ho:off<d.length)(c:Qad)(t:Tm)(l:Lo)(J:JD)(X:XD):gD Try.f69 69 3 13 c (pt (pt t 26 (.ptr (.glob r) off)) 21 (.int .u8 (.ofNat n))) l h J X=J (.tuple []) ⟨[],[],true,true,false,false⟩ l (hset h r (.cells false (nl .u8 (d.set off n)))):=qdu (C:=Cg) (a:=26) (x:=21) (hp:=h) (loc:=l) (J:=J) (X:=X) (t':=pt (pt t 26 (.ptr (.glob r) off)) 21 (.int .u8 (.ofNat n))) (gl:=Cg.glob 69) (call:=c) (o:=opA Try.f69 3 13) (t:=5) (by kernel_rfl) (by kernel_rfl) (by kernel_rfl) (by rw[qal,if_neg (by decide),qal,if_pos rfl]) (by rw[qal,if_pos rfl]) hr ho
theorem qpc:DS Try.f69 69 3 15 27 25 5:=mkS (by kernel_rfl) (by kernel_rfl) (by decide)
theorem qo9{r off n:Nat}{d:List Nat}{h:Hp}(hr:h.rows[r]? = some (.cells false (nl .u8 d)))(ho:off<d.length)(c:Qad)(t:Tm)(l:Lo)(J:JD)(X:XD):gD Try.f69 69 3 15 c (pt (pt t 27 (.ptr (.glob r) off)) 25 (.int .u8 (.ofNat n))) l h J X=J (.tuple []) ⟨[],[],true,true,false,false⟩ l (hset h r (.cells false (nl .u8 (d.set off n)))):=qdu (C:=Cg) (a:=27) (x:=25) (hp:=h) (loc:=l) (J:=J) (X:=X) (t':=pt (pt t 27 (.ptr (.glob r) off)) 25 (.int .u8 (.ofNat n))) (gl:=Cg.glob 69) (call:=c) (o:=opA Try.f69 3 15) (t:=5) (by kernel_rfl) (by kernel_rfl) (by kernel_rfl) (by rw[qal,if_neg (by decide),qal,if_pos rfl]) (by rw[qal,if_pos rfl]) hr ho
theorem qpb:DS Try.f81 81 1 13 6 19 59:=mkS (by kernel_rfl) (by kernel_rfl) (by decide)
attribute [go_sem] g0_ g1_ g2_ g3_ g4_ g5_ g6_ g7_ g8_ g9_ qBO qBN qBM qBL qBK qBJ qBI qBH qBG qBF qBE qBD qBC qBB qBA qBz qBy p0_ p1_ p2_ p3_ p4_ p5_ p6_ p7_ p8_ p9_ qAg qAf qAe qAd qAc qAb qAa qz9 qz8 qz7 qz6 qz5 qz4 qz3 qz2 qz1 qz0 qzZ qzY qzX qzW qzV qzU qzT qzS qzR qzQ qzP qzO qzN qzM qzL qzK qzJ qzI qzH qzG qzF qzE qzD qzC qzB qzA qzz qzy qzx qzw qzv qzu qzt qzs qzr qzq qzp qzo qzn qzm qzl qzk qzj qzi qzh qzg qzf qze qzd qzc qzb qza qy9 qy8 qy7 qyo qyn qym qyl qyk qyj qyi qyh U2 U3 U4 U5 U9 U21 U24 U29 U51 U79 U80 U86 U87 qjL qjG qjt qkY qhl qkT qjK qjF qjs qkX qhk qkS qjJ qjE qjr qkW qhj qkR qjI qjD qjq qkV qhi qkQ qjH qjC qjp qkU qhh qkP qiz qir qij qjB qgi qjo qes qfL qer qe4 qiy qiq qii qjA qgh qjn qib qh9 qcZ qe7 qgl qe3 qfK qix qip qih qjz qgg qjm qia qh8 qcY qe6 qgk qe2 qfJ qiw qio qig qjy qgf qjl qcX qcW qe5 qgj qe1 qfI qiv qin qif qjx qge qjk qiu qim qie qjw qgd qjj qit qil qid qjv qgc qji qis qik qic qju qgb qjh qx5 qx4 qx3 qx2 qx1 qx0 qxZ qxY qtR qvS qqX qqe qqv qtQ qqu qqW qvq qqt qqs qqV qqr qqU qqd qqT qqc qqS qqR qvp qvo qvn qvR qvm qvl qvQ qvP qvk qqq qqQ qqb qqP qqa qqO qqN qvj qvi qvh qvg qvf qve qvd qvc qvb qva qvO qtP qu9 qu8 qqn qqp qqM qqo qqL qu7 qu6 qvN qtO qqK qu5 qu4 qqJ qu3 qu2 qu1 qu0 quZ qtN quY quX quW qtM quV quU quT quS quR quQ quP quO qtL quN quM qvM qvL quL quK quJ quI quH quG quF quE quD quC quB quA quz quy qux quw quv quu qut qus qur quq qup qun qum qul qvK quk qvJ qtK qvI qvH qvG qvF qui quh qqm qqI qp9 qqH qqG qp8 qqF qqE qqD qvE qtJ qug quf que qqA qud quc qvD qtI qql qqC qp7 qqk qqj qqB qvC qqz qub qua qt9 qt8 qt7 qvB qt6 qt5 qvA qt4 qvz qvx qvw qtH qt3 qt2 qvv qt1 qvu qvt qt0 qtZ qm7 qm6 qsp qso qsn qsm qsl qsk qsj qsi qsh qsg qsf qpo qpn qse qsd qpk qpj qsc qsb qpm qpl qsa qr9 qr8 qr7 qr6 qr5 qr4 qr3 qr2 qr1 qr0 qrZ qrY qrX qrW qrV qrU qrT qpi qph qrS qpg qrR qrQ qpf qrP qpe qrO qpd qpc qpb
end Go.AM.S
end
section
namespace NumL
def vl(B:Nat):List Nat→Nat
 | []=>0
 | x::l=>x+B*vl B l
def Dg(B:Nat)(l:List Nat):Prop:=∀ x ∈ l,x<B
theorem qaZ(B:Nat)(a b:List Nat):vl B (a++b)=vl B a+B ^ a.length*vl B b:=by
 induction a with
 | nil=>simp[vl]
 | cons x a ih =>
  simp only[List.cons_append,vl,ih,List.length_cons,Nat.pow_succ,Nat.mul_add]
  have:B*(B ^ a.length*vl B b)=B ^ a.length*B*vl B b:=by rw[←Nat.mul_assoc,Nat.mul_comm B]
  omega
theorem qdd(B x:Nat):vl B [x]=x:=by simp[vl]
theorem qpV{B:Nat}(hB:0<B){l:List Nat}(h:Dg B l):vl B l<B ^ l.length:=by
 induction l with
 | nil=>simp[vl]
 | cons x l ih =>
  have h1:x<B:=h x (by simp)
  have h2:=ih (fun y hy=>h y (by simp[hy]))
  simp only[vl,List.length_cons,Nat.pow_succ]
  have h3:B*vl B l+B≤B*B ^ l.length:=by
   have:=Nat.mul_le_mul_left B (Nat.succ_le_of_lt h2)
   rw[Nat.mul_succ]at this;exact this
  rw[Nat.mul_comm (B ^ l.length)]
  omega
theorem qi6(B:Nat)(l:List Nat)(i:Nat)(h:i<l.length):vl B (l.take (i+1))=vl B (l.take i)+B ^ i*l.getD i 0:=by
 have e:l.take (i+1)=l.take i++[l.getD i 0]:=by
  rw[List.take_add_one,List.getD_eq_getElem?_getD,List.getElem?_eq_getElem h];simp
 rw[e,qaZ,qdd,List.length_take,Nat.min_eq_left (Nat.le_of_lt h)]
theorem Dg.nil(B:Nat):Dg B []:=fun x hx=>by simp at hx
theorem Dg.snoc{B:Nat}{l:List Nat}(h:Dg B l){x:Nat}(hx:x<B):Dg B (l++[x]):=by
 intro y hy
 rcases List.mem_append.1 hy with h1 | h1
 ·exact h y h1
 ·rw[List.mem_singleton.1 h1];exact hx
theorem Dg.get{B:Nat}(hB:0<B){l:List Nat}(h:Dg B l)(i:Nat):l.getD i 0<B:=by
 rw[List.getD_eq_getElem?_getD]
 cases he:l[i]? with
 | none=>exact hB
 | some x=>exact h x (List.mem_of_getElem? he)
theorem Dg.take{B:Nat}{l:List Nat}(h:Dg B l)(n:Nat):Dg B (l.take n):=fun x hx=>h x (List.mem_of_mem_take hx)
theorem Dg.drop{B:Nat}{l:List Nat}(h:Dg B l)(n:Nat):Dg B (l.drop n):=fun x hx=>h x (List.mem_of_mem_drop hx)
theorem Dg.set{B:Nat}{l:List Nat}(h:Dg B l)(i:Nat){x:Nat}(hx:x<B):Dg B (l.set i x):=by
 intro y hy
 rcases List.mem_or_eq_of_mem_set hy with h1 | h1
 ·exact h y h1
 ·rw[h1];exact hx
theorem qdC(B:Nat)(l:List Nat)(i:Nat)(h:l.length≤i):vl B (l.take i)=vl B l:=by rw[List.take_of_length_le h]
theorem qbR{a:List Nat}{i:Nat}(h:¬i<a.length):a.getD i 0=0:=by rw[List.getD_eq_getElem?_getD,List.getElem?_eq_none (by omega)];rfl
theorem qaA(B:Nat)(a:List Nat)(i:Nat):vl B (a.take (i+1))=vl B (a.take i)+B ^ i*a.getD i 0:=by
 by_cases h:i<a.length
 ·exact qi6 B a i h
 ·rw[List.take_of_length_le (by omega),List.take_of_length_le (by omega),qbR h];simp
theorem qnX{B:Nat}(hB:0<B){out:List Nat}{i n x y p q:Nat}(hl:out.length=i)(hv:vl B out+B ^ i*n=p+q):vl B (out++[(n+x+y) % B])+B ^ (i+1)*((n+x+y) / B)=(p+B ^ i*x)+(q+B ^ i*y):=by
 rw[qaZ,qdd,hl,Nat.pow_succ,Nat.mul_assoc,Nat.add_assoc,←Nat.mul_add,Nat.mod_add_div,Nat.mul_add,Nat.mul_add]
 omega
theorem qpY{B:Nat}{v w k n i:Nat}(hi:i=k+1)(hB:2≤B)(h1:v<B ^ k)(h2:w<B ^ k){u:Nat}(h:u+B ^ i*n=v+w):n=0:=by
 rcases Nat.eq_zero_or_pos n with h0 | h0
 ·exact h0
 ·exfalso
  subst hi
  have h3:B ^ (k+1)*1≤B ^ (k+1)*n:=Nat.mul_le_mul_left _ h0
  rw[Nat.mul_one,Nat.pow_succ]at h3
  have h4:B ^ k*2≤B ^ k*B:=Nat.mul_le_mul_left _ hB
  rw[Nat.pow_succ]at h
  omega
theorem qaV{B:Nat}(hB:0<B){l:List Nat}(h:Dg B l){k:Nat}(hk:l.length≤k):vl B l<B ^ k:=Nat.lt_of_lt_of_le (qpV hB h) (Nat.pow_le_pow_right hB hk)
end NumL
end
section
namespace Go.AM.S
open Go Go.AM Go.Proofs NumL
open _root_.Go.AM.G (R)
noncomputable abbrev kn0:Kn:=fun _=>none
abbrev B:Nat:=4294967296
def Gives(f:FuncId)(args:List V)(p:V→Prop):Prop:=∀ h:Hp,∃ v,Runs Pg kn0 tbl f args h (.val v h)∧p v
theorem qlH(h h':Hp)(vs:List V)(h1:h'.dirty=none)(h2:V.Qaf vs=true):Qar h h' vs=h:=by
 unfold Qar QaX
 rw[h1,h2];rfl
theorem qak{f:FuncId}{rc:RC}{res:List ResultVar}{args:List V}{p:V→Prop}(ht:tbl f=some ⟨rc,res⟩)
  (hw:∀ (h:Hp) (Q:St→Prop),(∀ s v,fin Pg h res s=some (.val v h)→p v→Q s)→WW Pg kn0 tbl rc ⟨QaE args,.lf,⟨h.rows,none,h.mods⟩⟩ (fun _=>False) (fun _ _=>False) Q):Gives f args p:=by
 intro h
 obtain⟨o,h1,v,rfl,h2⟩:=qcV (Post:=fun o=>∃ v,o=.val v h∧p v) (kn:=kn0) rfl ht (qeU (hw h (fun s=>∃ v,fin Pg h res s=some (.val v h)∧p v) (fun s v a b=>⟨v,a,b⟩)) (fun s hs=>hs.elim) (fun _ _ h=>h) (fun s ⟨v,h1,h2⟩=>⟨_,h1,v,rfl,h2⟩))
 exact⟨v,h1,h2⟩
theorem qaU{t:Nat}{a b:RC}{s:St}{N:St→Prop}{X:Nat→St→Prop}{Q:St→Prop}{p:Prop} [Decidable p](hx:gt s.tm t=.bool (decide p))(h1:p→WW Pg kn0 tbl a s N X Q)(h2:¬p→WW Pg kn0 tbl b s N X Q):WW Pg kn0 tbl (.cond (.tmp t) a b) s N X Q:=by
 by_cases h:p
 ·exact qan (by rw[hx,decide_eq_true h]) (h1 h)
 ·exact qaj (by rw[hx,decide_eq_false h]) (h2 h)
theorem qaP{c:RC}{id:Nat}{s:St}{N:St→Prop}{X:Nat→St→Prop}{Q:St→Prop}(I:Nat→St→Prop)(m:Nat)(hi:I m s)
  (hb:∀ m s,I m s→WW Pg kn0 tbl c s (fun s'=>∃ m',m'<m∧I m' s') (fun i s=>if i=id then N s else X i s) Q):WW Pg kn0 tbl (.block id (.loop c)) s N X Q :=
 qaq (qts I hb m hi)
theorem qaX{h:Hp}{t:Nat}{s:St}{v v':V}{st:St}(hv:gt s.tm t=v)(he:AM.exp false s v=some (v',st))(hh:st.hp.dirty=none)(hr:v'.Qao=true):fin Pg h [.tmp t] s=some (.val v' h):=by
 unfold fin
 simp only[Qbj,qbI,hv,Option.map_some,exps,he]
 rw[qlH h st.hp [v'] hh (by simp[V.Qaf,hr])]
theorem Sl.Qao{k:IntKind}{v:V}{d:List Nat}(h:Sl k v d):v.Qao=true:=by
 rcases h with ⟨f,rfl⟩ | ⟨rfl,_⟩<;>rfl
set_option maxRecDepth 100000
theorem tbl65:tbl 65=some ⟨rc65,[.cell 4 26]⟩:=by kernel_rfl
def Cn(d:List Nat):Prop:=∀ i,d.length=i+1→d.getD i 0≠0
def Tr0(a d:List Nat):Prop:=∃ n,a=d++List.replicate n 0
theorem Tr0.refl(a:List Nat):Tr0 a a:=⟨0,by simp⟩
theorem Tr0.next{a d:List Nat}(h:Tr0 a d)(h0:0<d.length)(hz:d.getD (d.length - 1) 0=0):Tr0 a (d.take (d.length - 1)):=by
 obtain⟨n,rfl⟩:=h
 refine⟨n+1,?_⟩
 have e:d=d.take (d.length - 1)++[0]:=by
  conv=>lhs;rw[←List.take_append_drop (d.length - 1) d]
  congr 1
  have e2:(d.drop (d.length - 1)).length=1:=by simp;omega
  obtain⟨x,hx⟩:=List.length_eq_one_iff.1 e2
  rw[hx]
  have e3:d[d.length - 1]? = some x:=by
   have:=congrArg (fun l=>l[0]?) hx
   simpa using this
  rw[List.getD_eq_getElem?_getD,e3]at hz
  simp at hz
  rw[hz]
 conv=>lhs;rw[e]
 rw[List.append_assoc];rfl
theorem qh1(B n:Nat):vl B (List.replicate n 0)=0:=by
 induction n with
 | zero=>rfl
 | succ n ih=>simp only[List.replicate_succ,vl,ih,Nat.mul_zero,Nat.add_zero]
theorem Tr0.vl{a d:List Nat}(h:Tr0 a d)(B:Nat):NumL.vl B d=NumL.vl B a:=by
 obtain⟨n,rfl⟩:=h
 rw[qaZ,qh1];simp
theorem Tr0.dg{a d:List Nat}(h:Tr0 a d){B:Nat}(hd:Dg B a):Dg B d:=by
 obtain⟨n,rfl⟩:=h
 exact fun x hx=>hd x (by simp[hx])
theorem Tr0.len{a d:List Nat}(h:Tr0 a d):d.length≤a.length:=by
 obtain⟨n,rfl⟩:=h
 simp
def NI(v:V)(d:List Nat)(b:Bool):Prop:=(∃ s,v=.agg [s,.bool b]∧Sl .u32 s d)∧Dg B d∧Cn d∧(d=[]→b=false)
theorem qa3{va:V}{a:List Nat}(ha:Sl .u32 va a)(da:Dg B a)(la:a.length≤1000000000)(ng:Bool) :
  Gives 65 [va,.bool ng] fun r=>∃ d,NI r d (ng && !d.isEmpty)∧Tr0 a d:=by
 refine qak tbl65 fun h Q hQ=>?_
 unfold rc65
 refine sR ?_
 refine qac (qaP (fun m s=>∃ d v,m=d.length∧gt s.tm 0=v∧Sl .u32 v d∧Tr0 a d∧gt s.tm 1=.bool ng∧gt s.tm 4=.ptr (.loc 4 1) 0∧lg s.loc 4=(1,.cells false [.nils,.bool false])∧s.hp=⟨h.rows,none,h.mods⟩) a.length ⟨a,va,rfl,(by simp -implicitDefEqProofs (disch:=omega) only[go_sem,reduceIte,Nat.reduceEqDiff,qae,List.getD_cons_zero]),ha,Tr0.refl a,sSG,sS,sS,rfl⟩ ?_)
 intro m s ⟨d,v,hm,h0,hv,ht,h1,h4,hl4,hhp⟩
 have hln:=ht.len
 have stop:Cn d→gt (pt s.tm 16 (.bool false)) 16=.bool false→WW Pg kn0 tbl (.seq (.reg fun c t l h k=>jn (fun v0 l0 h0=>jn (fun v1 l1 h1=>jn (fun v2 l2 h2=>bO (pick (g1 t) v2 (.bool false)) fun v3=>gn Try.f65 65 3 7 c (p28 (p22 t (g0 t)) v3) t l2 h2 (fun v4 l4 h4=>jn (fun v5 l5 h5=>k t l5 h5) fun j5=>sto 26 (g4 t) v4 l4 h4 j5 (gn Try.f65 65 3 8 c (p29 (p4 t (g4 t)) v4) t l4 h4 j5))) fun j2=>brB (wv (g1 t) true) (j2 (.tuple []) l1 h1) (bO (bin Pg .gtr 3 true v1 (I 0)) fun v3=>j2 v3 l1 h1)) fun j1=>brB (wv (g1 t) true) (j1 (.tuple []) l0 h0) (bO (len (Pg.underlying 24) v0) fun v2=>j1 v2 l0 h0)) fun j0=>brB (wv (g1 t) true) (j0 (.tuple []) l h) (j0 (g0 t) l h))
 .ret) ⟨pt s.tm 16 (.bool false),s.loc,s.hp⟩ (fun _=>False) (fun _ _=>False) Q:=by
  intro hcn _
  have key:∀ b:Bool,b=(ng && !d.isEmpty)→NI (.agg [v,.bool b]) d (ng && !d.isEmpty):=by
   intro b hb
   subst hb
   exact⟨⟨v,rfl,hv⟩,ht.dg da,hcn,fun e=>by subst e;simp⟩
  cases ng with
  | false =>
   refine qac (qad (fun n k=>by simp -implicitDefEqProofs (disch:=omega) only[go_sem,reduceIte,Nat.reduceEqDiff,h0,h1,h4,hl4,qpP hv.pl (Pl.bool false),qah N26 1 v (.bool false) .nils (.bool false) _ hv.pl.ok rfl];rfl) ?_)
   exact qai (hQ _ _ (qaW (x:=v) (y:=.bool false) (f:=false) (d:=4) (g:=1) (by kernel_rfl) (sS1 h4) (sS1 hl4) hv.pl (Pl.bool _) (by rw[hhp])) ⟨d,key false (by simp),ht⟩)
  | true =>
   refine qac (qad (fun n k=>by simp -implicitDefEqProofs (disch:=omega) only[go_sem,reduceIte,Nat.reduceEqDiff,h0,h1,h4,hl4,qam hv,qpP hv.pl (Pl.bool _),qah N26 1 v (.bool (decide (0<d.length))) .nils (.bool false) _ hv.pl.ok rfl];rfl) ?_)
   refine qai (hQ _ _ (qaW (x:=v) (y:=.bool (decide (0<d.length))) (f:=false) (d:=4) (g:=1) (by kernel_rfl) (sS1 h4) (sS1 hl4) hv.pl (Pl.bool _) (by rw[hhp])) ⟨d,key _ ?_,ht⟩)
   cases d with
   | nil=>rfl
   | cons x l=>simp
 rcases Nat.eq_zero_or_pos d.length with hd | hd
 ·refine qac (qac (qad (fun n k=>by simp -implicitDefEqProofs (disch:=omega) only[go_sem,reduceIte,Nat.reduceEqDiff,h0,qam hv,qaY];rfl) ?_))
  refine qaj sS (qax ?_)
  rw[if_pos rfl]
  exact stop (fun i hi=>by omega) sS
 ·have hx:d.getD (d.length - 1) 0<4294967296:=(ht.dg da).get (by decide) _
  by_cases hz:d.getD (d.length - 1) 0=0
  ·refine qac (qac (qad (fun n k=>by simp -implicitDefEqProofs (disch:=omega) only[go_sem,reduceIte,Nat.reduceEqDiff,h0,qam hv,qaQ,qj0 hv,hz];rfl) ?_))
   refine qan sS (qag (qaq ?_))
   refine qad (fun n k=>by simp -implicitDefEqProofs (disch:=omega) only[go_sem,reduceIte,Nat.reduceEqDiff,h0,qam hv,qy4 hv];rfl) ?_
   exact⟨d.length - 1,by omega,d.take (d.length - 1),_,by simp,sS,.inl ⟨false,rfl⟩,ht.next hd hz,(sS1 h1),(sS1 h4),(sS1 hl4),hhp⟩
  ·refine qac (qac (qad (fun n k=>by simp -implicitDefEqProofs (disch:=omega) only[go_sem,reduceIte,Nat.reduceEqDiff,h0,qam hv,qaQ,qj0 hv,qaY];rfl) ?_))
   refine qaj sS (qax ?_)
   rw[if_pos rfl]
   exact stop (fun i hi=>by rw[show i=d.length - 1 by omega];exact hz) sS
theorem tbl83:tbl 83=some ⟨rc83,[.tmp 6,.tmp 7]⟩:=by kernel_rfl
theorem qtz{n:Nat}(h:n<4294967296):n / 2 ^ 31=(n.testBit 31).toNat:=by
 rw[Nat.testBit_eq_decide_div_mod_eq]
 have:n / 2 ^ 31<2:=by omega
 rcases Nat.lt_or_ge (n / 2 ^ 31) 1 with h1 | h1
 ·have e:n / 2 ^ 31=0:=by omega
  rw[e];rfl
 ·have e:n / 2 ^ 31=1:=by omega
  rw[e];rfl
theorem qpG{n:Nat}(h:n<4294967296):n.testBit 31=decide (2147483648≤n):=by
 rw[Nat.testBit_eq_decide_div_mod_eq]
 congr 1
 apply propext
 omega
theorem qxW{x y w:Nat}(hx:x<4294967296)(hy:y<4294967296)(hw:w≤1) :
  ((((4294967295 ^^^ x) &&& y) ||| ((4294967295 ^^^ (x ^^^ y)) &&& (((x+4294967296 - y) % 4294967296+4294967296 - w) % 4294967296))) / 2 ^ 31)=if x<y+w then 1 else 0:=by
 have hd:((x+4294967296 - y) % 4294967296+4294967296 - w) % 4294967296<4294967296:=Nat.mod_lt _ (by decide)
 have h1:(4294967295 ^^^ x)<4294967296:=Nat.xor_lt_two_pow (n:=32) (by decide) hx
 have h2:(4294967295 ^^^ (x ^^^ y))<4294967296:=Nat.xor_lt_two_pow (n:=32) (by decide) (Nat.xor_lt_two_pow (n:=32) hx hy)
 rw[qtz (Nat.or_lt_two_pow (n:=32) (Nat.lt_of_le_of_lt Nat.and_le_left h1) (Nat.lt_of_le_of_lt Nat.and_le_left h2))]
 simp only[Nat.testBit_or,Nat.testBit_and,Nat.testBit_xor,qpG hx,qpG hy,qpG hd]
 have e31:Nat.testBit 4294967295 31=true:=by decide
 rw[e31]
 by_cases a:2147483648≤x<;>by_cases b:2147483648≤y<;>by_cases c:2147483648≤((x+4294967296 - y) % 4294967296+4294967296 - w) % 4294967296<;>simp only[a,b,c,decide_true,decide_false]<;>split<;>first | rfl | (exfalso;omega)
theorem qmn{x y w:Nat}(hx:x<4294967296)(hy:y<4294967296)(hw:w≤1) :
  Gives 83 [.int .u32 (.ofNat x),.int .u32 (.ofNat y),.int .u32 (.ofNat w)] fun r=>∃ d c,r=.tuple [.int .u32 (.ofNat d),.int .u32 (.ofNat c)]∧d<4294967296∧c≤1∧x+4294967296*c=d+y+w:=by
 refine qak tbl83 fun h Q hQ=>?_
 unfold rc83
 have h1:(4294967295 ^^^ x)<4294967296:=Nat.xor_lt_two_pow (n:=32) (by decide) hx
 have h0:(x ^^^ y)<4294967296:=Nat.xor_lt_two_pow (n:=32) hx hy
 have h2:(4294967295 ^^^ (x ^^^ y))<4294967296:=Nat.xor_lt_two_pow (n:=32) (by decide) h0
 have hd:((x+4294967296 - y) % 4294967296+4294967296 - w) % 4294967296<4294967296:=Nat.mod_lt _ (by decide)
 have h3:((4294967295 ^^^ x) &&& y)<4294967296:=Nat.lt_of_le_of_lt Nat.and_le_left h1
 have h4:((4294967295 ^^^ (x ^^^ y)) &&& (((x+4294967296 - y) % 4294967296+4294967296 - w) % 4294967296))<4294967296:=Nat.lt_of_le_of_lt Nat.and_le_left h2
 refine sR ?_
 refine sRG ?_
 refine qac (qad (fun n k=>by simp -implicitDefEqProofs (disch:=omega) only[go_sem,reduceIte,Nat.reduceEqDiff,qae,List.getD_cons_zero,List.getD_cons_succ,qla h1 hy,qla h2 hd,qs9 h3 h4,qxW hx hy hw];rfl) ?_)
 refine qai (hQ _ _ (qwb (a:=6) (b:=7) (v:=.int .u32 (.ofNat (((x+4294967296 - y) % 4294967296+4294967296 - w) % 4294967296))) (w:=.int .u32 (.ofNat (if x<y+w then 1 else 0))) sS sS (Ex1.int _ _) (Ex1.int _ _) rfl rfl rfl) ⟨_,_,rfl,hd,?_,?_⟩)
 ·split<;>omega
 ·split<;>omega
theorem tbl72:tbl 72=some ⟨rc72,[.tmp 4]⟩:=by kernel_rfl
theorem qdD(B:Nat)(a:List Nat)(i:Nat):vl B a=vl B (a.take i)+B ^ (min i a.length)*vl B (a.drop i):=by
 conv=>lhs;rw[←List.take_append_drop i a]
 rw[qaZ,List.length_take]
theorem qa8(B:Nat)(a:List Nat)(i:Nat)(h:i<a.length):vl B (a.drop i)=a.getD i 0+B*vl B (a.drop (i+1)):=by
 rw[List.drop_eq_getElem_cons h]
 simp only[vl]
 congr 1
 rw[List.getD_eq_getElem?_getD,List.getElem?_eq_getElem h];rfl
theorem qns(B:Nat)(a:List Nat)(i:Nat)(h:i<a.length):vl B a=vl B (a.take i)+B ^ i*(a.getD i 0+B*vl B (a.drop (i+1))):=by
 rw[qdD B a i,qa8 B a i h,Nat.min_eq_left (Nat.le_of_lt h)]
theorem qfN{B:Nat}(hB:0<B){a b:List Nat}(da:Dg B a){i:Nat}(ha:i<a.length)(hb:i<b.length)(he:a.drop (i+1)=b.drop (i+1))(h:a.getD i 0<b.getD i 0):vl B a<vl B b:=by
 rw[qns B a i ha,qns B b i hb,he]
 have h1:vl B (a.take i)<B ^ i:=qaV hB (da.take i) (by simp;omega)
 have h2:B ^ i*(a.getD i 0+B*vl B (b.drop (i+1))+1)≤B ^ i*(b.getD i 0+B*vl B (b.drop (i+1))):=Nat.mul_le_mul_left _ (by omega)
 rw[Nat.mul_add,Nat.mul_one]at h2
 omega
theorem qnq{B:Nat}{d:List Nat}(hc:Cn d)(hd:d≠[]):B ^ (d.length - 1)≤vl B d:=by
 have hp:0<d.length:=List.length_pos_iff.2 hd
 rw[qns B d (d.length - 1) (by omega)]
 have h1:=hc (d.length - 1) (by omega)
 have h2:B ^ (d.length - 1)*1≤B ^ (d.length - 1)*(d.getD (d.length - 1) 0+B*vl B (d.drop (d.length - 1+1))):=Nat.mul_le_mul_left _ (by omega)
 omega
theorem qbG{B:Nat}(hB:0<B){a b:List Nat}(da:Dg B a)(cb:Cn b)(h:a.length<b.length):vl B a<vl B b:=by
 have h1:=qaV hB da (k:=b.length - 1) (by omega)
 have h2:=qnq (B:=B) cb (by intro e;subst e;simp at h)
 omega
def Qb9(x y:Nat):Int:=if x<y then .negSucc 0 else if y<x then .ofNat 1 else .ofNat 0
theorem qeF(a:List Nat)(i:Nat):a.drop i=if i<a.length then a.getD i 0::a.drop (i+1)else []:=by
 split
 ·rename_i h
  rw[List.drop_eq_getElem_cons h,List.getD_eq_getElem?_getD,List.getElem?_eq_getElem h];rfl
 ·exact List.drop_eq_nil_of_le (by omega)
theorem qbZ{va vb:V}{a b:List Nat}(ha:Sl .u32 va a)(hb:Sl .u32 vb b)(da:Dg B a)(db:Dg B b)(ca:Cn a)(cb:Cn b)(la:a.length≤1000000000)(lb:b.length≤1000000000) :
  Gives 72 [va,vb] fun r=>r=.int .i64 (Qb9 (vl B a) (vl B b)):=by
 refine qak tbl72 fun h Q hQ=>?_
 unfold rc72
 refine sR ?_
 rcases Nat.lt_trichotomy a.length b.length with hl | hl | hl
 ·refine qac (qac (qad (fun n k=>by simp -implicitDefEqProofs (disch:=omega) only[go_sem,reduceIte,Nat.reduceEqDiff,qae,List.getD_cons_zero,List.getD_cons_succ,qam ha,qam hb,qaQ];rfl) ?_))
  refine qan sS ?_
  refine qac (qad (fun n k=>by simp -implicitDefEqProofs (disch:=omega) only[go_sem,reduceIte,Nat.reduceEqDiff,qae,List.getD_cons_zero,List.getD_cons_succ,qam ha,qam hb,qeC];rfl) ?_)
  refine qai (hQ _ _ (qaX (v:=.int .i64 (.negSucc 0)) sS (Ex1.int _ _ _) rfl rfl) ?_)
  unfold Qb9
  rw[if_pos (qbG (by decide) da cb hl)]
 ·refine qac (qac (qad (fun n k=>by simp -implicitDefEqProofs (disch:=omega) only[go_sem,reduceIte,Nat.reduceEqDiff,qae,List.getD_cons_zero,List.getD_cons_succ,qam ha,qam hb,qaY];rfl) ?_))
  refine qaj sS (qag ?_)
  refine qac (qac (qad (fun n k=>by simp -implicitDefEqProofs (disch:=omega) only[go_sem,reduceIte,Nat.reduceEqDiff,qae,List.getD_cons_zero,List.getD_cons_succ,qam ha,qgG];rfl) ?_))
  refine qaP (fun m s=>m≤a.length∧gt s.tm 5=.int .i64 (dn m)∧a.drop m=b.drop m∧gt s.tm 0=va∧gt s.tm 1=vb∧s.hp=⟨h.rows,none,h.mods⟩) a.length ⟨Nat.le_refl _,sS,?_,(by simp -implicitDefEqProofs (disch:=omega) only[go_sem,reduceIte,Nat.reduceEqDiff,qae,List.getD_cons_zero]),sSG,rfl⟩ ?_
  ·rw[List.drop_eq_nil_of_le (Nat.le_refl _),List.drop_eq_nil_of_le (by omega)]
  intro m s ⟨hm,h5,he,h0,h1,hhp⟩
  cases m with
  | zero =>
   refine qac (qac (qad (fun n k=>by simp -implicitDefEqProofs (disch:=omega) only[go_sem,reduceIte,Nat.reduceEqDiff,h5,dn];rfl) ?_))
   refine qaj sS (qax ?_)
   rw[if_pos rfl]
   refine sR ?_
   refine qai (hQ _ _ (qaX (v:=.int .i64 (.ofNat 0)) sS (Ex1.int _ _ _) (by rw[hhp]) rfl) ?_)
   have e:a=b:=by simpa using he
   subst e
   simp[Qb9]
  | succ i =>
   have h5':gt s.tm 5=.int .i64 (.ofNat i):=h5
   refine qac (qac (qad (fun n k=>by simp -implicitDefEqProofs (disch:=omega) only[go_sem,reduceIte,Nat.reduceEqDiff,h5',qaQ];rfl) ?_))
   refine qan sS (qag ?_)
   refine qac (qaq (qaq ?_))
   refine qac (qad (fun n k=>by simp -implicitDefEqProofs (disch:=omega) only[go_sem,reduceIte,Nat.reduceEqDiff,h0,h1,h5',qj0 ha,qj0 hb];rfl) ?_)
   refine qaU (by simp only[qal,reduceIte];rfl) (fun hx=>?_) (fun hx=>?_)
   ·refine sR ?_
    refine qai (hQ _ _ (qaX (v:=.int .i64 (.negSucc 0)) sS (Ex1.int _ _ _) (by rw[hhp]) rfl) ?_)
    unfold Qb9
    rw[if_pos (qfN (by decide) da (by omega) (by omega) he hx)]
   ·refine qac (qad (fun n k=>by simp -implicitDefEqProofs (disch:=omega) only[go_sem,reduceIte,Nat.reduceEqDiff,h0,h1,h5',qj0 ha,qj0 hb];rfl) ?_)
    refine qaU (by simp only[qal,reduceIte];rfl) (fun hy=>?_) (fun hy=>qag ?_)
    ·refine sR ?_
     refine qai (hQ _ _ (qaX (v:=.int .i64 (.ofNat 1)) sS (Ex1.int _ _ _) (by rw[hhp]) rfl) ?_)
     have hlt:=qfN (B:=B) (by decide) db (by omega) (by omega) he.symm hy
     unfold Qb9
     rw[if_neg (by omega),if_pos hlt]
    ·refine qad (fun n k=>by simp -implicitDefEqProofs (disch:=omega) only[go_sem,reduceIte,Nat.reduceEqDiff,h5',qgG];rfl) ?_
     refine⟨i,by omega,by omega,sS,?_,(sS1 h0),(sS1 h1),hhp⟩
     rw[qeF a i,qeF b i,if_pos (by omega),if_pos (by omega),he]
     congr 1
     omega
 ·refine qac (qac (qad (fun n k=>by simp -implicitDefEqProofs (disch:=omega) only[go_sem,reduceIte,Nat.reduceEqDiff,qae,List.getD_cons_zero,List.getD_cons_succ,qam ha,qam hb,qaQ];rfl) ?_))
  refine qan sS ?_
  have hmin:min (a.length - b.length) 1=1:=by omega
  refine qac (qad (fun n k=>by simp -implicitDefEqProofs (disch:=omega) only[go_sem,reduceIte,Nat.reduceEqDiff,qae,List.getD_cons_zero,List.getD_cons_succ,qam ha,qam hb,hmin];rfl) ?_)
  refine qai (hQ _ _ (qaX (v:=.int .i64 (.ofNat 1)) sS (Ex1.int _ _ _) rfl rfl) ?_)
  have hlt:=qbG (B:=B) (by decide) db ca hl
  unfold Qb9
  rw[if_neg (by omega),if_pos hlt]
theorem tbl73:tbl 73=some ⟨rc73,[.tmp 4]⟩:=by kernel_rfl
structure I73(va vb:V)(a b:List Nat)(h:Hp)(m:Nat)(s:St)(i n:Nat)(out:List Nat):Prop where
 m:m+i=a.length
 h1:gt s.tm 1=vb
 h10:gt s.tm 10=va
 h11:gt s.tm 11=.int .i64 (.ofNat a.length)
 h12:gt s.tm 12=.int .i64 (.ofNat i)
 h6:gt s.tm 6=.int .u32 (.ofNat n)
 hp:s.hp=h
 h5:Ar s.loc 35 (gt s.tm 5) .u32 out
 len:out.length=i
 dg:Dg B out
 n1:n≤1
 v:vl B (a.take i)+B ^ i*n=vl B out+vl B (b.take i)
theorem qmE{B:Nat}{out:List Nat}{i n x y d c p q:Nat}(hl:out.length=i)(hv:p+B ^ i*n=vl B out+q)(he:x+B*c=d+y+n):(p+B ^ i*x)+B ^ (i+1)*c=vl B (out++[d])+(q+B ^ i*y):=by
 rw[qaZ,qdd,hl,Nat.pow_succ,Nat.mul_assoc]
 have h1:B ^ i*(x+B*c)=B ^ i*(d+y+n):=by rw[he]
 simp only[Nat.mul_add]at h1
 omega
theorem qfb{va vb:V}{a b:List Nat}(ha:Sl .u32 va a)(hb:Sl .u32 vb b)(da:Dg B a)(db:Dg B b)(la:a.length≤1000000)(lb:b.length≤a.length)(hle:vl B b≤vl B a) :
  Gives 73 [va,vb] fun r=>∃ c,Sl .u32 r c∧Dg B c∧vl B c+vl B b=vl B a∧c.length=a.length:=by
 refine qak tbl73 fun h Q hQ=>?_
 unfold rc73
 refine sR ?_
 refine sR ?_
 refine sR ?_
 refine qac (qac (qad (fun n k=>by simp -implicitDefEqProofs (disch:=omega) only[go_sem,reduceIte,Nat.reduceEqDiff,qae,List.getD_cons_zero,List.getD_cons_succ,qam ha];rfl) ?_))
 refine qaP (fun m s=>∃ i n out,I73 va vb a b ⟨h.rows,none,h.mods⟩ m s i n out) a.length ⟨0,0,[],rfl,sSG,(by simp -implicitDefEqProofs (disch:=omega) only[go_sem,reduceIte,Nat.reduceEqDiff,qae,List.getD_cons_zero]),sS,sS,sS,rfl,.inl ⟨rfl,sS⟩,rfl,Dg.nil B,by decide,by simp[vl]⟩ ?_
 intro m s ⟨i,n,out,hm,h1,h10,h11,h12,h6,hhp,h5,hlen,hdg,hn,hv⟩
 refine sR2 h11 h12 ?_
 refine qac (qaU (by simp only[qal,reduceIte];rfl) (fun hi=>qag ?_) (fun hi=>qax ?_))
 ·have da1:a.getD i 0<4294967296:=da.get (by decide) i
  have db1:b.getD i 0<4294967296:=db.get (by decide) i
  refine qac (qaq ?_)
  refine qac (qad (fun n k=>by simp -implicitDefEqProofs (disch:=omega) only[go_sem,reduceIte,Nat.reduceEqDiff,h10,h12,qj0 ha];rfl) ?_)
  refine sR ?_
  refine qau (M:=fun s1=>gt s1.tm 9=.int .u32 (.ofNat (b.getD i 0))∧gt s1.tm 8=.int .u32 (.ofNat (a.getD i 0))∧Kp [1,5,6,10,11,12] s.tm s1.tm∧s1.loc=s.loc∧s1.hp=s.hp) ?_ (fun s1 ⟨a9,a8,ak,al,ah⟩=>?_)
  ·refine qac (qad (fun n k=>by simp -implicitDefEqProofs (disch:=omega) only[go_sem,reduceIte,Nat.reduceEqDiff,h1,qam hb];rfl) ?_)
   refine qaU (by simp only[qal,reduceIte];rfl) (fun hia=>?_) (fun hia=>qag ?_)
   ·refine qad (fun n k=>by simp -implicitDefEqProofs (disch:=omega) only[go_sem,reduceIte,Nat.reduceEqDiff,h1,qj0 hb];rfl) ?_
    exact⟨sS,sS,(by(try dsimp only);repeat (first | with_reducible exact qaH _ _ | with_reducible refine qbh (by decide) ?_)),rfl,rfl⟩
   ·exact⟨(by simp -implicitDefEqProofs (disch:=omega) only[go_sem,reduceIte,Nat.reduceEqDiff,qbR hia]),sS,(by(try dsimp only);repeat (first | with_reducible exact qaH _ _ | with_reducible refine qbh (by decide) ?_)),rfl,rfl⟩
  have k5:=ak 5 (by decide);have k6:=(ak 6 (by decide)).trans h6;have k12:=(ak 12 (by decide)).trans h12
  obtain⟨r,hr,d,c,hrr,hd,hc,he⟩:=qmn da1 db1 hn s1.hp
  subst hrr
  obtain⟨v5,l5,happ,hAr,hfr⟩:=qsS d h5 (by omega)
  refine qac (qaf (hr) (fun n hn k=>by simp -implicitDefEqProofs (disch:=omega) only[go_sem,reduceIte,Nat.reduceEqDiff,a8,a9,k6,qxQ hn (Ex1.int _ _) (Ex1.int _ _) (Ex1.int _ _)];rfl) ?_)
  refine qad (fun n k=>by simp -implicitDefEqProofs (disch:=omega) only[go_sem,reduceIte,Nat.reduceEqDiff,k5,al,happ];rfl) ?_
  refine sE1 k12 ?_
  refine⟨m - 1,by omega,i+1,c,out++[d],by omega,?_,?_,?_,sS,sS,ah.trans hhp,?_,by simp[hlen],hdg.snoc hd,hc,?_⟩
  ·exact(by simp -implicitDefEqProofs (disch:=omega) only[go_sem,reduceIte,Nat.reduceEqDiff,ak 1 (by decide),h1])
  ·exact(by simp -implicitDefEqProofs (disch:=omega) only[go_sem,reduceIte,Nat.reduceEqDiff,ak 10 (by decide),h10])
  ·exact(by simp -implicitDefEqProofs (disch:=omega) only[go_sem,reduceIte,Nat.reduceEqDiff,ak 11 (by decide),h11])
  ·dsimp only
   rw[show ∀ t,gt (pt (pt t 5 v5) 12 (.int .i64 (.ofNat (i+1)))) 5=v5 from fun t=>sS]
   exact hAr
  ·rw[qaA,qaA]
   exact qmE hlen hv he
 ·rw[if_pos rfl]
  refine sR ?_
  obtain⟨r,l',hex,hsl,_⟩:=qtd h5
  rw[qdC _ _ _ (by omega),qdC _ _ _ (by omega)]at hv
  have hlt:=qaV (B:=B) (by decide) hdg (k:=i) (by omega)
  have hn0:n=0:=by
   rcases Nat.eq_zero_or_pos n with h0 | h0
   ·exact h0
   ·exfalso
    have:B ^ i*1≤B ^ i*n:=Nat.mul_le_mul_left _ h0
    omega
  subst hn0
  exact qai (hQ _ r (qaX (v:=gt s.tm 5) sS (hex _ _) (by rw[hhp]) hsl.Qao) ⟨out,hsl,hdg,by simpa using hv.symm,by omega⟩)
def zv(d:List Nat)(b:Bool):Int:=bif b then -(vl B d:Int)else (vl B d:Int)
def IsI(k:Nat)(v:V)(z:Int):Prop:=∃ d b,NI v d b∧z=zv d b∧d.length≤k
theorem IsI.mono{k l:Nat}{v:V}{z:Int}(h:IsI k v z)(hl:k≤l):IsI l v z:=by
 obtain⟨d,b,h1,h2,h3⟩:=h
 exact⟨d,b,h1,h2,by omega⟩
theorem NI.quiet{v:V}{d:List Nat}{b:Bool}(h:NI v d b):AM.quiet v=true:=by
 obtain⟨⟨s,rfl,hs⟩,_⟩:=h
 rcases hs with ⟨f,rfl⟩ | ⟨rfl,_⟩<;>rfl
theorem NI.ex{v:V}{d:List Nat}{b:Bool}(h:NI v d b):Ex1 v:=by
 obtain⟨⟨s,rfl,hs⟩,_⟩:=h
 exact fun st=>qda (by intro u hu;simp at hu;rcases hu with rfl | rfl;exact hs.pl;exact Pl.bool _) st
theorem Sl.quiet{k:IntKind}{v:V}{d:List Nat}(h:Sl k v d):AM.quiet v=true:=by
 rcases h with ⟨f,rfl⟩ | ⟨rfl,_⟩<;>rfl
theorem qeV{d:List Nat}(hc:Cn d):vl B d=0↔d=[]:=by
 constructor
 ·intro h
  rcases Classical.em (d=[])with e | e
  ·exact e
  ·have h1:=qnq (B:=B) hc e
   have h2:0<B ^ (d.length - 1):=Nat.pow_pos (by decide)
   omega
 ·intro h;subst h;rfl
theorem qhq{d:List Nat}{b:Bool}(hc:Cn d)(h0:d=[]→b=false):zv d b<0↔b=true:=by
 cases b with
 | false=>simp only[zv,cond_false,Bool.false_eq_true,iff_false];omega
 | true =>
  have:d≠[]:=fun e=>by have:=h0 e;cases this
  have h1:vl B d≠0:=fun e=>this ((qeV hc).1 e)
  simp only[zv,cond_true,iff_true];omega
theorem tbl31:tbl 31=some ⟨rc31,[.cell 2 26]⟩:=by kernel_rfl
theorem exI{s:V}{d:List Nat}(hs:Sl .u32 s d)(b:Bool):Ex1 (.agg [s,.bool b]):=fun st=>qda (by intro u hu;simp at hu;rcases hu with rfl | rfl;exact hs.pl;exact Pl.bool _) st
theorem qfV{k:Nat}{va:V}{x:Int}(ha:IsI k va x)(hk:k≤1000000):Gives 31 [va] fun r=>IsI k r (-x):=by
 obtain⟨d,b,⟨⟨s,rfl,hs⟩,dd,cd,h0⟩,hx,hl⟩:=ha
 refine qak tbl31 fun h Q hQ=>?_
 unfold rc31
 refine sRG ?_
 obtain⟨r,hr,e,⟨⟨s2,rfl,hs2⟩,de,ce,he0⟩,ht⟩:=qa3 hs dd (by omega) (!b) ⟨h.rows,none,h.mods⟩
 have hlen:=ht.len
 refine qac (qaf (hr) (fun n hn k=>by simp -implicitDefEqProofs (disch:=omega) only[go_sem,reduceIte,Nat.reduceEqDiff,qae,List.getD_cons_zero,List.getD_cons_succ,qar L24,qao L4,qb5 hn hs.ex (Ex1.bool _),qah N26 1 s2 (.bool (!b && !e.isEmpty)) .nils (.bool false) _ hs2.pl.ok rfl];rfl) ?_)
 refine qai (hQ _ _ (qaW (x:=s2) (y:=.bool (!b && !e.isEmpty)) (f:=false) (d:=2) (g:=1) (by kernel_rfl) sS sS hs2.pl (Pl.bool _) rfl) ⟨e,_,⟨⟨s2,rfl,hs2⟩,de,ce,he0⟩,?_,by omega⟩)
 subst hx
 have hv:=ht.vl B
 unfold zv
 cases b with
 | true=>simp[hv]
 | false =>
  cases e with
  | nil=>simp[←hv,vl]
  | cons y l=>simp[hv]
theorem tbl77:tbl 77=some ⟨rc77,[.tmp 2]⟩:=by kernel_rfl
theorem qhr(b:Bool):Gives 77 [.bool b] fun r=>r=.int .i64 (.ofNat (bif b then 1 else 0)):=by
 refine qak tbl77 fun h Q hQ=>?_
 unfold rc77
 refine sR ?_
 cases b with
 | true =>
  refine sQG ?_
  refine qan sS ?_
  refine sR ?_
  exact qai (hQ _ _ (qaX (v:=.int .i64 (.ofNat 1)) sS (Ex1.int _ _ _) rfl rfl) rfl)
 | false =>
  refine sQG ?_
  refine qaj sS (qag ?_)
  refine sR ?_
  exact qai (hQ _ _ (qaX (v:=.int .i64 (.ofNat 0)) sS (Ex1.int _ _ _) rfl rfl) rfl)
def Qcy(x y:Int):Int:=if x<y then .negSucc 0 else if y<x then .ofNat 1 else .ofNat 0
theorem tbl33:tbl 33=some ⟨rc33,[.tmp 4]⟩:=by kernel_rfl
theorem qi0(t:TypeId)(cn:Bool)(a b:Bool)(h:Pg.underlying t=some .bool):bin Pg .eql t cn (.bool a) (.bool b)=some (.bool (a == b)):=by
 show F.eqV .eql (Pg.underlying t) cn (.bool a) (.bool b)=_
 rw[h];rfl
theorem qdB(t:TypeId)(cn:Bool)(a b:Bool)(h:Pg.underlying t=some .bool):bin Pg .neq t cn (.bool a) (.bool b)=some (.bool (!(a == b))):=by
 show F.eqV .neq (Pg.underlying t) cn (.bool a) (.bool b)=_
 rw[h];rfl
theorem qmc{k l:Nat}{va vb:V}{x y:Int}(ha:IsI k va x)(hb:IsI l vb y)(hk:k≤1000000)(hl:l≤1000000):Gives 33 [va,vb] fun r=>r=.int .i64 (Qcy x y):=by
 obtain⟨d,b,⟨⟨s,rfl,hs⟩,dd,cd,h0⟩,rfl,hdl⟩:=ha
 obtain⟨e,c,⟨⟨u,rfl,hu⟩,de,ce,he0⟩,rfl,hel⟩:=hb
 have n1:=qhq cd h0
 have n2:=qhq ce he0
 refine qak tbl33 fun h Q hQ=>?_
 unfold rc33
 refine sRG ?_
 have done:∀ (t:Tm) (lo:Lo) (z:Int),z=Qcy (zv d b) (zv e c)→Q ⟨pt t 4 (.int .i64 z),lo,⟨h.rows,none,h.mods⟩⟩:=fun t lo z hz=>by
  subst hz
  exact hQ _ _ (qaX (v:=.int .i64 (Qcy (zv d b) (zv e c))) sS (Ex1.int _ _ _) rfl rfl) rfl
 cases b with
 | true =>
  cases c with
  | true =>
   have neb:bin Pg .neq 4 false (.bool true) (.bool true)=some (.bool false):=qdB 4 false true true U4
   refine qac (qaq ?_)
   refine qac (qad (fun n k=>by simp -implicitDefEqProofs (disch:=omega) only[go_sem,reduceIte,Nat.reduceEqDiff,qae,List.getD_cons_zero,List.getD_cons_succ,qao L4,neb];rfl) ?_)
   refine qaj sS ?_
   refine qac (qad (fun n k=>by simp -implicitDefEqProofs (disch:=omega) only[go_sem,reduceIte,Nat.reduceEqDiff,qae,List.getD_cons_zero,List.getD_cons_succ,qao L4];rfl) ?_)
   refine qan sS ?_
   obtain⟨r,hr,rfl⟩:=qbZ hu hs de dd ce cd (by omega) (by omega) ⟨h.rows,none,h.mods⟩
   refine qac (qaf (hr) (fun n hn k=>by simp -implicitDefEqProofs (disch:=omega) only[go_sem,reduceIte,Nat.reduceEqDiff,qae,List.getD_cons_zero,List.getD_cons_succ,qar L24,qb5 hn hu.ex hs.ex];rfl) ?_)
   refine qai (done _ _ _ ?_)
   unfold Qb9 Qcy zv
   simp only[cond_true]
   split<;>split<;>first | rfl | omega | (split<;>first | rfl | omega)
  | false =>
   have neb:bin Pg .neq 4 false (.bool true) (.bool false)=some (.bool true):=qdB 4 false true false U4
   refine qac (qaq ?_)
   refine qac (qad (fun n k=>by simp -implicitDefEqProofs (disch:=omega) only[go_sem,reduceIte,Nat.reduceEqDiff,qae,List.getD_cons_zero,List.getD_cons_succ,qao L4,neb];rfl) ?_)
   refine qan sS ?_
   obtain⟨r,hr,rfl⟩:=qhr true ⟨h.rows,none,h.mods⟩
   refine qac (qaf (hr) (fun n hn k=>by simp -implicitDefEqProofs (disch:=omega) only[go_sem,reduceIte,Nat.reduceEqDiff,qae,List.getD_cons_zero,List.getD_cons_succ,qao L4,qcG hn (Ex1.bool _),cond_true,Nat.mul_one,qeC,Nat.reduceSub];rfl) ?_)
   refine qai (done _ _ _ ?_)
   have h1:=n1.2 rfl
   have h2:¬zv e false<0:=fun h=>by have:=n2.1 h;cases this
   unfold Qcy
   rw[if_pos (by omega)]
 | false =>
  cases c with
  | true =>
   have neb:bin Pg .neq 4 false (.bool false) (.bool true)=some (.bool true):=qdB 4 false false true U4
   refine qac (qaq ?_)
   refine qac (qad (fun n k=>by simp -implicitDefEqProofs (disch:=omega) only[go_sem,reduceIte,Nat.reduceEqDiff,qae,List.getD_cons_zero,List.getD_cons_succ,qao L4,neb];rfl) ?_)
   refine qan sS ?_
   obtain⟨r,hr,rfl⟩:=qhr false ⟨h.rows,none,h.mods⟩
   refine qac (qaf (hr) (fun n hn k=>by simp -implicitDefEqProofs (disch:=omega) only[go_sem,reduceIte,Nat.reduceEqDiff,qae,List.getD_cons_zero,List.getD_cons_succ,qao L4,qcG hn (Ex1.bool _),cond_false,Nat.mul_zero,Nat.reduceSub];rfl) ?_)
   refine qai (done _ _ _ ?_)
   have h1:=n2.2 rfl
   have h2:¬zv d false<0:=fun h=>by have:=n1.1 h;cases this
   unfold Qcy
   rw[if_neg (by omega),if_pos (by omega)]
  | false =>
   have neb:bin Pg .neq 4 false (.bool false) (.bool false)=some (.bool false):=qdB 4 false false false U4
   refine qac (qaq ?_)
   refine qac (qad (fun n k=>by simp -implicitDefEqProofs (disch:=omega) only[go_sem,reduceIte,Nat.reduceEqDiff,qae,List.getD_cons_zero,List.getD_cons_succ,qao L4,neb];rfl) ?_)
   refine qaj sS ?_
   refine qac (qad (fun n k=>by simp -implicitDefEqProofs (disch:=omega) only[go_sem,reduceIte,Nat.reduceEqDiff,qae,List.getD_cons_zero,List.getD_cons_succ,qao L4];rfl) ?_)
   refine qaj sS (qag ?_)
   obtain⟨r,hr,rfl⟩:=qbZ hs hu dd de cd ce (by omega) (by omega) ⟨h.rows,none,h.mods⟩
   refine qac (qaf (hr) (fun n hn k=>by simp -implicitDefEqProofs (disch:=omega) only[go_sem,reduceIte,Nat.reduceEqDiff,qae,List.getD_cons_zero,List.getD_cons_succ,qar L24,qb5 hn hs.ex hu.ex];rfl) ?_)
   refine qai (done _ _ _ ?_)
   unfold Qb9 Qcy zv
   simp only[cond_false]
   split<;>split<;>first | rfl | omega | (split<;>first | rfl | omega)
theorem tbl71:tbl 71=some ⟨rc71,[.tmp 4]⟩:=by kernel_rfl
structure I71(va vb:V)(a b:List Nat)(h:Hp)(m:Nat)(s:St)(i n:Nat)(out:List Nat):Prop where
 m:m+i=max a.length b.length+1
 h0:gt s.tm 0=va
 h1:gt s.tm 1=vb
 h14:gt s.tm 14=.int .i64 (.ofNat i)
 h13:gt s.tm 13=.int .i64 (.ofNat (max a.length b.length+1))
 h6:gt s.tm 6=.int .u64 (.ofNat n)
 hp:s.hp=h
 h5:Ar s.loc 43 (gt s.tm 5) .u32 out
 len:out.length=i
 dg:Dg B out
 n1:n≤1
 v:vl B out+B ^ i*n=vl B (a.take i)+vl B (b.take i)
theorem qnY{va vb:V}{a b:List Nat}(ha:Sl .u32 va a)(hb:Sl .u32 vb b)(da:Dg B a)(db:Dg B b)(la:a.length≤1000000)(lb:b.length≤1000000) :
  Gives 71 [va,vb] fun r=>∃ c,Sl .u32 r c∧Dg B c∧vl B c=vl B a+vl B b∧c.length=max a.length b.length+1:=by
 refine qak tbl71 fun h Q hQ=>?_
 unfold rc71
 refine sR ?_
 refine sR ?_
 refine sR ?_
 refine qac (qac (qad (fun n k=>by simp -implicitDefEqProofs (disch:=omega) only[go_sem,reduceIte,Nat.reduceEqDiff,qae,List.getD_cons_zero,List.getD_cons_succ,qam ha,qam hb];rfl) ?_))
 refine qaP (fun m s=>∃ i n out,I71 va vb a b ⟨h.rows,none,h.mods⟩ m s i n out) (max a.length b.length+1) ⟨0,0,[],rfl,(by simp -implicitDefEqProofs (disch:=omega) only[go_sem,reduceIte,Nat.reduceEqDiff,qae,List.getD_cons_zero]),sSG,sS,sS,sS,rfl,.inl ⟨rfl,sS⟩,rfl,Dg.nil B,by decide,by simp[vl]⟩ ?_
 intro m s ⟨i,n,out,hm,h0,h1,h14,h13,h6,hhp,h5,hlen,hdg,hn,hv⟩
 refine sR2 h14 h13 ?_
 refine qac (qaU (by simp only[qal,reduceIte];rfl) (fun hi=>qag ?_) (fun hi=>qax ?_))
 ·have da1:a.getD i 0<4294967296:=da.get (by decide) i
  have db1:b.getD i 0<4294967296:=db.get (by decide) i
  obtain⟨v5,l5,happ,hAr,hfr⟩:=qsT ((n+a.getD i 0+b.getD i 0) % 4294967296) h5 (by omega)
  refine qac (qaq ?_)
  refine sR1 h14 ?_
  refine qau (M:=fun s1=>gt s1.tm 6=.int .u64 (.ofNat (n+a.getD i 0))∧gt s1.tm 7=.int .i64 (.ofNat i)∧Kp [0,1,5,13,14] s.tm s1.tm∧s1.loc=s.loc∧s1.hp=s.hp) ?_ (fun s1 ⟨a6,a7,ak,al,ah⟩=>?_)
  ·refine qac (qad (fun n k=>by simp -implicitDefEqProofs (disch:=omega) only[go_sem,reduceIte,Nat.reduceEqDiff,h0,qam ha];rfl) ?_)
   refine qaU (by simp only[qal,reduceIte];rfl) (fun hia=>?_) (fun hia=>qag ?_)
   ·refine qad (fun n k=>by simp -implicitDefEqProofs (disch:=omega) only[go_sem,reduceIte,Nat.reduceEqDiff,h0,h6,qj0 ha];rfl) ?_
    exact⟨sS,sS,(by(try dsimp only);repeat (first | with_reducible exact qaH _ _ | with_reducible refine qbh (by decide) ?_)),rfl,rfl⟩
   ·exact⟨(by simp -implicitDefEqProofs (disch:=omega) only[go_sem,reduceIte,Nat.reduceEqDiff,h6,qbR hia,Nat.add_zero]),sS,(by(try dsimp only);repeat (first | with_reducible exact qaH _ _ | with_reducible refine qbh (by decide) ?_)),rfl,rfl⟩
  have k5:=ak 5 (by decide);have k1:=ak 1 (by decide);have k14:=ak 14 (by decide)
  refine qau (M:=fun s2=>gt s2.tm 6=.int .u64 (.ofNat (n+a.getD i 0+b.getD i 0))∧Kp [0,1,5,13,14] s1.tm s2.tm∧s2.loc=s.loc∧s2.hp=s.hp) ?_ (fun s2 ⟨b6,bk,bl,bh⟩=>?_)
  ·refine qac (qad (fun n k=>by simp -implicitDefEqProofs (disch:=omega) only[go_sem,reduceIte,Nat.reduceEqDiff,k1,h1,a7,qam hb];rfl) ?_)
   refine qaU (by simp only[qal,reduceIte];rfl) (fun hia=>?_) (fun hia=>qag ?_)
   ·refine qad (fun n k=>by simp -implicitDefEqProofs (disch:=omega) only[go_sem,reduceIte,Nat.reduceEqDiff,k1,h1,a6,a7,qj0 hb];rfl) ?_
    exact⟨sS,(by(try dsimp only);repeat (first | with_reducible exact qaH _ _ | with_reducible refine qbh (by decide) ?_)),al,ah⟩
   ·exact⟨(by simp -implicitDefEqProofs (disch:=omega) only[go_sem,reduceIte,Nat.reduceEqDiff,a6,qbR hia,Nat.add_zero]),(by(try dsimp only);repeat (first | with_reducible exact qaH _ _ | with_reducible refine qbh (by decide) ?_)),al,ah⟩
  have j5:=(bk 5 (by decide)).trans k5;have j14:=(bk 14 (by decide)).trans (k14.trans h14)
  refine qac (qad (fun n k=>by simp -implicitDefEqProofs (disch:=omega) only[go_sem,reduceIte,Nat.reduceEqDiff,b6,j5,bl,qbB,happ];rfl) ?_)
  refine qad (fun n k=>by simp -implicitDefEqProofs (disch:=omega) only[go_sem,reduceIte,Nat.reduceEqDiff,b6,Nat.reducePow];rfl) ?_
  refine sE1 j14 ?_
  refine⟨m - 1,by omega,i+1,(n+a.getD i 0+b.getD i 0) / 4294967296,out++[(n+a.getD i 0+b.getD i 0) % 4294967296],by omega,?_,?_,sS,?_,sS,bh.trans hhp,?_,by simp[hlen],hdg.snoc (Nat.mod_lt _ (by decide)),by omega,?_⟩
  ·exact(by simp -implicitDefEqProofs (disch:=omega) only[go_sem,reduceIte,Nat.reduceEqDiff,bk 0 (by decide),ak 0 (by decide),h0])
  ·exact(by simp -implicitDefEqProofs (disch:=omega) only[go_sem,reduceIte,Nat.reduceEqDiff,bk 1 (by decide),k1,h1])
  ·exact(by simp -implicitDefEqProofs (disch:=omega) only[go_sem,reduceIte,Nat.reduceEqDiff,bk 13 (by decide),ak 13 (by decide),h13])
  ·have e:gt (pt (pt (pt s2.tm 5 v5) 6 (V.int IntKind.u64 (Int.ofNat ((n+a.getD i 0+b.getD i 0) / 4294967296)))) 14 (V.int IntKind.i64 (Int.ofNat (i+1)))) 5=v5:=sS
   rw[e];exact hAr
  ·rw[qaA,qaA]
   exact qnX (by decide) hlen hv
 ·rw[if_pos rfl]
  refine sR ?_
  obtain⟨r,l',hex,hsl,_⟩:=qtd h5
  rw[qdC _ _ _ (by omega),qdC _ _ _ (by omega)]at hv
  have hn0:=qpY (k:=max a.length b.length) (by omega) (by decide) (qaV (by decide) da (by omega)) (qaV (by decide) db (by omega)) hv
  refine qai (hQ _ r (qaX (v:=gt s.tm 5) sS (hex _ _) (by rw[hhp]) hsl.Qao) ⟨out,hsl,hdg,by rw[hn0]at hv;simpa using hv,by omega⟩)
theorem tbl35:tbl 35=some ⟨rc35,[.tmp 2]⟩:=by kernel_rfl
theorem tbl25:tbl 25=some ⟨rc25,[.cell 4 26]⟩:=by kernel_rfl
theorem tbl27:tbl 27=some ⟨rc27,[.cell 4 26]⟩:=by kernel_rfl
theorem Qdr:IsI 0 (.agg [.nils,.bool false]) 0:=⟨[],false,⟨⟨.nils,rfl,.inr ⟨rfl,rfl⟩⟩,Dg.nil B,fun i h=>by simp at h,fun _=>rfl⟩,rfl,Nat.le_refl _⟩
def sgn(x:Int):Int:=Qcy x 0
theorem qdk{k:Nat}{va:V}{x:Int}(ha:IsI k va x)(hk:k≤1000000):Gives 35 [va] fun r=>r=.int .i64 (sgn x):=by
 have ha0:=ha
 obtain⟨d,b,⟨⟨s,rfl,hs⟩,dd,cd,h0⟩,hx,hdl⟩:=ha
 refine qak tbl35 fun h Q hQ=>?_
 unfold rc35
 refine sRG ?_
 obtain⟨r,hr,rfl⟩:=qmc ha0 Qdr hk (by omega) ⟨h.rows,none,h.mods⟩
 refine qac (qaf (hr) (fun n hn k=>by simp -implicitDefEqProofs (disch:=omega) only[go_sem,reduceIte,Nat.reduceEqDiff,qae,List.getD_cons_zero,List.getD_cons_succ,qaz L26,qb5 hn (exI hs b) (exI (.inr ⟨rfl,rfl⟩) false)];rfl) ?_)
 exact qai (hQ _ _ (qaX (v:=.int .i64 (Qcy x 0)) sS (Ex1.int _ _ _) rfl rfl) rfl)
theorem qtq{d e f:List Nat}{b:Bool}(hf:vl B f=vl B d+vl B e):zv f (b && !f.isEmpty)=zv d b+zv e b:=by
 cases b with
 | false=>simp only[zv,Bool.false_and,cond_false];omega
 | true =>
  cases f with
  | nil=>simp only[vl]at hf;simp only[zv,Bool.true_and,List.isEmpty_nil,Bool.not_true,cond_false,cond_true,vl];omega
  | cons x l=>simp only[zv,Bool.true_and,List.isEmpty_cons,Bool.not_false,cond_true];omega
theorem qnm{d e f:List Nat}{b:Bool}(hf:vl B f+vl B e=vl B d):zv f (b && !f.isEmpty)=zv d b+zv e (!b):=by
 cases b with
 | false=>simp only[zv,Bool.false_and,cond_false,Bool.not_false,cond_true];omega
 | true =>
  cases f with
  | nil=>simp only[vl]at hf;simp only[zv,Bool.true_and,List.isEmpty_nil,Bool.not_true,cond_false,cond_true,vl];omega
  | cons x l=>simp only[zv,Bool.true_and,List.isEmpty_cons,Bool.not_false,cond_true,Bool.not_true,cond_false];omega
theorem qi2{k l:Nat}{va vb:V}{x y:Int}(ha:IsI k va x)(hb:IsI l vb y)(hk:k≤1000000)(hl:l≤1000000):Gives 25 [va,vb] fun r=>IsI (max k l+1) r (x+y):=by
 obtain⟨d,b,⟨⟨s,rfl,hs⟩,dd,cd,h0⟩,rfl,hdl⟩:=ha
 obtain⟨e,c,⟨⟨u,rfl,hu⟩,de,ce,he0⟩,rfl,hel⟩:=hb
 refine qak tbl25 fun h Q hQ=>?_
 unfold rc25
 refine sRG ?_
 refine qac (qaq ?_)
 have fin:∀ (s2:V) (f:List Nat) (g:Bool) (st:St),NI (.agg [s2,.bool g]) f g→zv f g=zv d b+zv e c→f.length≤max k l+1→gt st.tm 4=.ptr (.loc 4 1) 0→lg st.loc 4=(1,.cells false [s2,.bool g])→st.hp=⟨h.rows,none,h.mods⟩→Q st:=by
  intro s2 f g st hn hz hf h4 hr hh
  obtain⟨⟨s3,e3,hs3⟩,q⟩:=hn
  obtain rfl:s2=s3:=by simpa using e3
  exact hQ _ _ (qaW (x:=s2) (y:=.bool g) (f:=false) (d:=4) (g:=1) (by kernel_rfl) h4 hr hs3.pl (Pl.bool _) (by rw[hh])) ⟨f,g,⟨⟨s2,rfl,hs3⟩,q⟩,hz.symm,hf⟩
 by_cases hbc:b=c
 ·subst hbc
  have eqb:bin Pg .eql 4 false (.bool b) (.bool b)=some (.bool true):=by rw[qi0 4 false b b U4,beq_self_eq_true]
  refine qac (qad (fun n k=>by simp -implicitDefEqProofs (disch:=omega) only[go_sem,reduceIte,Nat.reduceEqDiff,qae,List.getD_cons_zero,List.getD_cons_succ,qao L4,eqb];rfl) ?_)
  refine qan sS ?_
  obtain⟨p,hp,m,hm,dm,hvm,hlm⟩:=qnY hs hu dd de (by omega) (by omega) ⟨h.rows,none,h.mods⟩
  obtain⟨r,hr,f,⟨⟨s2,rfl,hs2⟩,df,cf,hf0⟩,ht⟩:=qa3 hm dm (by omega) b ⟨h.rows,none,h.mods⟩
  have hlen:=ht.len
  refine qac (qaf (hp.and hr) (fun n hn k=>by
   simp -implicitDefEqProofs (disch:=omega) only[go_sem,reduceIte,Nat.reduceEqDiff,qae,List.getD_cons_zero,List.getD_cons_succ,qar L24,qao L4,qbl hn.1 hs.ex hu.ex hs.quiet hu.quiet,qbl hn.2 hm.ex (Ex1.bool _) hm.quiet rfl,qah N26 1 s2 (.bool (b && !f.isEmpty)) .nils (.bool false) _ hs2.pl.ok rfl]
   exact qav (by kernel_rfl)) ?_)
  exact qai (fin s2 f _ _ ⟨⟨s2,rfl,hs2⟩,df,cf,hf0⟩ (qtq (by rw[ht.vl,hvm])) (by omega) sS sS rfl)
 ·have ec:c = !b:=by cases b<;>cases c<;>first | rfl | exact absurd rfl hbc
  have eqb:bin Pg .eql 4 false (.bool b) (.bool c)=some (.bool false):=by
   rw[qi0 4 false b c U4,ec];cases b<;>rfl
  refine qac (qad (fun n k=>by simp -implicitDefEqProofs (disch:=omega) only[go_sem,reduceIte,Nat.reduceEqDiff,qae,List.getD_cons_zero,List.getD_cons_succ,qao L4,eqb];rfl) ?_)
  refine qaj sS ?_
  obtain⟨q,hq,rfl⟩:=qbZ hs hu dd de cd ce (by omega) (by omega) ⟨h.rows,none,h.mods⟩
  rcases Nat.lt_or_ge (vl B d) (vl B e)with hlt | hge
  ·have hcmp:Qb9 (vl B d) (vl B e)=.negSucc 0:=by unfold Qb9;rw[if_pos hlt]
   rw[hcmp]at hq
   refine qac (qaf (hq) (fun n hn k=>by simp -implicitDefEqProofs (disch:=omega) only[go_sem,reduceIte,Nat.reduceEqDiff,qae,List.getD_cons_zero,List.getD_cons_succ,qar L24,qb5 hn hs.ex hu.ex];rfl) ?_)
   refine qaj sS (qag ?_)
   have hle:d.length≤e.length:=by
    rcases Nat.lt_or_ge e.length d.length with h1 | h1
    ·have:=qbG (B:=B) (by decide) de cd h1;omega
    ·exact h1
   obtain⟨p,hp,m,hm,dm,hvm,hlm⟩:=qfb hu hs de dd (by omega) hle (by omega) ⟨h.rows,none,h.mods⟩
   obtain⟨r,hr,f,⟨⟨s2,rfl,hs2⟩,df,cf,hf0⟩,ht⟩:=qa3 hm dm (by omega) c ⟨h.rows,none,h.mods⟩
   have hlen:=ht.len
   refine qac (qaf (hp.and hr) (fun n hn k=>by
    simp -implicitDefEqProofs (disch:=omega) only[go_sem,reduceIte,Nat.reduceEqDiff,qae,List.getD_cons_zero,List.getD_cons_succ,qar L24,qao L4,qbl hn.1 hu.ex hs.ex hu.quiet hs.quiet,qbl hn.2 hm.ex (Ex1.bool _) hm.quiet rfl,qah N26 1 s2 (.bool (c && !f.isEmpty)) .nils (.bool false) _ hs2.pl.ok rfl]
    exact qav (by kernel_rfl)) ?_)
   refine qai (fin s2 f _ _ ⟨⟨s2,rfl,hs2⟩,df,cf,hf0⟩ ?_ (by omega) sS sS rfl)
   rw[qnm (d:=e) (e:=d) (by rw[ht.vl,hvm]),ec,Int.add_comm]
   cases b<;>rfl
  ·have hcmp:∃ n,Qb9 (vl B d) (vl B e)=.ofNat n:=by unfold Qb9;rw[if_neg (by omega)];split<;>exact⟨_,rfl⟩
   obtain⟨n0,hcmp⟩:=hcmp
   rw[hcmp]at hq
   refine qac (qaf (hq) (fun n hn k=>by simp -implicitDefEqProofs (disch:=omega) only[go_sem,reduceIte,Nat.reduceEqDiff,qae,List.getD_cons_zero,List.getD_cons_succ,qar L24,qb5 hn hs.ex hu.ex,qaQ];rfl) ?_)
   refine qan sS ?_
   have hle:e.length≤d.length:=by
    rcases Nat.lt_or_ge d.length e.length with h1 | h1
    ·have:=qbG (B:=B) (by decide) dd ce h1;omega
    ·exact h1
   obtain⟨p,hp,m,hm,dm,hvm,hlm⟩:=qfb hs hu dd de (by omega) hle (by omega) ⟨h.rows,none,h.mods⟩
   obtain⟨r,hr,f,⟨⟨s2,rfl,hs2⟩,df,cf,hf0⟩,ht⟩:=qa3 hm dm (by omega) b ⟨h.rows,none,h.mods⟩
   have hlen:=ht.len
   refine qac (qaf (hp.and hr) (fun n hn k=>by
    simp -implicitDefEqProofs (disch:=omega) only[go_sem,reduceIte,Nat.reduceEqDiff,qae,List.getD_cons_zero,List.getD_cons_succ,qar L24,qao L4,qbl hn.1 hs.ex hu.ex hs.quiet hu.quiet,qbl hn.2 hm.ex (Ex1.bool _) hm.quiet rfl,qah N26 1 s2 (.bool (b && !f.isEmpty)) .nils (.bool false) _ hs2.pl.ok rfl]
    exact qav (by kernel_rfl)) ?_)
   refine qai (fin s2 f _ _ ⟨⟨s2,rfl,hs2⟩,df,cf,hf0⟩ ?_ (by omega) sS sS rfl)
   rw[qnm (d:=d) (e:=e) (by rw[ht.vl,hvm]),ec]
theorem IsI.form{k:Nat}{v:V}{x:Int}(h:IsI k v x):∃ s b,v=.agg [s,.bool b]∧Pl s∧Ex1 v∧quiet v=true:=by
 obtain⟨d,b,hn,_,_⟩:=h
 have h1:=hn.ex;have h2:=hn.quiet
 obtain⟨⟨s,rfl,hs⟩,_⟩:=hn
 exact⟨s,b,rfl,hs.pl,h1,h2⟩
theorem qfO{k l:Nat}{va vb:V}{x y:Int}(ha:IsI k va x)(hb:IsI l vb y)(hk:k≤1000000)(hl:l≤1000000):Gives 27 [va,vb] fun r=>IsI (max k l+1) r (x - y):=by
 obtain⟨s,b,rfl,ps,es,qs⟩:=ha.form
 obtain⟨u,c,rfl,pu,eu,qu⟩:=hb.form
 refine qak tbl27 fun h Q hQ=>?_
 unfold rc27
 refine sRG ?_
 obtain⟨p,hp,hpI⟩:=qfV hb hl ⟨h.rows,none,h.mods⟩
 obtain⟨r,hr,hrI⟩:=qi2 ha hpI hk hl ⟨h.rows,none,h.mods⟩
 obtain⟨s1,b1,rfl,ps1,es1,qs1⟩:=hpI.form
 obtain⟨s2,b2,rfl,ps2,es2,qs2⟩:=hrI.form
 refine qac (qaf (hp.and hr) (fun n hn k=>by
  simp -implicitDefEqProofs (disch:=omega) only[go_sem,reduceIte,Nat.reduceEqDiff,qae,List.getD_cons_zero,List.getD_cons_succ,qaz L26,qb9 hn.1 eu qu,qbl hn.2 es es1 qs qs1,qah N26 1 s2 (.bool b2) .nils (.bool false) _ ps2.ok rfl]
  exact qav (by kernel_rfl)) ?_)
 exact qai (hQ _ _ (qaW (x:=s2) (y:=.bool b2) (f:=false) (d:=4) (g:=1) (by kernel_rfl) sS sS ps2 (Pl.bool _) rfl) (by rw[Int.sub_eq_add_neg];exact hrI))
theorem tbl29:tbl 29=some ⟨rc29,[.cell 4 26]⟩:=by kernel_rfl
theorem qfu(B:Nat):∀ (l:List Nat)(i v:Nat),i<l.length→vl B (l.set i v)+B ^ i*l.getD i 0=vl B l+B ^ i*v:=by
 intro l
 induction l with
 | nil=>intro i v h;simp at h
 | cons x l ih =>
  intro i v h
  cases i with
  | zero=>simp only[List.set_cons_zero,vl,List.getD_cons_zero,Nat.pow_zero,Nat.one_mul];omega
  | succ i =>
   have:=ih i v (by simpa using h)
   simp only[List.set_cons_succ,vl,List.getD_cons_succ,Nat.pow_succ]
   have h2:B*(vl B (l.set i v)+B ^ i*l.getD i 0)=B*(vl B l+B ^ i*v):=by rw[this]
   simp only[Nat.mul_add]at h2
   rw[show B ^ i*B*l.getD i 0=B*(B ^ i*l.getD i 0)by rw[Nat.mul_comm (B ^ i) B,Nat.mul_assoc],show B ^ i*B*v=B*(B ^ i*v)by rw[Nat.mul_comm (B ^ i) B,Nat.mul_assoc]]
   omega
structure IMul(s u:V)(b c:Bool)(N:Nat)(h:Hp)(out:List Nat)(st:St):Prop where
 h2:gt st.tm 2=.ptr (.loc 2 1) 0
 h3:gt st.tm 3=.ptr (.loc 3 1) 0
 h4:gt st.tm 4=.ptr (.loc 4 1) 0
 h5:gt st.tm 5=.arr (.loc 18 1) 0 N (some N) 1 false
 l2:lg st.loc 2=(1,.cells false [s,.bool b])
 l3:lg st.loc 3=(1,.cells false [u,.bool c])
 l4:lg st.loc 4=(1,.cells false [.nils,.bool false])
 l18:lg st.loc 18=(1,.cells false (nl .u32 out))
 len:out.length=N
 dg:Dg B out
 hp:st.hp=h
theorem qlV{B t0 v2 o o' n n' x y i k:Nat}(h1:v2+B ^ (i+k)*o=t0+B ^ (i+k)*o')(h2:n+(x*y+o)=o'+B*n'){q p:Nat}(h3:t0+B ^ (i+k)*n=q+B ^ i*(x*p)) :
  v2+B ^ (i+(k+1))*n'=q+B ^ i*(x*(p+B ^ k*y)):=by
 have e1:B ^ (i+k)*(n+(x*y+o))=B ^ (i+k)*(o'+B*n'):=by rw[h2]
 simp only[Nat.mul_add]at e1
 have e2:B ^ (i+(k+1))*n'=B ^ (i+k)*(B*n'):=by rw[←Nat.add_assoc,Nat.pow_succ,Nat.mul_assoc]
 have e3:B ^ i*(x*(p+B ^ k*y))=B ^ i*(x*p)+B ^ (i+k)*(x*y):=by
  rw[Nat.mul_add,Nat.mul_add,Nat.pow_add,Nat.mul_assoc]
  congr 1
  rw[←Nat.mul_assoc x,Nat.mul_comm x,Nat.mul_assoc]
 rw[e2,e3]
 omega
theorem qaG(l:List Nat)(i j v:Nat)(h:i≠j):(l.set i v).getD j 0=l.getD j 0:=by
 rw[List.getD_eq_getElem?_getD,List.getD_eq_getElem?_getD,List.getElem?_set_ne h]
theorem qjV{x y:Nat}(hx:x<4294967296)(hy:y<4294967296):x*y≤18446744065119617025:=by
 have:=Nat.mul_le_mul (show x≤4294967295 by omega) (show y≤4294967295 by omega)
 omega
theorem qcv{k l:Nat}{va vb:V}{x y:Int}(ha:IsI k va x)(hb:IsI l vb y)(hk:k≤1000000)(hl:l≤1000000):Gives 29 [va,vb] fun r=>IsI (k+l) r (x*y):=by
 obtain⟨d,b,⟨⟨s,rfl,hs⟩,dd,cd,h0⟩,rfl,hdl⟩:=ha
 obtain⟨e,c,⟨⟨u,rfl,hu⟩,de,ce,he0⟩,rfl,hel⟩:=hb
 refine qak tbl29 fun h Q hQ=>?_
 unfold rc29
 refine sRG ?_
 refine qac (qad (fun n k=>by simp -implicitDefEqProofs (disch:=omega) only[go_sem,reduceIte,Nat.reduceEqDiff,qae,List.getD_cons_zero,List.getD_cons_succ,qar L24,qam hs,qam hu];rfl) ?_)
 refine qac (qac (qad (fun n k=>by simp -implicitDefEqProofs (disch:=omega) only[go_sem,reduceIte,Nat.reduceEqDiff,qae,List.getD_cons_zero,List.getD_cons_succ,qar L24,qam hs];rfl) ?_))
 refine qaP (fun m st=>∃ i out,m+i=d.length∧IMul s u b c (d.length+e.length) ⟨h.rows,none,h.mods⟩ out st∧gt st.tm 20=s∧gt st.tm 21=.int .i64 (.ofNat d.length)∧gt st.tm 22=.int .i64 (.ofNat i)∧vl B out=vl B (d.take i)*vl B e∧∀ j,i+e.length≤j→out.getD j 0=0) d.length ⟨0,List.replicate (d.length+e.length) 0,rfl,⟨sS,sS,sS,sS,sS,sS,sS,sS,by simp,fun x hx=>by rw[List.eq_of_mem_replicate hx];decide,rfl⟩,sS,sS,sS,by rw[qh1];simp[vl],fun j _=>by rw[List.getD_eq_getElem?_getD,List.getElem?_replicate];split<;>rfl⟩ ?_
 intro m st ⟨i,out,hm,H,h20,h21,h22,hv,hz⟩
 obtain⟨h2,h3,h4,h5,l2,l3,l4,l18,hlen,hdg,hhp⟩:=H
 refine sR2 h21 h22 ?_
 refine qac (qaU (by simp only[qal,reduceIte];rfl) (fun hi=>qag ?_) (fun hi=>qax ?_))
 ·have hx:d.getD i 0<4294967296:=dd.get (by decide) i
  refine qac (qaq ?_)
  refine qac (qad (fun n k=>by simp -implicitDefEqProofs (disch:=omega) only[go_sem,reduceIte,Nat.reduceEqDiff,h20,h22,qj0 hs];rfl) ?_)
  refine sR ?_
  refine qac (qac ?_)
  refine qad (fun n k=>by simp -implicitDefEqProofs (disch:=omega) only[go_sem,reduceIte,Nat.reduceEqDiff,h3,l3,qar L24,qam hu];rfl) ?_
  refine qaP (fun m2 s1=>∃ k o2 n,m2+k=e.length∧IMul s u b c (d.length+e.length) ⟨h.rows,none,h.mods⟩ o2 s1∧gt s1.tm 20=s∧gt s1.tm 21=.int .i64 (.ofNat d.length)∧gt s1.tm 22=.int .i64 (.ofNat i)∧gt s1.tm 6=.int .i64 (.ofNat i)∧gt s1.tm 7=.int .u32 (.ofNat (d.getD i 0))∧gt s1.tm 8=.int .u64 (.ofNat n)∧gt s1.tm 28=u∧gt s1.tm 29=.int .i64 (.ofNat e.length)∧gt s1.tm 30=.int .i64 (.ofNat k)∧n<4294967296∧vl B o2+B ^ (i+k)*n=vl B out+B ^ i*(d.getD i 0*vl B (e.take k))∧∀ j,i+e.length≤j→o2.getD j 0=0) e.length ⟨0,out,0,rfl,⟨(sS1 h2),(sS1 h3),(sS1 h4),(sS1 h5),(sS1 l2),(sS1 l3),(sS1 l4),(sS1 l18),hlen,hdg,hhp⟩,(sS1 h20),(sS1 h21),(sS1 h22),sS,sS,sS,sS,sS,sS,by decide,by simp[vl],hz⟩ ?_
  intro m2 s1 ⟨k,o2,n,hm2,H2,j20,j21,j22,j6,j7,j8,j28,j29,j30,hn,hv2,hz2⟩
  obtain⟨i2,i3,i4,i5,k2,k3,k4,k18,hlen2,hdg2,hhp2⟩:=H2
  refine sR2 j29 j30 ?_
  refine qac (qaU (by simp only[qal,reduceIte];rfl) (fun hk2=>qag ?_) (fun hk2=>qax ?_))
  ·have hy:e.getD k 0<4294967296:=de.get (by decide) k
   have ho:o2.getD (i+k) 0<4294967296:=hdg2.get (by decide) _
   have hxy:=qjV hx hy
   refine qac (qaq ?_)
   refine qac (qad (fun n k=>by simp -implicitDefEqProofs (disch:=omega) only[go_sem,reduceIte,Nat.reduceEqDiff,j28,j30,qj0 hu];rfl) ?_)
   refine qac (qad (fun n k=>by simp -implicitDefEqProofs (disch:=omega) only[go_sem,reduceIte,Nat.reduceEqDiff,j6,j7,j8,i5,k18];rfl) ?_)
   refine qac (qad (fun n k=>by simp -implicitDefEqProofs (disch:=omega) only[go_sem,reduceIte,Nat.reduceEqDiff,j6,i5,k18,qbB];rfl) ?_)
   refine qad (fun n k=>by simp -implicitDefEqProofs (disch:=omega) only[go_sem,reduceIte,Nat.reduceEqDiff,Nat.reducePow];rfl) ?_
   refine sE1 j30 ?_
   refine⟨m2 - 1,by omega,k+1,o2.set (i+k) ((n+(d.getD i 0*e.getD k 0+o2.getD (i+k) 0)) % 4294967296),(n+(d.getD i 0*e.getD k 0+o2.getD (i+k) 0)) / 4294967296,by omega,⟨(sS1 i2),(sS1 i3),(sS1 i4),(sS1 i5),(sS1 k2),(sS1 k3),(sS1 k4),sS,by simp[hlen2],hdg2.set _ (Nat.mod_lt _ (by decide)),hhp2⟩,(sS1 j20),(sS1 j21),(sS1 j22),(sS1 j6),(sS1 j7),sS,(sS1 j28),(sS1 j29),sS,by omega,?_,fun j hj=>by rw[qaG _ _ _ _ (by omega)];exact hz2 j hj⟩
   rw[qaA]
   exact qlV (qfu B o2 (i+k) _ (by omega)) (by show n+(d.getD i 0*e.getD k 0+o2.getD (i+k) 0)=(n+(d.getD i 0*e.getD k 0+o2.getD (i+k) 0)) % 4294967296+4294967296*((n+(d.getD i 0*e.getD k 0+o2.getD (i+k) 0)) / 4294967296);omega) hv2
  ·rw[if_pos rfl]
   refine qad (fun n k=>by simp -implicitDefEqProofs (disch:=omega) only[go_sem,reduceIte,Nat.reduceEqDiff,i3,k3,i5,k18,j6,j8,qar L24,qam hu];rfl) ?_
   refine sE1 j22 ?_
   have ek:k=e.length:=by omega
   refine⟨m - 1,by omega,i+1,o2.set (i+e.length) n,by omega,⟨(sS1 i2),(sS1 i3),(sS1 i4),(sS1 i5),(sS1 k2),(sS1 k3),(sS1 k4),sS,by simp[hlen2],hdg2.set _ hn,hhp2⟩,(sS1 j20),(sS1 j21),sS,?_,fun j hj=>by rw[qaG _ _ _ _ (by omega)];exact hz2 j (by omega)⟩
   have e1:=qfu B o2 (i+e.length) n (by omega)
   rw[hz2 (i+e.length) (Nat.le_refl _),Nat.mul_zero,Nat.add_zero]at e1
   rw[e1,qaA,Nat.add_mul,←hv,Nat.mul_assoc]
   subst ek
   rw[List.take_length]at hv2
   exact hv2
 ·rw[if_pos rfl]
  have hid:i=d.length:=by omega
  subst hid
  rw[List.take_length]at hv
  obtain⟨r,hr,f,⟨⟨s2,rfl,hs2⟩,df,cf,hf0⟩,ht⟩:=qa3 (a:=out) (.inl ⟨false,rfl⟩) hdg (by omega) (!(b == c)) ⟨h.rows,none,h.mods⟩
  have hlen3:=ht.len
  refine qac (qaf (hr) (fun n hn k=>by simp -implicitDefEqProofs (disch:=omega) only[go_sem,reduceIte,Nat.reduceEqDiff,h2,h3,h4,h5,l2,l3,l4,hhp,qao L4,qdB 4 false b c U4,qlu hlen.symm l18 hn (Ex1.bool _),qah N26 1 s2 (.bool (!(b == c) && !f.isEmpty)) .nils (.bool false) _ hs2.pl.ok rfl];rfl) ?_)
  refine qai (hQ _ _ (qaW (x:=s2) (y:=.bool (!(b == c) && !f.isEmpty)) (f:=false) (d:=4) (g:=1) (by kernel_rfl) (sS1 h4) sS hs2.pl (Pl.bool _) rfl) ⟨f,_,⟨⟨s2,rfl,hs2⟩,df,cf,hf0⟩,?_,by omega⟩)
  have e3:=ht.vl B
  rw[hv]at e3
  have e4:(vl B f:Int)=(vl B d:Int)*(vl B e:Int):=by rw[e3];simp
  cases f with
  | nil =>
   have e5:(vl B d:Int)*(vl B e:Int)=0:=by rw[←e4];rfl
   cases b<;>cases c<;>simp only[zv,vl,cond_true,cond_false,Int.neg_mul,Int.mul_neg,Int.neg_neg,e5]<;>rfl
  | cons x0 l0=>cases b<;>cases c<;>simp only[zv,cond_true,cond_false,Int.neg_mul,Int.mul_neg,Int.neg_neg,e4]<;>simp[e4]
theorem tbl68:tbl 68=some ⟨rc68,[.tmp 2]⟩:=by kernel_rfl
theorem quj(c:Qad)(t' t:Tm)(l:Lo)(h:Hp)(j:V→Lo→Hp→R):gn Try.f68 68 3 0 c t' t l h j=j (.arr (.loc 5 ((lg l 5).1+1)) 0 0 (some 0) 1 false) (lp l 5 ((lg l 5).1+1,.cells false [])) h :=
 qoC (C:=Cg) (gl:=Cg.glob 68) (call:=c) (o:=opA Try.f68 3 0) (d:=5) (t:=24) (e:=86) (by kernel_rfl) (by kernel_rfl) (by kernel_rfl) (by kernel_rfl) (by kernel_rfl) (by kernel_rfl) (show zeroV Pg 86=some (.int .u32 (.ofNat 0))by kernel_rfl) rfl rfl
theorem qwJ{loc:Lo}{hp:Hp}{ys:List Nat}{w:V}{g:Nat}(hs:lg loc 5=(g,.cells false []))(hit:∀ tm,Qag ⟨tm,loc,hp⟩ w=some (nl .u32 ys))(hys:ys≠[])(hn:ys.length≤1000000000)(call:Qad)(tm:Tm)(j:V→Lo→Hp→R) :
  go2 Try.f68 68 3 2 5 6 (.arr (.loc 5 g) 0 0 (some 0) 1 false) w call tm loc hp j=j (.arr (.glob hp.rows.length) 0 ys.length none 1 false) loc (qgI hp (.cells false (nl .u32 ys))) :=
 qoD (C:=Cg) (gl:=Cg.glob 68) (e:=86) (b:=4) qv3 (by kernel_rfl) (by kernel_rfl) (by kernel_rfl) (by kernel_rfl) (by kernel_rfl) (by decide) hs hit hys (by omega) call tm j
theorem qxh{v:V}(h:v≠.nils)(hv:(∃ k d,Sl k v d)∨∃ r o n li,v=.arr r o n li 1 false)(cn:Bool):bin Pg .eql 24 cn v .nils=some (.bool false):=by
 have hu:Pg.underlying 24=some (.slice 86):=U24
 rcases hv with ⟨k,d,⟨f,rfl⟩ | ⟨rfl,_⟩⟩ | ⟨r,o,n,li,rfl⟩
 ·show F.eqV .eql (Pg.underlying 24) cn (.slice none f 1 (nl k d)) .nils=_
  rw[hu];rfl
 ·exact absurd rfl h
 ·show F.eqV .eql (Pg.underlying 24) cn (.arr r o n li 1 false) .nils=_
  rw[hu];rfl
theorem qfs{va:V}{ys:List Nat}(h:Hp)(hne:va≠.nils)(hv:(∃ k d,Sl k va d)∨∃ r o n li,va=.arr r o n li 1 false)(hys:ys≠[])(hn:ys.length≤1000000000)
  (hit:∀ (tm:Tm) (loc:Lo),Qag ⟨tm,loc,⟨h.rows,none,h.mods⟩⟩ va=some (nl .u32 ys)) :
  Runs Pg kn0 tbl 68 [va] h (.val (.arr (.glob h.rows.length) 0 ys.length none 1 false) (qgI h (.cells false (nl .u32 ys)))):=by
 suffices hw:WW Pg kn0 tbl rc68 ⟨QaE [va],.lf,⟨h.rows,none,h.mods⟩⟩ (fun s=>∃ o,fin Pg h [.tmp 2] s=some o∧o=.val (.arr (.glob h.rows.length) 0 ys.length none 1 false) (qgI h (.cells false (nl .u32 ys)))) (fun _ _=>False) (fun s=>∃ o,fin Pg h [.tmp 2] s=some o∧o=.val (.arr (.glob h.rows.length) 0 ys.length none 1 false) (qgI h (.cells false (nl .u32 ys))))by
  obtain⟨o,h1,h2⟩:=qcV (kn:=kn0) (h:=h) rfl tbl68 hw
  subst h2
  exact h1
 unfold rc68
 refine sR ?_
 refine qac (qac (qad (fun n k=>by simp -implicitDefEqProofs (disch:=omega) only[go_sem,reduceIte,Nat.reduceEqDiff,qae,List.getD_cons_zero,List.getD_cons_succ,qxh hne hv];rfl) ?_))
 refine qaj sS (qag ?_)
 refine qac (qad (fun n k=>by simp -implicitDefEqProofs (disch:=omega) only[go_sem,reduceIte,Nat.reduceEqDiff,qae,List.getD_cons_zero,List.getD_cons_succ,quj,qwJ (loc:=lp .lf 5 (1,.cells false [])) (g:=1) (by rw[qbr,if_pos rfl]) (fun tm=>hit tm _) hys hn];rfl) ?_)
 refine qai ⟨_,?_,rfl⟩
 unfold fin
 simp only[Qbj,qbI,Option.map_some]
 rw[show ∀ t,gt (pt t 2 (.arr (.glob h.rows.length) 0 ys.length none 1 false)) 2=.arr (.glob h.rows.length) 0 ys.length none 1 false from fun t=>sS]
 rfl
theorem tbl64:tbl 64=some ⟨rc64,[.tmp 6]⟩:=by kernel_rfl
theorem qkG(l:List Nat)(i v:Nat):(l.set i v).take i=l.take i:=by
 rw[List.take_set]
 exact List.set_eq_of_length_le (by simp;omega)
theorem qbc(l:List Nat)(i v:Nat)(h:i<l.length):(l.set i v).getD i 0=v:=by
 rw[List.getD_eq_getElem?_getD,List.getElem?_set_self h];rfl
structure HG(n:Nat)(h:Hp)(v:V)(l:Nat)(s:Hp):Prop where
 len:h.rows.length≤s.rows.length
 same:∀ i,i<h.rows.length→v≠.arr (.glob i) 0 l none 1 false→s.rows[i]? = h.rows[i]?
 dg:DG n s
theorem qbk{h:Hp}{r:Nat}{row:Row}(hr:h.rows[r]? = some row):F.QbB h.rows r=some row:=by rw[F.Qba];exact hr
theorem qxq{h:Hp}{v:V}{k:IntKind}{d:List Nat}(hv:Gr h v k d)(e:TypeId):len (some (.slice e)) v=some (.int .i64 (.ofNat d.length)):=by
 rcases hv with ⟨rfl,rfl⟩ | ⟨_,r,rfl,_⟩
 ·exact qiL e
 ·rfl
theorem qhH{n:Nat}{h:Hp}{v:V}{d:List Nat}(T M:Nat)(hv:Gr h v .u32 d)(dd:Dg B d)(hl:d.length≤1000000)(hT:T<4294967296)(hM:M<4294967296)(hn:DG n h)(hvn:∀ r,v=.arr (.glob r) 0 d.length none 1 false→n≤r)(hlen:n≤h.rows.length) :
  ∃ v' h' d',Runs Pg kn0 tbl 64 [v,.int .u64 (.ofNat T),.int .u64 (.ofNat M)] h (.val v' h')∧Gr h' v' .u32 d'∧Dg B d'∧vl B d'=vl B d*T+M∧d'.length≤d.length+1∧HG n h v d.length h'∧(∀ r,v'=.arr (.glob r) 0 d'.length none 1 false→n≤r)∧d.length≤d'.length:=by
 let Post:Out→Prop:=fun o=>∃ v' h' d',o=.val v' h'∧Gr h' v' .u32 d'∧Dg B d'∧vl B d'=vl B d*T+M∧d'.length≤d.length+1∧HG n h v d.length h'∧(∀ r,v'=.arr (.glob r) 0 d'.length none 1 false→n≤r)∧d.length≤d'.length
 suffices hw:WW Pg kn0 tbl rc64 ⟨QaE [v,.int .u64 (.ofNat T),.int .u64 (.ofNat M)],.lf,⟨h.rows,none,h.mods⟩⟩ (fun s=>∃ o,fin Pg h [.tmp 6] s=some o∧Post o) (fun _ _=>False) (fun s=>∃ o,fin Pg h [.tmp 6] s=some o∧Post o)by
  obtain⟨o,h1,v',h',d',rfl,h2⟩:=qcV (kn:=kn0) (h:=h) rfl tbl64 hw
  exact⟨v',h',d',h1,h2⟩
 have fin1:∀ (s:St) (v':V) (d':List Nat),gt s.tm 6=v'→Gr s.hp v' .u32 d'→Dg B d'→vl B d'=vl B d*T+M→d'.length≤d.length+1→HG n h v d.length s.hp→(∀ r,v'=.arr (.glob r) 0 d'.length none 1 false→n≤r)→d.length≤d'.length→(v'=.nils→s.hp.dirty=none)→∃ o,fin Pg h [.tmp 6] s=some o∧Post o:=by
  intro s v' d' h6 hg' hd' hvl hlen' hH hvn' hle' hnil
  have hr6:Qbj Pg s [.tmp 6]=some [v']:=by simp only[Qbj,qbI,h6,Option.map_some]
  rcases hg' with ⟨rfl,rfl⟩ | ⟨hd0,r,rfl,hrow⟩
  ·refine⟨.val .nils h,?_,.nils,h,[],rfl,.inl ⟨rfl,rfl⟩,hd',hvl,by simp,⟨Nat.le_refl _,fun _ _ _=>rfl,hn⟩,(fun r e=>by cases e),hle'⟩
   unfold fin
   rw[hr6]
   show some (Out.val .nils (Qar h s.hp [.nils]))=_
   rw[qlH h s.hp [.nils] (hnil rfl) rfl]
  ·refine⟨.val (.arr (.glob r) 0 d'.length none 1 false) (Qar h s.hp [.arr (.glob r) 0 d'.length none 1 false]),?_,_,_,d',rfl,.inr ⟨hd0,r,rfl,?_⟩,hd',hvl,hlen',⟨?_,?_,hn.back hH.dg _⟩,hvn',hle'⟩
   ·unfold fin
    rw[hr6];rfl
   ·rw[qha rfl];exact hrow
   ·rw[qha rfl];exact hH.len
   ·rw[qha rfl];exact hH.same
 unfold rc64
 refine sR ?_
 refine qac (qac (qad (fun n k=>by simp -implicitDefEqProofs (disch:=omega) only[go_sem,reduceIte,Nat.reduceEqDiff,qae,List.getD_cons_zero,List.getD_cons_succ,qxq hv];rfl) ?_))
 refine qeU (N:=fun s=>∃ cur c,gt s.tm 0=v∧gt s.tm 2=.int .u64 (.ofNat c)∧Gr s.hp v .u32 cur∧cur.length=d.length∧Dg B cur∧c<4294967296∧vl B cur+B ^ d.length*c=vl B d*T+M∧HG n h v d.length s.hp∧s.hp.rows.length=h.rows.length∧(d=[]→s.hp.dirty=none)) (X:=fun _ _=>False) (Q:=fun _=>False) ?_ ?_ (fun _ _ h=>h.elim) (fun _ h=>h.elim)
 ·refine qaP (fun m s=>∃ i cur c,m+i=d.length∧gt s.tm 0=v∧gt s.tm 1=.int .u64 (.ofNat T)∧gt s.tm 2=.int .u64 (.ofNat c)∧gt s.tm 9=v∧gt s.tm 10=.int .i64 (.ofNat d.length)∧gt s.tm 11=.int .i64 (.ofNat i)∧Gr s.hp v .u32 cur∧cur.length=d.length∧Dg B cur∧c<4294967296∧vl B (cur.take i)+B ^ i*c=vl B (d.take i)*T+M∧(∀ j,i≤j→cur.getD j 0=d.getD j 0)∧HG n h v d.length s.hp∧s.hp.rows.length=h.rows.length∧(d=[]→s.hp.dirty=none)) d.length ⟨0,d,M,rfl,sSG,sSG,sSG,sSG,sSG,sS,hv,rfl,dd,hM,by simp[vl],fun _ _=>rfl,⟨Nat.le_refl _,fun _ _ _=>rfl,fun x hx=>by cases hx⟩,rfl,fun _=>rfl⟩ ?_
  intro m s ⟨i,cur,c,hm,h0,h1,h2,h9,h10,h11,hg,hcl,hcd,hc,hvl,hrest,hH,hrl,hnil⟩
  refine sR2 h10 h11 ?_
  refine qac (qaU (by simp only[qal,reduceIte];rfl) (fun hi=>qag ?_) (fun hi=>qax ?_))
  ·rcases hg with ⟨hcur,_⟩ | ⟨hc0,r,rfl,hrow⟩
   ·exfalso;rw[hcur]at hcl;simp at hcl;omega
   have hnr:=hvn r (by rw[hcl])
   have hx:cur.getD i 0<4294967296:=hcd.get (by decide) i
   have hxT:=qjV hx hT
   refine qac (qaq ?_)
   refine qac (qad (fun n k=>by simp -implicitDefEqProofs (disch:=omega) only[go_sem,reduceIte,Nat.reduceEqDiff,h9,h11,qbk hrow,qde L86];rfl) ?_)
   refine sR2 h1 h2 ?_
   refine qac (qad (fun n k=>by simp -implicitDefEqProofs (disch:=omega) only[go_sem,reduceIte,Nat.reduceEqDiff,h0,qbk hrow,qbB,qtw hrow];rfl) ?_)
   refine qad (fun n k=>by simp -implicitDefEqProofs (disch:=omega) only[go_sem,reduceIte,Nat.reduceEqDiff,Nat.reducePow];rfl) ?_
   refine sE1 h11 ?_
   refine⟨m - 1,by omega,i+1,cur.set i ((c+cur.getD i 0*T) % 4294967296),(c+cur.getD i 0*T) / 4294967296,by omega,(sS1 h0),(sS1 h1),sS,(sS1 h9),(sS1 h10),sS,.inr ⟨fun e=>hc0 ((List.set_eq_nil_iff _ _).1 e),r,by simp,qc5 _ hrow⟩,by simp[hcl],hcd.set _ (Nat.mod_lt _ (by decide)),by omega,?_,fun j hj=>by rw[qaG _ _ _ _ (by omega)];exact hrest j (by omega),⟨by rw[qbd];exact hH.len,fun j hj hne=>by rw[qck _ (fun e=>hne (by rw[e,hcl]))];exact hH.same j hj hne,hH.dg.set hnr _⟩,by rw[qbd];exact hrl,fun e=>by subst e;simp at hi⟩
   rw[qaA,qaA,qkG,qbc _ _ _ (by omega),←hrest i (Nat.le_refl _),Nat.pow_succ,Nat.mul_assoc,Nat.add_mul,Nat.mul_assoc]
   have e1:B ^ i*(c+cur.getD i 0*T)=B ^ i*((c+cur.getD i 0*T) % 4294967296+4294967296*((c+cur.getD i 0*T) / 4294967296)):=by rw[Nat.mod_add_div]
   simp only[Nat.mul_add]at e1
   have e2:B ^ i*(B*((c+cur.getD i 0*T) / 4294967296))=B ^ i*(4294967296*((c+cur.getD i 0*T) / 4294967296)):=rfl
   omega
  ·rw[if_pos rfl]
   have ei:i=d.length:=by omega
   subst ei
   rw[List.take_length]at hvl
   rw[List.take_of_length_le (by omega)]at hvl
   exact⟨cur,c,(sS1 h0),(sS1 h2),hg,hcl,hcd,hc,hvl,hH,hrl,hnil⟩
 ·intro s ⟨cur,c,h0,h2,hg,hcl,hcd,hc,hvl,hH,hrl,hnil⟩
  refine sQ1 h2 ?_
  refine qaU (by simp only[qal,reduceIte];rfl) (fun hc0=>?_) (fun hc0=>qag ?_)
  ·obtain⟨h',happ,hrow',hlen',hsame',hform⟩:=qwV (loc:=lp s.loc 35 ((lg s.loc 35).1+1,.cells false (nl .u32 [c]))) (w:=.arr (.loc 35 ((lg s.loc 35).1+1)) 0 1 (some 1) 1 false) (ys:=[c]) hg (fun tm=>qbD (ys:=[c]) (by rw[qbr,if_pos rfl])) (by simp) (by simp;omega)
   have hdg':DG n h':=by
    rcases hform with rfl | ⟨r,hr,rfl⟩
    ·exact hH.dg
    ·exact DG.add (hH.dg.set (hvn r (by rw[hr,hcl])) .gone) (.cells false (nl .u32 (cur++[c])))
   refine sE3 h0 h2 happ ?_
   refine sR ?_
   refine qai (fin1 _ (.arr (.glob s.hp.rows.length) 0 (cur++[c]).length none 1 false) (cur++[c]) (by simp -implicitDefEqProofs (disch:=omega) only[go_sem,reduceIte,Nat.reduceEqDiff,List.length_append,List.length_cons,List.length_nil]) (.inr ⟨by simp,_,rfl,hrow'⟩) (hcd.snoc hc) ?_ (by simp;omega) ⟨by rw[hlen'];have:=hH.len;omega,fun j hj hne=>?_,hdg'⟩ (fun r e=>?_) (by simp;omega) (fun e=>by cases e))
   ·rw[qaZ,qdd,hcl];exact hvl
   ·rw[hsame' j (by have:=hH.len;omega) (by rw[hcl];exact hne)]
    exact hH.same j hj hne
   ·have:s.hp.rows.length=r:=by cases e;rfl
    omega
  ·have ec:c=0:=by omega
   subst ec
   refine sR1 h0 ?_
   refine qai (fin1 _ v cur sS hg hcd (by simpa using hvl) (by omega) hH (fun r e=>hvn r (by rw[e,hcl])) (by omega) (fun e=>hnil ?_))
   rcases hg with ⟨hcur,_⟩ | ⟨_,r,hr,_⟩
   ·rw[hcur]at hcl;exact List.length_eq_zero_iff.1 hcl.symm
   ·rw[hr]at e;cases e
theorem qgx{n:Nat}{h:Hp}{r0:Nat}{a:List Nat}(hr:h.rows[r0]? = some (.cells false (nl .u32 a)))(da:Dg B a)(la:a.length≤1000000000)(ng:Bool)(hn:DG n h)(hnr:n≤r0) :
  ∃ r h' d,Runs Pg kn0 tbl 65 [.arr (.glob r0) 0 a.length none 1 false,.bool ng] h (.val r h')∧NI r d (ng && !d.isEmpty)∧Tr0 a d∧HG n h (.arr (.glob r0) 0 a.length none 1 false) a.length h'∧h'.rows.length=h.rows.length:=by
 let Post:Out→Prop:=fun o=>∃ r h' d,o=.val r h'∧NI r d (ng && !d.isEmpty)∧Tr0 a d∧HG n h (.arr (.glob r0) 0 a.length none 1 false) a.length h'∧h'.rows.length=h.rows.length
 suffices hw:WW Pg kn0 tbl rc65 ⟨QaE [.arr (.glob r0) 0 a.length none 1 false,.bool ng],.lf,⟨h.rows,none,h.mods⟩⟩ (fun s=>∃ o,fin Pg h [.cell 4 26] s=some o∧Post o) (fun _ _=>False) (fun s=>∃ o,fin Pg h [.cell 4 26] s=some o∧Post o)by
  obtain⟨o,h1,r,h',d,rfl,h2⟩:=qcV (kn:=kn0) (h:=h) rfl tbl65 hw
  exact⟨r,h',d,h1,h2⟩
 unfold rc65
 refine sR ?_
 refine qac (qaP (fun m s=>∃ d,m=d.length∧gt s.tm 0=.arr (.glob r0) 0 d.length none 1 false∧Tr0 a d∧gt s.tm 1=.bool ng∧gt s.tm 4=.ptr (.loc 4 1) 0∧lg s.loc 4=(1,.cells false [.nils,.bool false])∧s.hp=⟨h.rows,none,h.mods⟩) a.length ⟨a,rfl,sSG,Tr0.refl a,sSG,sS,sS,rfl⟩ ?_)
 intro m s ⟨d,hm,h0,ht,h1,h4,hl4,hhp⟩
 have hln:=ht.len
 have hrr:s.hp.rows[r0]? = some (.cells false (nl .u32 a)):=by rw[hhp];exact hr
 have htake:a.take d.length=d:=by obtain⟨q,rfl⟩:=ht;simp
 have hget:∀ i,i<d.length→a.getD i 0=d.getD i 0:=by
  intro i hi
  obtain⟨q,rfl⟩:=ht
  rw[List.getD_eq_getElem?_getD,List.getD_eq_getElem?_getD,List.getElem?_append_left hi]
 have stop:Cn d→WW Pg kn0 tbl (.seq (.reg fun c t l h k=>jn (fun v0 l0 h0=>jn (fun v1 l1 h1=>jn (fun v2 l2 h2=>bO (pick (g1 t) v2 (.bool false)) fun v3=>gn Try.f65 65 3 7 c (p28 (p22 t (g0 t)) v3) t l2 h2 (fun v4 l4 h4=>jn (fun v5 l5 h5=>k t l5 h5) fun j5=>sto 26 (g4 t) v4 l4 h4 j5 (gn Try.f65 65 3 8 c (p29 (p4 t (g4 t)) v4) t l4 h4 j5))) fun j2=>brB (wv (g1 t) true) (j2 (.tuple []) l1 h1) (bO (bin Pg .gtr 3 true v1 (I 0)) fun v3=>j2 v3 l1 h1)) fun j1=>brB (wv (g1 t) true) (j1 (.tuple []) l0 h0) (bO (len (Pg.underlying 24) v0) fun v2=>j1 v2 l0 h0)) fun j0=>brB (wv (g1 t) true) (j0 (.tuple []) l h) (j0 (g0 t) l h))
 .ret) ⟨pt s.tm 16 (.bool false),s.loc,s.hp⟩ (fun s=>∃ o,fin Pg h [.cell 4 26] s=some o∧Post o) (fun _ _=>False) (fun s=>∃ o,fin Pg h [.cell 4 26] s=some o∧Post o):=by
  intro hcn
  have hsl:Sl .u32 (.slice none false 1 (nl .u32 (a.take d.length))) d:=.inl ⟨false,by rw[htake]⟩
  have key:∀ b:Bool,b=(ng && !d.isEmpty)→∃ o,fin Pg h [.cell 4 26] ⟨pt s.tm 16 (.bool false),lp s.loc 4 (1,.cells false [.slice none false 1 (nl .u32 (a.take d.length)),.bool b]),hset s.hp r0 (.cells true (nl .u32 a))⟩ = some o∧Post o:=by
   intro b hb
   refine⟨_,qoO (x:=.slice none false 1 (nl .u32 (a.take d.length))) (y:=.bool b) (f:=false) (d:=4) (g:=1) (by kernel_rfl) (sS1 h4) sS hsl.pl (Pl.bool _),_,_,d,rfl,?_,ht,?_,?_⟩
   ·subst hb
    exact⟨⟨_,rfl,hsl⟩,ht.dg da,hcn,fun e=>by subst e;simp⟩
   ·have hc:(hset s.hp r0 (.cells true (nl .u32 a))).rows.length=h.rows.length:=by rw[qbd,hhp]
    have hd2:DG n (hset s.hp r0 (.cells true (nl .u32 a))):=DG.set (n:=n) (h:=s.hp) (by rw[hhp];exact fun x hx=>by cases hx) hnr _
    refine⟨?_,?_,hn.back hd2 _⟩
    ·unfold Qar
     cases QaX h (hset s.hp r0 (.cells true (nl .u32 a)))with
     | true=>cases V.Qaf [.agg [.slice none false 1 (nl .u32 (a.take d.length)),.bool b]]with
      | true=>exact Nat.le_refl _
      | false=>exact Nat.le_of_eq hc.symm
     | false=>exact Nat.le_of_eq hc.symm
    ·intro i hi hne
     have e1:(hset s.hp r0 (.cells true (nl .u32 a))).rows[i]? = h.rows[i]?:=by
      rw[qck _ (fun e=>hne (by rw[e])),hhp]
     unfold Qar
     cases QaX h (hset s.hp r0 (.cells true (nl .u32 a)))with
     | true=>cases V.Qaf [.agg [.slice none false 1 (nl .u32 (a.take d.length)),.bool b]]with
      | true=>rfl
      | false=>exact e1
     | false=>exact e1
   ·have hc:(hset s.hp r0 (.cells true (nl .u32 a))).rows.length=h.rows.length:=by rw[qbd,hhp]
    unfold Qar
    cases QaX h (hset s.hp r0 (.cells true (nl .u32 a)))with
    | true=>cases V.Qaf [.agg [.slice none false 1 (nl .u32 (a.take d.length)),.bool b]]with
     | true=>rfl
     | false=>exact hc
    | false=>exact hc
  cases ng with
  | false =>
   refine qac (qad (fun n k=>by simp -implicitDefEqProofs (disch:=omega) only[go_sem,reduceIte,Nat.reduceEqDiff,h0,h1,h4,hl4,qmh hrr hln (Pl.bool false),qah N26 1 (.slice none false 1 (nl .u32 (a.take d.length))) (.bool false) .nils (.bool false) _ rfl rfl];rfl) ?_)
   exact qai (key false (by simp))
  | true =>
   refine qac (qad (fun n k=>by simp -implicitDefEqProofs (disch:=omega) only[go_sem,reduceIte,Nat.reduceEqDiff,h0,h1,h4,hl4,qmh hrr hln (Pl.bool (decide (0<d.length))),qah N26 1 (.slice none false 1 (nl .u32 (a.take d.length))) (.bool (decide (0<d.length))) .nils (.bool false) _ rfl rfl];rfl) ?_)
   refine qai (key _ ?_)
   cases d with
   | nil=>rfl
   | cons x l=>simp
 rcases Nat.eq_zero_or_pos d.length with hd | hd
 ·refine qac (qac (qad (fun n k=>by simp -implicitDefEqProofs (disch:=omega) only[go_sem,reduceIte,Nat.reduceEqDiff,h0,qaY];rfl) ?_))
  refine qaj sS (qax ?_)
  rw[if_pos rfl]
  exact stop (fun i hi=>by omega)
 ·have hx:d.getD (d.length - 1) 0<4294967296:=(ht.dg da).get (by decide) _
  have hg1:=hget (d.length - 1) (by omega)
  by_cases hz:d.getD (d.length - 1) 0=0
  ·refine qac (qac (qad (fun n k=>by simp -implicitDefEqProofs (disch:=omega) only[go_sem,reduceIte,Nat.reduceEqDiff,h0,qaQ,qbk hrr,qde L86,hg1,hz];rfl) ?_))
   refine qan sS (qag (qaq ?_))
   refine sE1 h0 ?_
   exact⟨d.length - 1,by omega,d.take (d.length - 1),by simp,(by simp -implicitDefEqProofs (disch:=omega) only[go_sem,reduceIte,Nat.reduceEqDiff,List.length_take,Nat.min_eq_left]),ht.next hd hz,(sS1 h1),(sS1 h4),(sS1 hl4),hhp⟩
  ·refine qac (qac (qad (fun n k=>by simp -implicitDefEqProofs (disch:=omega) only[go_sem,reduceIte,Nat.reduceEqDiff,h0,qaQ,qbk hrr,qde L86,hg1,qaY];rfl) ?_))
   refine qaj sS (qax ?_)
   rw[if_pos rfl]
   exact stop (fun i hi=>by rw[show i=d.length - 1 by omega];exact hz)
end Go.AM.S
end
section
namespace Go.AM.S
open Go Go.AM Go.Proofs NumL
open _root_.Go.AM.G (R)
def sl(l:List Nat):Str:=⟨l.length,vl 256 l⟩
theorem qhx(n:Nat):AM.p8 n=256 ^ n:=by
 show 2 ^ (8*n)=_
 rw[show(256:Nat)=2 ^ 8 from rfl,←Nat.pow_mul]
theorem qnr(B:Nat)(hB:0<B)(l:List Nat)(h:Dg B l)(i:Nat):vl B l / B ^ i=vl B (l.drop i):=by
 by_cases hi:i≤l.length
 ·conv=>lhs;rw[←List.take_append_drop i l]
  rw[qaZ,List.length_take,Nat.min_eq_left hi,Nat.add_mul_div_left _ _ (Nat.pow_pos hB),Nat.div_eq_of_lt (qaV hB (h.take i) (by simp;omega)),Nat.zero_add]
 ·rw[List.drop_eq_nil_of_le (by omega),Nat.div_eq_of_lt (qaV hB h (by omega))];rfl
theorem qs0(B:Nat)(hB:0<B)(l:List Nat)(h:Dg B l)(i:Nat):vl B l % B ^ i=vl B (l.take i):=by
 by_cases hi:i≤l.length
 ·conv=>lhs;rw[←List.take_append_drop i l]
  rw[qaZ,List.length_take,Nat.min_eq_left hi,Nat.add_mul_mod_self_left,Nat.mod_eq_of_lt (qaV hB (h.take i) (by simp;omega))]
 ·rw[List.take_of_length_le (by omega),Nat.mod_eq_of_lt (qaV hB h (by omega))]
theorem qyR(l:List Nat):(sl l).n=l.length:=rfl
theorem qnE{l:List Nat}(h:Dg 256 l)(i:Nat):(sl l).get i=l.getD i 0:=by
 show Nat.mod (Nat.shiftRight (vl 256 l) (Nat.mul 8 i)) 256=_
 rw[qx7,qhx,qnr 256 (by decide) l h i]
 by_cases hi:i<l.length
 ·rw[List.drop_eq_getElem_cons hi]
  simp only[vl]
  have e:l[i]=l.getD i 0:=by rw[List.getD_eq_getElem?_getD,List.getElem?_eq_getElem hi];rfl
  rw[e]
  have:l.getD i 0<256:=h.get (by decide) i
  show(l.getD i 0+256*vl 256 (l.drop (i+1))) % 256=_
  omega
 ·rw[List.drop_eq_nil_of_le (by omega),List.getD_eq_getElem?_getD,List.getElem?_eq_none (by omega)];rfl
theorem qw9{l:List Nat}(h:Dg 256 l)(k m:Nat)(hk:k≤m)(hm:m≤l.length):(sl l).cut k m=sl ((l.take m).drop k):=by
 unfold Str.cut sl
 congr 1
 ·simp;omega
 ·show Nat.mod (Nat.shiftRight (vl 256 l) (Nat.mul 8 k)) (AM.p8 (Nat.sub m k))=_
  rw[qx7,qhx,qhx,qnr 256 (by decide) l h k]
  show vl 256 (l.drop k) % 256 ^ (m - k)=_
  rw[qs0 256 (by decide) _ (h.drop k),List.drop_take]
theorem qxa{a b:List Nat}(ha:Dg 256 a):(sl a).app (sl b)=sl (a++b):=by
 unfold Str.app sl
 congr 1
 ·simp
 ·show Nat.mod (vl 256 a) (AM.p8 a.length)+Nat.shiftLeft (vl 256 b) (Nat.mul 8 a.length)=_
  rw[qyS,qhx,qaZ,Nat.mul_comm (vl 256 b)]
  congr 1
  exact Nat.mod_eq_of_lt (qpV (by decide) ha)
theorem qtx(B:Nat):∀ (a b:List Nat),Dg B a→Dg B b→a.length=b.length→vl B a=vl B b→a=b:=by
 intro a
 induction a with
 | nil=>intro b _ _ hl _;exact(List.length_eq_zero_iff.1 hl.symm).symm
 | cons x a ih =>
  intro b da db hl hv
  cases b with
  | nil=>simp at hl
  | cons y b =>
   have hx:x<B:=da x (by simp)
   have hy:y<B:=db y (by simp)
   simp only[vl]at hv
   have e1:x=y:=by
    have h1:(x+B*vl B a) % B=(y+B*vl B b) % B:=by rw[hv]
    rwa [Nat.add_mul_mod_self_left,Nat.add_mul_mod_self_left,Nat.mod_eq_of_lt hx,Nat.mod_eq_of_lt hy]at h1
   subst e1
   have e2:vl B a=vl B b:=by
    have h1:B*vl B a=B*vl B b:=by omega
    exact Nat.eq_of_mul_eq_mul_left (by omega) h1
   rw[ih b (fun z hz=>da z (by simp[hz])) (fun z hz=>db z (by simp[hz])) (by simpa using hl) e2]
theorem qnD{a b:List Nat}(ha:Dg 256 a)(hb:Dg 256 b):(sl a).same (sl b)=decide (a=b):=by
 rw[Bool.eq_iff_iff,decide_eq_true_iff]
 unfold Str.same sl
 rw[Bool.and_eq_true,Nat.beq_eq,Nat.beq_eq]
 show _∧vl 256 a % AM.p8 a.length=vl 256 b % AM.p8 b.length↔_
 rw[qhx,qhx,Nat.mod_eq_of_lt (qpV (by decide) ha),Nat.mod_eq_of_lt (qpV (by decide) hb)]
 constructor
 ·intro⟨h1,h2⟩;exact qtx 256 a b ha hb h1 h2
 ·intro h;subst h;exact⟨rfl,rfl⟩
theorem qtU(l:List UInt8):pk l=vl 256 (l.map UInt8.toNat):=by
 induction l with
 | nil=>rfl
 | cons b l ih=>simp only[pk,List.map_cons,vl,ih]
theorem qxf(l:List UInt8):Str.ofL l=sl (l.map UInt8.toNat):=by
 unfold Str.ofL sl
 rw[qtU,List.length_map]
theorem qhu{l:List Nat}(h:Dg 256 l)(i:Nat)(ha:l.getD i 0<128):(sl l).rune i=(l.getD i 0,1):=by
 unfold Str.rune
 rw[qnE h i,show Nat.blt (l.getD i 0) 128=true from by rw[Nat.blt_eq];exact ha]
 rfl
theorem qp5{l:List Nat}(h:Dg 256 l)(i:Nat)(hi:i<l.length)(ha:¬l.getD i 0<128):128≤((sl l).rune i).1∧((sl l).rune i).1<2147483648:=by
 have hs:=Str.Qc7 (sl l) (i:=i) hi
 rw[hs]
 obtain⟨b,h1,h2⟩:=(sl l).QcW hi
 rw[qnE h i]at h2
 have h3:((sl l).bytes.get! (i+0)).toNat=l.getD i 0:=by
  have:(sl l).bytes.data[i]? = some b:=by rw[←Array.getElem?_toList];exact h1
  have h4:(sl l).bytes.get! (i+0)=b:=by
   show(sl l).bytes.data[i+0]! = b
   rw[Nat.add_zero,getElem!_def,this]
  rw[h4];exact h2.symm
 unfold Utf8.decode
 simp only[h3]
 rw[if_neg ha]
 have b1:∀ k,((sl l).bytes.get! (i+k)).toNat<256:=fun k=>((sl l).bytes.get! (i+k)).toNat_lt
 have c1:=b1 1;have c2:=b1 2;have c3:=b1 3
 have e:Utf8.runeError=65533:=rfl
 have hl:l.getD i 0<256:=h.get (by decide) i
 split
 ·split
  ·rename_i hc;exact⟨hc,by show _<2147483648;omega⟩
  ·rw[e];exact⟨by decide,by decide⟩
 ·split
  ·split
   ·rename_i hc
    simp only[Bool.and_eq_true,decide_eq_true_eq]at hc
    exact⟨by have:=hc.1;show 128≤_;omega,by show _<2147483648;omega⟩
   ·rw[e];exact⟨by decide,by decide⟩
  ·split
   ·split
    ·rename_i hc
     simp only[Bool.and_eq_true,decide_eq_true_eq]at hc
     exact⟨by have:=hc.1;show 128≤_;omega,by show _<2147483648;omega⟩
    ·rw[e];exact⟨by decide,by decide⟩
   ·rw[e];exact⟨by decide,by decide⟩
section
variable {P:Program}{C:Cfg}{call:Qad}{gl:Nat→Bool}{o:Oper}{tm:Tm}{loc:Lo}{hp:Hp}{j:V→Lo→Hp→R}
theorem qoy{d x:Nat}{t:TypeId}{s:Str}(hd:o.dst=some d)(ho:o.op=.range t (.tmp x))(hu:P.underlying t=some .string)(hg:gl d=false) :
  gen P C call gl o (pt .lf x (.str s)) tm loc hp j=j (.ptr (.loc d ((lg loc d).1+1)) 0) (lp loc d ((lg loc d).1+1,.iter s 0)) hp:=by
 refine qaL (v:=.ptr (.loc d ((lg loc d).1+1)) 0) (st:=⟨pt .lf x (.str s),lp loc d ((lg loc d).1+1,.iter s 0),hp⟩) hd ?_
 have hx:gt (pt .lf x (.str s)) x=.str s:=by rw[qal,if_pos rfl]
 have hp1:Qal P C gl (⟨pt .lf x (.str s),loc,hp⟩:St).ρ (⟨pt .lf x (.str s),loc,hp⟩:St).lc o=some (.ptr (.loc d ((lg loc d).1+1)) 0,some (d,(lg loc d).1+1,.iter s 0)):=by
  unfold Qal
  simp only[ho,hu,qaB,hx,hd,hg,cond_false,qdZ]
 unfold Qah
 rw[hp1]
 simp only[Qa4,qbs]
theorem qrj{d x s g pos:Nat}{u:Str}(hd:o.dst=some d)(ho:o.op=.next (.tmp x) true)(hr:lg loc s=(g,.iter u pos))(hlt:pos<u.n) :
  gen P C call gl o (pt .lf x (.ptr (.loc s g) 0)) tm loc hp j=j (.tuple [.bool true,.int .i64 (.ofNat pos),.int .i32 (.ofNat (u.rune pos).1)]) (lp loc s (g,.iter u (pos+(u.rune pos).2))) hp:=by
 have hx:gt (pt .lf x (.ptr (.loc s g) 0)) x=.ptr (.loc s g) 0:=by rw[qal,if_pos rfl]
 refine qaL (v:=.tuple [.bool true,.int .i64 (.ofNat pos),.int .i32 (.ofNat (u.rune pos).1)]) (st:=⟨pt .lf x (.ptr (.loc s g) 0),lp loc s (g,.iter u (pos+(u.rune pos).2)),hp⟩) hd ?_
 have hp1:Qal P C gl (⟨pt .lf x (.ptr (.loc s g) 0),loc,hp⟩:St).ρ (⟨pt .lf x (.ptr (.loc s g) 0),loc,hp⟩:St).lc o=none:=by
  unfold Qal
  simp only[ho,Qam,Option.map_none]
 unfold Qah
 rw[hp1]
 unfold stepG
 have hrow:Qab ⟨pt .lf x (.ptr (.loc s g) 0),loc,hp⟩ (.loc s g)=some (.iter u pos):=qap hr
 simp only[ho,qaB,hx,hrow]
 rw[show Nat.blt pos u.n=true from by rw[Nat.blt_eq];exact hlt]
 simp only[cond_true,qca]
 rfl
theorem qj6{d x s g pos:Nat}{u:Str}(hd:o.dst=some d)(ho:o.op=.next (.tmp x) true)(hr:lg loc s=(g,.iter u pos))(hlt:¬pos<u.n) :
  gen P C call gl o (pt .lf x (.ptr (.loc s g) 0)) tm loc hp j=j (.tuple [.bool false]) loc hp:=by
 have hx:gt (pt .lf x (.ptr (.loc s g) 0)) x=.ptr (.loc s g) 0:=by rw[qal,if_pos rfl]
 refine qaL (v:=.tuple [.bool false]) (st:=⟨pt .lf x (.ptr (.loc s g) 0),loc,hp⟩) hd ?_
 have hp1:Qal P C gl (⟨pt .lf x (.ptr (.loc s g) 0),loc,hp⟩:St).ρ (⟨pt .lf x (.ptr (.loc s g) 0),loc,hp⟩:St).lc o=none:=by
  unfold Qal
  simp only[ho,Qam,Option.map_none]
 unfold Qah
 rw[hp1]
 unfold stepG
 have hrow:Qab ⟨pt .lf x (.ptr (.loc s g) 0),loc,hp⟩ (.loc s g)=some (.iter u pos):=qap hr
 simp only[ho,qaB,hx,hrow]
 rw[show Nat.blt pos u.n=false from by
  cases h:Nat.blt pos u.n with
  | false=>rfl
  | true=>exact absurd (by rwa [Nat.blt_eq]at h) hlt]
 rfl
theorem qnf(l:List Nat):bytesOf (nl .u8 l)=some (l.map UInt8.ofNat):=by
 unfold nl
 induction l with
 | nil=>rfl
 | cons x l ih=>simp only[List.map_cons,bytesOf,ih,Option.map_some];rfl
theorem qn4{l:List Nat}(h:Dg 256 l):Str.ofL (l.map UInt8.ofNat)=sl l:=by
 rw[qxf]
 congr 1
 rw[List.map_map]
 conv=>rhs;rw[←List.map_id l]
 refine List.map_congr_left (fun x hx=>?_)
 have:x<256:=h x hx
 show(UInt8.ofNat x).toNat=x
 rw[UInt8.toNat_ofNat']
 exact Nat.mod_eq_of_lt this
theorem ql5{d x:Nat}{s t e:TypeId}{w:V}{l:List Nat}(hd:o.dst=some d)(ho:o.op=.convert s t (.tmp x))(h1:P.underlying s=some (.slice e))(h2:P.underlying t=some .string)(h3:P.underlying e=some (.int .u8))(hw:∀ q,w≠.str q)
  (hi:∀ tm,Qag ⟨tm,loc,hp⟩ w=some (nl .u8 l)) (hl:Dg 256 l) :
  gen P C call gl o (pt .lf x w) tm loc hp j=j (.str (sl l)) loc hp:=by
 have hx:gt (pt .lf x w) x=w:=by rw[qal,if_pos rfl]
 refine qaL (v:=.str (sl l)) (st:=⟨pt .lf x w,loc,hp⟩) hd ?_
 have hp1:Qal P C gl (⟨pt .lf x w,loc,hp⟩:St).ρ (⟨pt .lf x w,loc,hp⟩:St).lc o=none:=by
  unfold Qal
  simp only[ho,Qam,qaB,hx,Qcr,h1,h2]
  rfl
 unfold Qah
 rw[hp1]
 unfold stepG
 simp only[ho,hd,QbS,h1,h2,h3,qaB,hx,hi]
 cases w with
 | str q=>exact absurd rfl (hw q)
 | _=>simp only[qnf,Option.map_some,qn4 hl]
end
theorem qcj{l:List Nat}(h:Dg 256 l)(k:IntKind)(i:Nat)(hi:i<l.length):idx Pg 9 (.str (sl l)) (.int k (.ofNat i))=some (.int .u8 (.ofNat (l.getD i 0))):=by
 have hu:G.isStr (Pg.underlying 9)=true:=by rw[U9];rfl
 show(bif G.isStr (Pg.underlying 9)then (bif Nat.blt i l.length then some (V.int .u8 (.ofNat ((sl l).get i)))else none)else none)=_
 rw[hu,show Nat.blt i l.length=true from by rw[Nat.blt_eq];exact hi,qnE h i]
 rfl
theorem qp3{P:Program}{t:TypeId}(hu:P.underlying t=some .string){l:List Nat}(h:Dg 256 l)(k:IntKind)(i:Nat)(hi:i≤l.length):slc P t (.str (sl l)) (some (.int k (.ofNat i))) none none=some (.str (sl (l.drop i))):=by
 have e0:slc P t (.str (sl l)) (some (.int k (.ofNat i))) none none=F.Qbd P t (.str (sl l)) (some (.ofNat i)) none none:=rfl
 rw[e0]
 unfold F.Qbd
 simp only[hu]
 unfold F.QbK
 simp only[Option.getD_none,Option.getD_some,F.Qau,qyR]
 have e1:Nat.ble l.length l.length=true:=by rw[Nat.ble_eq];exact Nat.le_refl _
 have e2:Nat.ble i l.length=true:=by rw[Nat.ble_eq];exact hi
 show(match (bif Nat.ble l.length l.length then some l.length else none)with
  | none=>none
  | some h=>match (bif Nat.ble i h then some i else none)with
   | none=>none
   | some k=>some (V.str ((sl l).cut k h)))=_
 rw[e1]
 simp only[cond_true,e2]
 rw[qw9 h i l.length hi (Nat.le_refl _),List.take_length]
theorem qnB{l:List Nat}(h:Dg 256 l)(k:IntKind)(i:Nat)(hi:i≤l.length):slc Pg 9 (.str (sl l)) (some (.int k (.ofNat i))) none none=some (.str (sl (l.drop i))):=qp3 U9 h k i hi
theorem ql9(t:TypeId)(cn:Bool){a b:List Nat}(ha:Dg 256 a)(hb:Dg 256 b):bin Pg .eql t cn (.str (sl a)) (.str (sl b))=some (.bool (decide (a=b))):=by
 show some (V.bool ((sl a).same (sl b)))=_
 rw[qnD ha hb]
theorem qkm(t:TypeId)(cn:Bool){a:List Nat}(ha:Dg 256 a):bin Pg .eql t cn (.str (sl a)) (.str ⟨0,0⟩)=some (.bool (decide (a=[]))):=ql9 t cn ha (b:=[]) (Dg.nil 256)
theorem qsP(t:TypeId)(cn:Bool)(x y:Str):bin Pg .add t cn (.str x) (.str y)=Qcz .add x y:=rfl
theorem qtA(x y:Str)(h:Nat.ble (Nat.add x.n y.n) 4611686018427387904=true):Qcz .add x y=some (.str (x.app y)):=by
 unfold Qcz
 rw[h];rfl
theorem qlJ(t:TypeId)(cn:Bool){a b:List Nat}(ha:Dg 256 a)(hl:a.length+b.length≤4611686018427387904):bin Pg .add t cn (.str (sl a)) (.str (sl b))=some (.str (sl (a++b))):=by
 rw[qsP,qtA _ _ (Nat.ble_eq_true_of_le hl),qxa ha]
attribute [go_sem] qyR
end Go.AM.S
end
section
namespace Go.AM.S
open Go Go.AM Go.Proofs NumL
open _root_.Go.AM.G (R)
set_option maxRecDepth 100000
theorem tbl15:tbl 15=some ⟨rc15,[.cell 2 26,.tmp 3]⟩:=by kernel_rfl
theorem qdc{h s:Hp}(hd:DG h.rows.length s):QaX h s=true:=by
 unfold QaX
 cases hq:s.dirty with
 | none=>rfl
 | some d=>have:=hd d hq;simp only[Nat.ble_eq];exact this
theorem qcz{h:Hp}{a t b d g:Nat}{f:Bool}{s:St}{x y w:V}(hl:Qax Pg t=some (2,true))(hv:gt s.tm a=.ptr (.loc d g) 0)(hr:lg s.loc d=(g,.cells f [x,y]))(hx:Pl x)(hy:Pl y)(hb:gt s.tm b=w)(hw:Pl w)(hc:DG h.rows.length s.hp) :
  fin Pg h [.cell a t,.tmp b] s=some (.val (.tuple [.agg [x,y],w]) h):=by
 unfold fin
 have e1:Qbj Pg s [.cell a t,.tmp b]=some [.agg [x,y],w]:=by
  simp only[Qbj,qbI,hv,hb,qap hr,QaV,hl,Option.map_some]
  rfl
 rw[e1]
 have e2:=qb3 [.agg [x,y],w] s ⟨qda (cs:=[x,y]) (by intro v hv;simp at hv;rcases hv with rfl | rfl<;>assumption),hw.ex,trivial⟩
 simp only[e2]
 unfold Qar
 rw[qdc hc]
 simp only[V.Qaf,V.Qao,hx.refs,hy.refs,hw.refs,Bool.and_self,cond_true]
def dv(l:List Nat):Nat:=l.foldl (fun n b=>10*n+(b - 48)) 0
theorem qln(l:List Nat)(b:Nat):dv (l++[b])=10*dv l+(b - 48):=by simp[dv]
def ng(l:List Nat):Bool:=decide (l.getD 0 0=45)
def Qan(l:List Nat):List Nat:=bif ng l then l.drop 1 else l
def Qch(l:List Nat):Bool:=(Qan l).isEmpty || (decide ((Qan l).getD 0 0=48)&&(decide (1<(Qan l).length) || ng l))
def Dec(l:List Nat):Prop:=∀ b ∈ l,48≤b∧b≤57
instance (l:List Nat):Decidable (Dec l):=by unfold Dec;infer_instance
def Qa8(l:List Nat):Bool:=!Qch l&&decide (Dec (Qan l))
def zOf(l:List Nat):Int:=bif Qa8 l then (bif ng l then -(dv (Qan l):Int)else (dv (Qan l):Int))else 0
theorem qn6{l:List Nat}(h:ng l=true):1≤l.length:=by
 cases l with
 | nil=>simp[ng]at h
 | cons x l=>simp
theorem qmg{l:List Nat}(h:Dg 256 l):Dg 256 (Qan l):=by
 unfold Qan
 cases ng l with
 | true=>exact h.drop 1
 | false=>exact h
theorem qky(l:List Nat):(Qan l).length≤l.length:=by
 unfold Qan
 cases ng l<;>simp
theorem qdj(r:List Nat)(i:Nat)(h:i<r.length):r.take (i+1)=r.take i++[r.getD i 0]:=by
 rw[List.take_add_one,List.getD_eq_getElem?_getD,List.getElem?_eq_getElem h];simp
theorem Dec.snoc{l:List Nat}(h:Dec l){b:Nat}(h1:48≤b)(h2:b≤57):Dec (l++[b]):=by
 intro x hx
 rcases List.mem_append.1 hx with hx | hx
 ·exact h x hx
 ·rw[List.mem_singleton.1 hx];exact⟨h1,h2⟩
theorem qy5(l:Lo)(h:Hp)(c:Qad)(t:Tm)(j:V→Lo→Hp→R)(s:Str):go1 Try.f15 15 9 1 40 (.str s) c t l h j=j (.ptr (.loc 41 ((lg l 41).1+1)) 0) (lp l 41 ((lg l 41).1+1,.iter s 0)) h :=
 qoy (C:=Cg) (gl:=Cg.glob 15) (call:=c) (tm:=t) (loc:=l) (hp:=h) (j:=j) (x:=40) (s:=s) (o:=opA Try.f15 9 1) (d:=41) (t:=9) (by kernel_rfl) (by kernel_rfl) U9 (by kernel_rfl)
theorem nx15{l:Lo}{g pos:Nat}{u:Str}(hr:lg l 41=(g,.iter u pos))(hlt:pos<u.n)(h:Hp)(c:Qad)(t:Tm)(j:V→Lo→Hp→R):go1 Try.f15 15 10 0 41 (.ptr (.loc 41 g) 0) c t l h j=j (.tuple [.bool true,.int .i64 (.ofNat pos),.int .i32 (.ofNat (u.rune pos).1)]) (lp l 41 (g,.iter u (pos+(u.rune pos).2))) h :=
 qrj (C:=Cg) (gl:=Cg.glob 15) (call:=c) (tm:=t) (loc:=l) (hp:=h) (j:=j) (x:=41) (o:=opA Try.f15 10 0) (d:=42) (by kernel_rfl) (by kernel_rfl) hr hlt
theorem qBt{l:Lo}{g pos:Nat}{u:Str}(hr:lg l 41=(g,.iter u pos))(hlt:¬pos<u.n)(h:Hp)(c:Qad)(t:Tm)(j:V→Lo→Hp→R):go1 Try.f15 15 10 0 41 (.ptr (.loc 41 g) 0) c t l h j=j (.tuple [.bool false]) l h :=
 qj6 (C:=Cg) (gl:=Cg.glob 15) (call:=c) (tm:=t) (loc:=l) (hp:=h) (j:=j) (x:=41) (o:=opA Try.f15 10 0) (d:=42) (by kernel_rfl) (by kernel_rfl) hr hlt
theorem Gr.ex{h:Hp}{v:V}{k:IntKind}{l:List Nat}(hv:Gr h v k l):Ex1 v:=by
 rcases hv with ⟨_,rfl⟩ | ⟨_,r,rfl,_⟩
 ·exact Pl.nils.ex
 ·exact Ex1.glob _ _ _ _ _ _
structure IP(l:List Nat)(h:Hp)(s:St)(i c n:Nat)(lv:V)(D:List Nat):Prop where
 h2:gt s.tm 2=.ptr (.loc 2 1) 0
 h4:gt s.tm 4=.bool (ng l)
 h5:gt s.tm 5=.str (sl (Qan l))
 h6:gt s.tm 6=lv
 h7:gt s.tm 7=.int .u64 (.ofNat n)
 h8:gt s.tm 8=.int .i64 (.ofNat c)
 h41:gt s.tm 41=.ptr (.loc 41 1) 0
 l2:lg s.loc 2=(1,.cells false [.nils,.bool false])
 l41:lg s.loc 41=(1,.iter (sl (Qan l)) i)
 hi:i≤(Qan l).length
 gr:Gr s.hp lv .u32 D
 dg:Dg B D
 len:D.length≤i+1
 c9:c<9
 nc:n<10 ^ c
 v:vl B D*10 ^ c+n=dv ((Qan l).take i)
 dec:Dec ((Qan l).take i)
 last:i=(Qan l).length→c=0
 hdg:DG h.rows.length s.hp
 hrl:h.rows.length≤s.hp.rows.length
 lvn:∀ r,lv=.arr (.glob r) 0 D.length none 1 false→h.rows.length≤r
theorem qmz{l:List Nat}(hd:Dg 256 l)(hl:l.length≤1000):Gives 15 [.str (sl l)] fun r=>∃ v,r=.tuple [v,.bool (Qa8 l)]∧IsI 1002 v (zOf l):=by
 have rd:=qmg hd
 have rl:=qky l
 refine qak tbl15 fun h Q hQ=>?_
 have bad:∀ st:St,Qa8 l=false→gt st.tm 2=.ptr (.loc 2 1) 0→lg st.loc 2=(1,.cells false [.nils,.bool false])→gt st.tm 3=.bool false→DG h.rows.length st.hp→Q st:=by
  intro st hg h2 l2 h3 hdg
  refine hQ st _ (qcz (x:=.nils) (y:=.bool false) (w:=.bool false) (f:=false) (d:=2) (g:=1) (by kernel_rfl) h2 l2 Pl.nils (Pl.bool _) h3 (Pl.bool _) hdg) ⟨_,by rw[hg],?_⟩
  have e:zOf l=0:=by unfold zOf;rw[hg];rfl
  rw[e]
  exact Qdr.mono (by omega)
 unfold rc15
 refine sRG ?_
 refine qau (M:=fun s=>gt s.tm 4=.bool (ng l)∧Kp [0,2,3] (pt (pt (QaE [.str (sl l)]) 2 (.ptr (.loc 2 1) 0)) 3 (.bool false)) s.tm∧s.loc=lp .lf 2 (1,.cells false [.nils,.bool false])∧s.hp=⟨h.rows,none,h.mods⟩) ?_ (fun s ⟨a4,ak,al,ah⟩=>?_)
 ·rcases Nat.eq_zero_or_pos l.length with h0 | h0
  ·have e:l=[]:=List.length_eq_zero_iff.1 h0
   refine qad (fun n k=>by simp -implicitDefEqProofs (disch:=omega) only[go_sem,reduceIte,Nat.reduceEqDiff,qae,List.getD_cons_zero,List.getD_cons_succ,qaY];rfl) ?_
   exact⟨by rw[e,show ng []=false from rfl];exact sS,(by(try dsimp only);repeat (first | with_reducible exact qaH _ _ | with_reducible refine qbh (by decide) ?_)),rfl,rfl⟩
  ·refine qad (fun n k=>by simp -implicitDefEqProofs (disch:=omega) only[go_sem,reduceIte,Nat.reduceEqDiff,qae,List.getD_cons_zero,List.getD_cons_succ,qaQ,qcj hd];rfl) ?_
   exact⟨(by simp -implicitDefEqProofs (disch:=omega) only[go_sem,reduceIte,Nat.reduceEqDiff,ng]),(by(try dsimp only);repeat (first | with_reducible exact qaH _ _ | with_reducible refine qbh (by decide) ?_)),rfl,rfl⟩
 have a0:gt s.tm 0=.str (sl l):=(ak 0 (by decide)).trans sSG
 have a2:gt s.tm 2=.ptr (.loc 2 1) 0:=(ak 2 (by decide)).trans sS
 have al2:lg s.loc 2=(1,.cells false [.nils,.bool false]):=by rw[al];exact sS
 refine sR1 a0 ?_
 refine qau (M:=fun s2=>gt s2.tm 5=.str (sl (Qan l))∧Kp [2,3,4] s.tm s2.tm∧s2.loc=s.loc∧s2.hp=s.hp) ?_ (fun s2 ⟨b5,bk,bl,bh⟩=>?_)
 ·refine sR1 a4 ?_
  cases hng:ng l with
  | true =>
   have hlen:=qn6 hng
   have eb:Qan l=l.drop 1:=by unfold Qan;rw[hng];rfl
   refine qan (sS2 a4 hng) ?_
   refine qad (fun n k=>by simp -implicitDefEqProofs (disch:=omega) only[go_sem,reduceIte,Nat.reduceEqDiff,a0,qnB hd];rfl) ?_
   exact⟨by rw[eb];exact sS,(by(try dsimp only);repeat (first | with_reducible exact qaH _ _ | with_reducible refine qbh (by decide) ?_)),rfl,rfl⟩
  | false =>
   have eb:Qan l=l:=by unfold Qan;rw[hng];rfl
   refine qaj (sS2 a4 hng) (qag ?_)
   exact⟨by rw[eb];exact sS,(by(try dsimp only);repeat (first | with_reducible exact qaH _ _ | with_reducible refine qbh (by decide) ?_)),rfl,rfl⟩
 have b4:=(bk 4 (by decide)).trans a4;have b2:=(bk 2 (by decide)).trans a2
 have bl2:lg s2.loc 2=(1,.cells false [.nils,.bool false]):=by rw[bl];exact al2
 have bhd:DG h.rows.length s2.hp:=by rw[bh,ah];exact fun x hx=>by cases hx
 have b3:gt s2.tm 3=.bool false:=(bk 3 (by decide)).trans ((ak 3 (by decide)).trans sS)
 refine qcS (fun s3=>Qch l=false∧Kp [2,3,4,5] s2.tm s3.tm∧s3.loc=s2.loc∧s3.hp=s2.hp) ?_ (fun s3 ⟨hbad,ck,cl',ch⟩=>?_)
 ·have quit:∀ tm,Kp [2,3] s2.tm tm→Qch l=true→WW Pg kn0 tbl (.seq (.reg fun c t l h k=>gn Try.f15 15 6 0 c t t l h (fun v0 l0 h0=>jn (fun v1 l1 h1=>k (p3 t (.bool false)) l1 h1) fun j1=>sto 26 (g2 t) v0 l0 h0 j1 (gn Try.f15 15 6 1 c (p39 (p2 t (g2 t)) v0) t l0 h0 j1))) .ret) ⟨tm,s2.loc,s2.hp⟩ (fun s3=>Qch l=false∧Kp [2,3,4,5] s2.tm s3.tm∧s3.loc=s2.loc∧s3.hp=s2.hp) (fun _ _=>False) Q:=by
   intro tm hk hb
   have q2:=(hk 2 (by decide)).trans b2
   refine qac (qad (fun n k=>by simp -implicitDefEqProofs (disch:=omega) only[go_sem,reduceIte,Nat.reduceEqDiff,q2,bl2,qah N26 1 .nils (.bool false) .nils (.bool false) _ rfl rfl];rfl) ?_)
   exact qai (bad _ (by unfold Qa8;rw[hb];rfl) (sS1 q2) sS sS bhd)
  by_cases hr:Qan l=[]
  ·have hb:Qch l=true:=by unfold Qch;rw[hr];rfl
   refine qac (qad (fun n k=>by simp -implicitDefEqProofs (disch:=omega) only[go_sem,reduceIte,Nat.reduceEqDiff,b5,qkm 9 true rd,hr];rfl) ?_)
   refine qan sS ?_
   exact quit _ (by(try dsimp only);repeat (first | with_reducible exact qaH _ _ | with_reducible refine qbh (by decide) ?_)) hb
  ·have hdec:decide (Qan l=[])=false:=decide_eq_false hr
   have hlen:0<(Qan l).length:=List.length_pos_iff.2 hr
   have hemp:(Qan l).isEmpty=false:=by cases h:Qan l with | nil=>exact absurd h hr | cons x t=>rfl
   by_cases h48:(Qan l).getD 0 0=48
   ·by_cases h1:1<(Qan l).length
    ·have hb:Qch l=true:=by unfold Qch;rw[hemp,decide_eq_true h48,decide_eq_true h1];rfl
     refine qac (qad (fun n k=>by simp -implicitDefEqProofs (disch:=omega) only[go_sem,reduceIte,Nat.reduceEqDiff,b4,b5,qkm 9 true rd,hdec,Bool.not_false,qcj rd,h48,qaQ];rfl) ?_)
     refine qan sS ?_
     exact quit _ (by(try dsimp only);repeat (first | with_reducible exact qaH _ _ | with_reducible refine qbh (by decide) ?_)) hb
    ·cases hng:ng l with
     | true =>
      have hb:Qch l=true:=by unfold Qch;rw[hemp,decide_eq_true h48,hng];simp
      refine qac (qad (fun n k=>by simp -implicitDefEqProofs (disch:=omega) only[go_sem,reduceIte,Nat.reduceEqDiff,b4,b5,qkm 9 true rd,hdec,Bool.not_false,qcj rd,h48,qaY,hng];rfl) ?_)
      refine qan sS ?_
      exact quit _ (by(try dsimp only);repeat (first | with_reducible exact qaH _ _ | with_reducible refine qbh (by decide) ?_)) hb
     | false =>
      have hb:Qch l=false:=by unfold Qch;rw[hemp,decide_eq_true h48,hng,decide_eq_false h1];rfl
      refine qac (qad (fun n k=>by simp -implicitDefEqProofs (disch:=omega) only[go_sem,reduceIte,Nat.reduceEqDiff,b4,b5,qkm 9 true rd,hdec,Bool.not_false,qcj rd,h48,qaY,hng];rfl) ?_)
      refine qaj sS (qag ?_)
      exact⟨hb,(by(try dsimp only);repeat (first | with_reducible exact qaH _ _ | with_reducible refine qbh (by decide) ?_)),rfl,rfl⟩
   ·have hb:Qch l=false:=by unfold Qch;rw[hemp,decide_eq_false h48];rfl
    have hd48:decide ((Qan l).getD 0 0=48)=false:=decide_eq_false h48
    refine qac (qad (fun n k=>by simp -implicitDefEqProofs (disch:=omega) only[go_sem,reduceIte,Nat.reduceEqDiff,b4,b5,qkm 9 true rd,hdec,Bool.not_false,Bool.not_true,qcj rd,hd48];rfl) ?_)
    refine qaj sS (qag ?_)
    exact⟨hb,(by(try dsimp only);repeat (first | with_reducible exact qaH _ _ | with_reducible refine qbh (by decide) ?_)),rfl,rfl⟩
 ·have c2:=(ck 2 (by decide)).trans b2;have c3:=(ck 3 (by decide)).trans b3;have c4:=(ck 4 (by decide)).trans b4;have c5:=(ck 5 (by decide)).trans b5
  have cl2:lg s3.loc 2=(1,.cells false [.nils,.bool false]):=by rw[cl'];exact bl2
  have cl41:lg s3.loc 41=(0,.gone):=by rw[cl',bl,al];exact sS
  have chd:DG h.rows.length s3.hp:=by rw[ch];exact bhd
  have hrl0:s3.hp.rows.length=h.rows.length:=by rw[ch,bh,ah]
  have hpos:0<(Qan l).length:=by
   rcases Nat.eq_zero_or_pos (Qan l).length with h0 | h0
   ·have e:=List.length_eq_zero_iff.1 h0
    unfold Qch at hbad;rw[e]at hbad;simp at hbad
   ·exact h0
  refine sR ?_
  refine sR ?_
  refine sQ3 c5 cl41 qy5 ?_
  refine qaP (fun m s=>∃ i c n lv D,m+i=(Qan l).length∧IP l h s i c n lv D∧gt s.tm 3=.bool false) (Qan l).length ⟨0,0,0,.nils,[],rfl,⟨(sS1 c2),(sS1 c4),(sS1 c5),sS,sS,sS,sS,(sS1 cl2),sS,Nat.zero_le _,.inl ⟨rfl,rfl⟩,Dg.nil B,by simp,by decide,by decide,rfl,fun x hx=>by simp at hx,fun e=>rfl,chd,Nat.le_of_eq hrl0.symm,fun r e=>by cases e⟩,(sS1 c3)⟩ ?_
  intro m s ⟨i,c,n,lv,D,hm,H,h3⟩
  obtain⟨h2,h4,h5,h6,h7,h8,h41,l2,l41,hi,gr,dg,hDl,c9,nc,hv,dec,last,hdg,hrl,lvn⟩:=H
  by_cases hlt:i<(Qan l).length
  ·generalize hrn:((sl (Qan l)).rune i)=rw1 at *
   have nx:=nx15 l41 hlt
   rw[hrn]at nx
   refine qac (qad (fun n k=>by simp -implicitDefEqProofs (disch:=omega) only[go_sem,reduceIte,Nat.reduceEqDiff,h41,nx];rfl) ?_)
   refine qac (qan sS (qag ?_))
   refine qaq ?_
   refine sR ?_
   have hb:(Qan l).getD i 0<256:=rd.get (by decide) i
   by_cases hdig:48≤(Qan l).getD i 0∧(Qan l).getD i 0≤57
   ·have era:rw1=((Qan l).getD i 0,1):=by rw[←hrn];exact qhu rd i (by omega)
    subst era
    have hn8:n<100000000:=Nat.lt_of_lt_of_le nc (Nat.pow_le_pow_right (by decide) (show c≤8 by omega))
    refine qac (qac (qad (fun n k=>by simp -implicitDefEqProofs (disch:=omega) only[go_sem,reduceIte,Nat.reduceEqDiff,qaY,Bool.not_false];rfl) ?_))
    refine qaj sS (qag ?_)
    refine sR1 h7 ?_
    refine sR1 h8 ?_
    have hdv:dv ((Qan l).take (i+1))=10*dv ((Qan l).take i)+((Qan l).getD i 0 - 48):=by rw[qdj _ _ hlt,qln]
    have hdec:Dec ((Qan l).take (i+1)):=by rw[qdj _ _ hlt];exact dec.snoc hdig.1 hdig.2
    have hnc:10*n+((Qan l).getD i 0 - 48)<10 ^ (c+1):=by rw[Nat.pow_succ];omega
    have hvv:vl B D*10 ^ (c+1)+(10*n+((Qan l).getD i 0 - 48))=dv ((Qan l).take (i+1)):=by
     rw[hdv,←hv,Nat.pow_succ,←Nat.mul_assoc];omega
    refine qcS (fun s4=>gt s4.tm 69=.bool (decide (c+1=9∨i+1=(Qan l).length))∧gt s4.tm 7=.int .u64 (.ofNat (10*n+((Qan l).getD i 0 - 48)))∧gt s4.tm 8=.int .i64 (.ofNat (c+1))∧Kp [2,3,4,5,6,41] s.tm s4.tm∧s4.loc=lp s.loc 41 (1,.iter (sl (Qan l)) (i+1))∧s4.hp=s.hp) ?_ (fun s4 ⟨e69,e7,e8,ek,el,eh⟩=>?_)
    ·by_cases h9:c+1=9
     ·refine qad (fun n k=>by simp -implicitDefEqProofs (disch:=omega) only[go_sem,reduceIte,Nat.reduceEqDiff,h8,qaQ,Bool.not_true];rfl) ?_
      exact⟨(by simp -implicitDefEqProofs (disch:=omega) only[go_sem,reduceIte,Nat.reduceEqDiff,qaQ]),sS,sS,(by(try dsimp only);repeat (first | with_reducible exact qaH _ _ | with_reducible refine qbh (by decide) ?_)),rfl,rfl⟩
     ·have hd9:decide (c=8)=false:=decide_eq_false (by omega)
      refine qad (fun n k=>by simp -implicitDefEqProofs (disch:=omega) only[go_sem,reduceIte,Nat.reduceEqDiff,h5,h8,hd9,Bool.not_false];rfl) ?_
      refine⟨?_,sS,sS,(by(try dsimp only);repeat (first | with_reducible exact qaH _ _ | with_reducible refine qbh (by decide) ?_)),rfl,rfl⟩
      have e:decide (c+1=9∨i+1=(Qan l).length)=decide (i=(Qan l).length - 1):=by
       congr 1;apply propext;omega
      rw[e]
      exact sS
    ·have k2:=(ek 2 (by decide)).trans h2;have k3:=(ek 3 (by decide)).trans h3;have k4:=(ek 4 (by decide)).trans h4;have k5:=(ek 5 (by decide)).trans h5
     have k6:=(ek 6 (by decide)).trans h6;have k41:=(ek 41 (by decide)).trans h41
     have m2:lg s4.loc 2=(1,.cells false [.nils,.bool false]):=by rw[el];exact(sS1 l2)
     have m41:lg s4.loc 41=(1,.iter (sl (Qan l)) (i+1)):=by rw[el];exact sS
     refine qaU e69 (fun hf=>?_) (fun hf=>qag ?_)
     ·refine sR ?_
      refine qau (M:=fun s5=>gt s5.tm 11=.int .u64 (.ofNat (10 ^ (c+1)))∧Kp [2,3,4,5,6,7,8,41] s4.tm s5.tm∧s5.loc=s4.loc∧s5.hp=s4.hp) ?_ (fun s5 ⟨f11,fk,fl,fh⟩=>?_)
      ·refine sR1 e8 ?_
       refine qaP (fun m5 s6=>∃ k,m5+k=c+1∧gt s6.tm 11=.int .u64 (.ofNat (10 ^ k))∧gt s6.tm 70=.int .i64 (.ofNat (c+1))∧gt s6.tm 71=.int .i64 (.ofNat k)∧Kp [2,3,4,5,6,7,8,41] s4.tm s6.tm∧s6.loc=s4.loc∧s6.hp=s4.hp) (c+1) ⟨0,rfl,(by simp -implicitDefEqProofs (disch:=omega) only[go_sem,reduceIte,Nat.reduceEqDiff,Nat.pow_zero]),sS,sS,(by(try dsimp only);repeat (first | with_reducible exact qaH _ _ | with_reducible refine qbh (by decide) ?_)),rfl,rfl⟩ ?_
       intro m5 s6 ⟨k,hk,g11,g70,g71,gk,gl,gh⟩
       refine sR2 g70 g71 ?_
       refine qac (qaU (by simp only[qal,reduceIte];rfl) (fun hkc=>qag ?_) (fun hkc=>qax ?_))
       ·have h10:10 ^ k≤100000000:=Nat.pow_le_pow_right (n:=10) (by decide) (show k≤8 by omega)
        refine qac (qaq ?_)
        refine sE1 g11 ?_
        refine sE1 g71 ?_
        refine⟨m5 - 1,by omega,k+1,by omega,?_,(sS1 g70),sS,?_,gl,gh⟩
        ·exact(by simp -implicitDefEqProofs (disch:=omega) only[go_sem,reduceIte,Nat.reduceEqDiff,Nat.pow_succ])
        ·intro j hj
         have:=gk j hj
         rw[qal,if_neg (by intro e;subst e;simp at hj),qal,if_neg (by intro e;subst e;simp at hj),qal,if_neg (by intro e;subst e;simp at hj)]
         exact this
       ·rw[if_pos rfl]
        have ek':k=c+1:=by omega
        subst ek'
        refine⟨(sS1 g11),?_,gl,gh⟩
        intro j hj
        rw[qal,if_neg (by intro e;subst e;simp at hj)]
        exact gk j hj
      ·have hT:10 ^ (c+1)<4294967296:=Nat.lt_of_le_of_lt (Nat.pow_le_pow_right (n:=10) (by decide) (show c+1≤9 by omega)) (by decide)
       have p6:=(fk 6 (by decide)).trans k6;have p7:=(fk 7 (by decide)).trans e7
       have hp5:s5.hp=s.hp:=fh.trans eh
       obtain⟨v',h',D',hrun,gr',dg',hv',hl',hH,hvn',hle'⟩:=qhH (n:=h.rows.length) (h:=s5.hp) (10 ^ (c+1)) (10*n+((Qan l).getD i 0 - 48)) (by rw[hp5];exact gr) dg (by omega) hT (by omega) (by rw[hp5];exact hdg) lvn (by rw[hp5];exact hrl)
       refine qac (qaf (hrun) (fun n hn k=>by simp -implicitDefEqProofs (disch:=omega) only[go_sem,reduceIte,Nat.reduceEqDiff,p6,p7,f11,qxQ hn gr.ex (Ex1.int _ _) (Ex1.int _ _)];rfl) ?_)
       refine sE ?_
       have q:=fun j hj=>fk j hj
       refine⟨m - 1,by omega,i+1,0,0,v',D',by omega,⟨(by simp -implicitDefEqProofs (disch:=omega) only[go_sem,reduceIte,Nat.reduceEqDiff,q 2 (by decide),k2]),(by simp -implicitDefEqProofs (disch:=omega) only[go_sem,reduceIte,Nat.reduceEqDiff,q 4 (by decide),k4]),(by simp -implicitDefEqProofs (disch:=omega) only[go_sem,reduceIte,Nat.reduceEqDiff,q 5 (by decide),k5]),sS,sS,sS,(by simp -implicitDefEqProofs (disch:=omega) only[go_sem,reduceIte,Nat.reduceEqDiff,q 41 (by decide),k41]),by rw[fl];exact m2,by rw[fl];exact m41,hlt,gr',dg',by omega,by decide,by decide,?_,hdec,fun _=>rfl,hH.dg,by have:=hH.len;rw[hp5]at this;exact Nat.le_trans hrl this,hvn'⟩,(by simp -implicitDefEqProofs (disch:=omega) only[go_sem,reduceIte,Nat.reduceEqDiff,q 3 (by decide),k3])⟩
       rw[Nat.pow_zero,Nat.mul_one,Nat.add_zero,hv']
       exact hvv
     ·have hf':¬(c+1=9)∧¬(i+1=(Qan l).length):=by omega
      exact⟨m - 1,by omega,i+1,c+1,_,lv,D,by omega,⟨k2,k4,k5,k6,e7,e8,k41,m2,m41,hlt,by rw[eh];exact gr,dg,by omega,by omega,hnc,hvv,hdec,fun e=>absurd e hf'.2,by rw[eh];exact hdg,by rw[eh];exact hrl,lvn⟩,k3⟩
   ·have hbad2:Qa8 l=false:=by
     unfold Qa8
     rw[decide_eq_false (show ¬Dec (Qan l) from fun hD=>hdig (hD _ (by rw[List.getD_eq_getElem?_getD,List.getElem?_eq_getElem hlt];exact List.getElem_mem hlt)))]
     simp
    have hcase:rw1.1<48∨57<rw1.1:=by
     by_cases ha:(Qan l).getD i 0<128
     ·have era:rw1=((Qan l).getD i 0,1):=by rw[←hrn];exact qhu rd i ha
      subst era
      show(Qan l).getD i 0<48∨57<(Qan l).getD i 0
      omega
     ·have:=qp5 rd i hlt ha
      rw[hrn]at this
      omega
    rcases hcase with hc | hc
    ·refine qac (qac (qad (fun n k=>by simp -implicitDefEqProofs (disch:=omega) only[go_sem,reduceIte,Nat.reduceEqDiff,qaQ,Bool.not_true];rfl) ?_))
     refine qan sS ?_
     refine qac (qad (fun n k=>by simp -implicitDefEqProofs (disch:=omega) only[go_sem,reduceIte,Nat.reduceEqDiff,h2,l2,qah N26 1 .nils (.bool false) .nils (.bool false) _ rfl rfl];rfl) ?_)
     exact qai (bad _ hbad2 (sS1 h2) sS sS hdg)
    ·have hf:¬rw1.1<48:=by omega
     refine qac (qac (qad (fun n k=>by simp -implicitDefEqProofs (disch:=omega) only[go_sem,reduceIte,Nat.reduceEqDiff,qaQ,qaY,Bool.not_false];rfl) ?_))
     refine qan sS ?_
     refine qac (qad (fun n k=>by simp -implicitDefEqProofs (disch:=omega) only[go_sem,reduceIte,Nat.reduceEqDiff,h2,l2,qah N26 1 .nils (.bool false) .nils (.bool false) _ rfl rfl];rfl) ?_)
     exact qai (bad _ hbad2 (sS1 h2) sS sS hdg)
  ·refine qac (qad (fun n k=>by simp -implicitDefEqProofs (disch:=omega) only[go_sem,reduceIte,Nat.reduceEqDiff,h41,qBt l41 hlt];rfl) ?_)
   refine qac (qaj sS (qax ?_))
   rw[if_pos rfl]
   have ei:i=(Qan l).length:=by omega
   have ec:=last ei
   subst ec
   have en:n=0:=by rw[Nat.pow_zero]at nc;omega
   subst en
   rw[ei,List.take_length,Nat.pow_zero,Nat.mul_one,Nat.add_zero]at hv
   rw[ei,List.take_length]at dec
   have hgood:Qa8 l=true:=by unfold Qa8;rw[hbad,decide_eq_true dec];rfl
   have fin2:∀ (st:St) (w:V) (d:List Nat),NI w d (ng l && !d.isEmpty)→Tr0 D d→(∃ x y,w=.agg [x,y]∧lg st.loc 2=(1,.cells false [x,y]))→gt st.tm 2=.ptr (.loc 2 1) 0→gt st.tm 3=.bool true→DG h.rows.length st.hp→Q st:=by
    intro st w d hn ht ⟨x,y,e1,e2⟩ j2 j3 jd
    obtain⟨⟨s1,e3,hs1⟩,q1⟩:=hn
    subst e1
    obtain⟨e4,e5⟩:x=s1∧y=.bool (ng l && !d.isEmpty):=by simpa using e3
    subst e4;subst e5
    refine hQ st _ (qcz (x:=x) (y:=.bool (ng l && !d.isEmpty)) (w:=.bool true) (f:=false) (d:=2) (g:=1) (by kernel_rfl) j2 e2 hs1.pl (Pl.bool _) j3 (Pl.bool _) jd) ⟨_,by rw[hgood],d,_,⟨⟨x,rfl,hs1⟩,q1⟩,?_,by have:=ht.len;omega⟩
    have e6:=ht.vl B
    rw[hv]at e6
    unfold zOf zv
    rw[hgood]
    cases hng:ng l with
    | false=>simp only[Bool.false_and,cond_false,cond_true,e6]
    | true =>
     cases d with
     | nil=>simp only[vl]at e6;simp only[List.isEmpty_nil,Bool.not_true,Bool.and_false,cond_false,cond_true,vl,←e6];rfl
     | cons x0 l0=>simp only[List.isEmpty_cons,Bool.not_false,Bool.and_self,cond_true,e6]
   rcases gr with ⟨eD,elv⟩ | ⟨hD0,r0,elv,hrow⟩
   ·subst eD;subst elv
    obtain⟨w,hr,d,hw,ht⟩:=qa3 (va:=.nils) (a:=[]) (.inr ⟨rfl,rfl⟩) (Dg.nil B) (by simp) (ng l) s.hp
    have hw0:=hw
    obtain⟨⟨x,rfl,hx⟩,_⟩:=hw
    refine qac (qaf (hr) (fun n hn k=>by simp -implicitDefEqProofs (disch:=omega) only[go_sem,reduceIte,Nat.reduceEqDiff,h2,h4,h6,l2,qb5 hn Pl.nils.ex (Ex1.bool _),qah N26 1 x (.bool (ng l && !d.isEmpty)) .nils (.bool false) _ hx.pl.ok rfl];rfl) ?_)
    exact qai (fin2 _ _ d hw0 ht ⟨_,_,rfl,sS⟩ (sS1 h2) sS hdg)
   ·subst elv
    have hnr:=lvn r0 rfl
    obtain⟨w,h',d,hr,hw,ht,hH,_⟩:=qgx (n:=h.rows.length) hrow dg (by omega) (ng l) hdg hnr
    have hw0:=hw
    obtain⟨⟨x,rfl,hx⟩,_⟩:=hw
    refine qac (qaf (hr) (fun n hn k=>by simp -implicitDefEqProofs (disch:=omega) only[go_sem,reduceIte,Nat.reduceEqDiff,h2,h4,h6,l2,qb5 hn (Ex1.glob _ _ _ _ _ _) (Ex1.bool _),qah N26 1 x (.bool (ng l && !d.isEmpty)) .nils (.bool false) _ hx.pl.ok rfl];rfl) ?_)
    exact qai (fin2 _ _ d hw0 ht ⟨_,_,rfl,sS⟩ (sS1 h2) sS hH.dg)
theorem tbl69:tbl 69=some ⟨rc69,[]⟩:=by kernel_rfl
theorem qey{a b:List Nat}(hl:a.length=b.length)(h:∀ i,i<a.length→a.getD i 0=b.getD i 0):a=b:=by
 apply List.ext_getElem hl
 intro i h1 h2
 have:=h i h1
 rw[List.getD_eq_getElem?_getD,List.getD_eq_getElem?_getD,List.getElem?_eq_getElem h1,List.getElem?_eq_getElem h2]at this
 simpa using this
theorem qfX(l:List Nat)(i:Nat)(h:i<l.length):l.reverse.getD i 0=l.getD (l.length - 1 - i) 0:=by
 rw[List.getD_eq_getElem?_getD,List.getD_eq_getElem?_getD,List.getElem?_reverse h]
theorem qeD(l:List Nat)(n i:Nat)(h:i<n):(l.take n).getD i 0=l.getD i 0:=by
 rw[List.getD_eq_getElem?_getD,List.getD_eq_getElem?_getD,List.getElem?_take,if_pos h]
theorem qjf{n:Nat}{h:Hp}{r0:Nat}{L l:List Nat}(hr:h.rows[r0]? = some (.cells false (nl .u8 L)))(ht:L.take l.length=l)(hlL:l.length≤L.length)(hl:0<l.length)(hb:l.length≤1000000)(hn:DG n h)(hnr:n≤r0) :
  ∃ h' L',Runs Pg kn0 tbl 69 [.arr (.glob r0) 0 l.length none 1 false] h (.val (.tuple []) h')∧h'.rows[r0]? = some (.cells false (nl .u8 L'))∧L'.take l.length=l.reverse∧L'.length=L.length∧DG n h'∧h'.rows.length=h.rows.length∧∀ i,i≠r0→h'.rows[i]? = h.rows[i]?:=by
 have hr0:r0<h.rows.length:=by
  rcases Nat.lt_or_ge r0 h.rows.length with h1 | h1
  ·exact h1
  ·rw[List.getElem?_eq_none h1]at hr;simp at hr
 let Post:Out→Prop:=fun o=>∃ h' L',o=.val (.tuple []) h'∧h'.rows[r0]? = some (.cells false (nl .u8 L'))∧L'.take l.length=l.reverse∧L'.length=L.length∧DG n h'∧h'.rows.length=h.rows.length∧∀ i,i≠r0→h'.rows[i]? = h.rows[i]?
 suffices hw:WW Pg kn0 tbl rc69 ⟨QaE [.arr (.glob r0) 0 l.length none 1 false],.lf,⟨h.rows,none,h.mods⟩⟩ (fun s=>∃ o,fin Pg h [] s=some o∧Post o) (fun _ _=>False) (fun s=>∃ o,fin Pg h [] s=some o∧Post o)by
  obtain⟨o,h1,h',L',rfl,h2⟩:=qcV (kn:=kn0) (h:=h) rfl tbl69 hw
  exact⟨h',L',h1,h2⟩
 have hget:∀ i,i<l.length→L.getD i 0=l.getD i 0:=fun i hi=>by rw[←qeD L l.length i hi,ht]
 unfold rc69
 refine sRG ?_
 refine qaP (fun m s=>∃ i j cur,m=j+1 - i∧i+j+1=l.length∧gt s.tm 0=.arr (.glob r0) 0 l.length none 1 false∧gt s.tm 2=.int .i64 (.ofNat i)∧gt s.tm 3=.int .i64 (.ofNat j)∧s.hp.rows[r0]? = some (.cells false (nl .u8 cur))∧cur.length=L.length∧(∀ p,p<l.length→cur.getD p 0=if p<i∨j<p then l.getD (l.length - 1 - p) 0 else l.getD p 0)∧DG n s.hp∧s.hp.rows.length=h.rows.length∧(∀ i,i≠r0→s.hp.rows[i]? = h.rows[i]?)∧(s.hp.dirty=none→cur=L∧s.hp=⟨h.rows,none,h.mods⟩)∧(∀ x,s.hp.dirty=some x→x=r0)) (l.length - 1+1) ⟨0,l.length - 1,L,rfl,by omega,sSG,sS,sS,hr,rfl,fun p hp=>by rw[if_neg (by omega)];exact hget p hp,(fun x hx=>by cases hx),rfl,fun _ _=>rfl,fun _=>⟨rfl,rfl⟩,fun x hx=>by cases hx⟩ ?_
 intro m s ⟨i,j,cur,hm,hij,h0,h2,h3,hrow,hcl,hval,hdg,hrl,hsame,hclean,hdirt⟩
 refine sQ2 h2 h3 ?_
 refine qaU (by simp only[qal,reduceIte];rfl) (fun hlt=>qag ?_) (fun hlt=>qax ?_)
 ·have hrow2:(hset s.hp r0 (.cells false (nl .u8 (cur.set i (cur.getD j 0))))).rows[r0]? = some (.cells false (nl .u8 (cur.set i (cur.getD j 0)))):=qc5 _ hrow
  refine qac (qaq ?_)
  refine qad (fun n k=>by
   simp -implicitDefEqProofs (disch:=omega) only[go_sem,reduceIte,Nat.reduceEqDiff,h0,h2,h3,qbk hrow,qde L5,qpa hrow (show i<cur.length by omega),qo9 hrow2 (show j<(cur.set i (cur.getD j 0)).length by rw[List.length_set];omega)]
   exact qav (by kernel_rfl)) ?_
  refine sE2 h2 h3 ?_
  refine⟨j - 1+1 - (i+1),by omega,i+1,j - 1,(cur.set i (cur.getD j 0)).set j (cur.getD i 0),rfl,by omega,(sS1 h0),sS,sS,qc5 _ hrow2,by simp[hcl],?_,DG.set (DG.set hdg hnr _) hnr _,by rw[qbd,qbd];exact hrl,fun q hq=>by rw[qck _ hq,qck _ hq];exact hsame q hq,fun e=>?_,fun x hx=>?_⟩
  ·intro p hp
   by_cases e1:p=j
   ·subst e1
    rw[qbc _ _ _ (by simp;omega),if_pos (by omega),hval i (by omega),if_neg (by omega)]
    congr 1;omega
   ·rw[qaG _ _ _ _ (Ne.symm e1)]
    by_cases e2:p=i
    ·subst e2
     rw[qbc _ _ _ (by omega),if_pos (by omega),hval j (by omega),if_neg (by omega)]
     congr 1;omega
    ·rw[qaG _ _ _ _ (Ne.symm e2),hval p hp]
     by_cases e3:p<i∨j<p
     ·rw[if_pos e3,if_pos (by omega)]
     ·rw[if_neg e3,if_neg (by omega)]
  ·exfalso
   have e:lower (lower s.hp.dirty r0) r0=none:=e
   cases hq:s.hp.dirty with
   | none=>rw[hq]at e;simp[lower]at e
   | some y=>rw[hq]at e;simp[lower]at e
  ·have hx:lower (lower s.hp.dirty r0) r0=some x:=hx
   cases hq:s.hp.dirty with
   | none=>rw[hq]at hx;simp[lower]at hx;omega
   | some y=>have:=hdirt y hq;rw[hq]at hx;simp[lower]at hx;omega
 ·rw[if_pos rfl]
  have hfin:cur.take l.length=l.reverse:=by
   refine qey (by simp;omega) (fun p hp=>?_)
   have hp':p<l.length:=by simp at hp;omega
   rw[qeD _ _ _ hp',qfX l p hp',hval p hp']
   by_cases e3:p<i∨j<p
   ·rw[if_pos e3]
   ·rw[if_neg e3];congr 1;omega
  refine⟨.val (.tuple []) (Qar h s.hp []),rfl,Qar h s.hp [],?_⟩
  cases hq:s.hp.dirty with
  | none =>
   obtain⟨e1,e2⟩:=hclean hq
   have eb:Qar h s.hp []=h:=qlH h s.hp [] hq rfl
   subst e1
   exact⟨cur,rfl,by rw[eb];exact hr,hfin,rfl,by rw[eb];exact hn,by rw[eb],fun i _=>by rw[eb]⟩
  | some x =>
   have ex:=hdirt x hq
   subst ex
   have hc:QaX h s.hp=false:=by
    unfold QaX;rw[hq]
    show Nat.ble h.rows.length x=false
    cases hb:Nat.ble h.rows.length x with
    | false=>rfl
    | true=>rw[Nat.ble_eq]at hb;omega
   have eb:(Qar h s.hp []).rows=s.hp.rows:=by unfold Qar;rw[hc];rfl
   exact⟨cur,rfl,by rw[eb];exact hrow,hfin,hcl,hn.back hdg _,by rw[eb];exact hrl,fun i hi=>by rw[eb];exact hsame i hi⟩
def lv:List Nat→Nat
 | []=>0
 | b::l=>(b - 48)+10*lv l
theorem qjX:∀ (a b:List Nat),lv (a++b)=lv a+10 ^ a.length*lv b:=by
 intro a
 induction a with
 | nil=>intro b;simp[lv]
 | cons x a ih=>intro b;simp only[List.cons_append,lv,ih,List.length_cons,Nat.pow_succ,Nat.mul_add];rw[Nat.mul_comm (10 ^ a.length) 10,Nat.mul_assoc];omega
theorem qth:∀ l:List Nat,dv l.reverse=lv l:=by
 intro l
 induction l with
 | nil=>rfl
 | cons b l ih=>rw[List.reverse_cons,qln,ih];simp only[lv];omega
theorem Dec.dg{l:List Nat}(h:Dec l):Dg 256 l:=fun x hx=>by have:=h x hx;omega
theorem Dec.rev{l:List Nat}(h:Dec l):Dec l.reverse:=fun x hx=>h x (by simpa using hx)
theorem Dec.take{l:List Nat}(h:Dec l)(n:Nat):Dec (l.take n):=fun x hx=>h x (List.mem_of_mem_take hx)
theorem qp6(l:List Nat)(hl:0<l.length):l.reverse.getD 0 0=l.getD (l.length - 1) 0:=by
 rw[qfX l 0 hl,Nat.sub_zero]
theorem qov{out:List Nat}(b:Bool)(hd:Dec out)(hne:0<out.length)(hlast:out.getD (out.length - 1) 0≠48) :
  Qa8 (out++bif b then [45]else []).reverse=true∧zOf (out++bif b then [45]else []).reverse=bif b then -(lv out:Int)else (lv out:Int):=by
 have hh:=qp6 out hne
 have e:ng (out++bif b then [45]else []).reverse=b∧Qan (out++bif b then [45]else []).reverse=out.reverse:=by
  cases b with
  | true =>
   have e1:(out++bif true then [45]else []).reverse=45::out.reverse:=by simp
   rw[e1]
   have e2:ng (45::out.reverse)=true:=rfl
   exact⟨e2,by unfold Qan;rw[e2];rfl⟩
  | false =>
   have e1:(out++bif false then [45]else []).reverse=out.reverse:=by simp
   rw[e1]
   have e2:ng out.reverse=false:=by
    unfold ng
    rw[hh]
    refine decide_eq_false ?_
    have hm:out.getD (out.length - 1) 0 ∈ out:=by
     rw[List.getD_eq_getElem?_getD,List.getElem?_eq_getElem (by omega)]
     exact List.getElem_mem _
    have:=hd _ hm
    omega
   exact⟨e2,by unfold Qan;rw[e2];rfl⟩
 have hg:Qa8 (out++bif b then [45]else []).reverse=true:=by
  unfold Qa8 Qch
  rw[e.2,decide_eq_true hd.rev,hh,decide_eq_false hlast]
  cases hr:out.reverse with
  | nil=>exfalso;have:=congrArg List.length hr;simp at this;subst this;simp at hne
  | cons x l=>rfl
 refine⟨hg,?_⟩
 unfold zOf
 rw[hg,e.1,e.2,qth]
 cases b<;>rfl
theorem qyr{k k':IntKind}{l l':List Nat}(hk:k≠k')(hl:0<l.length):nl k l≠nl k' l':=by
 intro e
 cases l with
 | nil=>simp at hl
 | cons x l =>
  cases l' with
  | nil=>simp[nl]at e
  | cons y l' =>
   simp only[nl,List.map_cons,List.cons.injEq,V.int.injEq]at e
   exact hk e.1.1
theorem Gs.ne{h:Hp}{v:V}{k k':IntKind}{l L:List Nat}(hv:Gs h v k l){r:Nat}{f:Bool}(hr:h.rows[r]? = some (.cells f (nl k' L)))(hk:k≠k'):v≠.arr (.glob r) 0 l.length none 1 false:=by
 intro e
 rcases hv with ⟨_,rfl⟩ | ⟨r1,L1,rfl,hr1,_,_,h0⟩
 ·cases e
 ·have:r1=r:=by cases e;rfl
  subst this
  rw[hr1]at hr
  have e2:nl k L1=nl k' L:=by injection hr with hr;injection hr
  exact qyr hk h0 e2
theorem Gs.hset{h:Hp}{v:V}{k k':IntKind}{l L:List Nat}(hv:Gs h v k l){r:Nat}{f:Bool}(hr:h.rows[r]? = some (.cells f (nl k' L)))(hk:k≠k')(row:Row):Gs (hset h r row) v k l:=by
 have hne:=hv.ne hr hk
 rcases hv with ⟨h1,h2⟩ | ⟨r1,L1,rfl,hr1,q⟩
 ·exact .inl ⟨h1,h2⟩
 ·refine .inr ⟨r1,L1,rfl,?_,q⟩
  rw[qck _ (fun e=>hne (by rw[e]))]
  exact hr1
theorem qbJ{h:Hp}{t:Nat}{s:St}{v:V}(hv:gt s.tm t=v)(he:Ex1 v)(hc:DG h.rows.length s.hp)(hr:v.Qao=true):fin Pg h [.tmp t] s=some (.val v h):=by
 unfold fin
 have e1:Qbj Pg s [.tmp t]=some [v]:=by simp only[Qbj,qbI,hv,Option.map_some]
 rw[e1]
 have e2:=qb3 [v] s ⟨he,trivial⟩
 simp only[e2]
 unfold Qar
 rw[qdc hc]
 simp only[V.Qaf,hr,Bool.and_self,cond_true]
theorem qtT(k:Nat):B ^ k≤10 ^ (10*k):=by
 rw[Nat.pow_mul]
 exact Nat.pow_le_pow_left (by decide) k
theorem qdI{a b c:Nat}(hc:1<c)(h:c ^ a<c ^ b):a<b:=by
 rcases Nat.lt_or_ge a b with q | q
 ·exact q
 ·have:=Nat.pow_le_pow_right (n:=c) (by omega) q;omega
theorem qn1{c x:Nat}(hx:x<4294967296):c*4294967296 ||| x=c*4294967296+x:=by
 have:=Nat.two_pow_add_eq_or_of_lt (i:=32) hx c
 rw[show(2:Nat) ^ 32=4294967296 from rfl]at this
 rw[Nat.mul_comm,this]
theorem tbl18:tbl 18=some ⟨rc18,[.tmp 2]⟩:=by kernel_rfl
theorem qy2{l:Lo}{h:Hp}{w:V}{d:List Nat}(hw:∀ q,w≠.str q)(hi:∀ tm,Qag ⟨tm,l,h⟩ w=some (nl .u8 d))(hd:Dg 256 d)(c:Qad)(t:Tm)(j:V→Lo→Hp→R):go1 Try.f18 18 25 1 88 w c t l h j=j (.str (sl d)) l h :=
 ql5 (C:=Cg) (gl:=Cg.glob 18) (call:=c) (tm:=t) (loc:=l) (hp:=h) (j:=j) (x:=88) (o:=opA Try.f18 25 1) (d:=89) (s:=51) (t:=9) (e:=5) (by kernel_rfl) (by kernel_rfl) U51 U9 U5 hw hi hd
structure IT(s:V)(b:Bool)(N:Nat)(h:Hp)(st:St)(cur L:List Nat)(v3:V)(out:List Nat):Prop where
 h1:gt st.tm 1=.ptr (.loc 1 1) 0
 h3:gt st.tm 3=v3
 h4:gt st.tm 4=.arr (.glob h.rows.length) 0 cur.length none 1 false
 l1:lg st.loc 1=(1,.cells false [s,.bool b])
 row:st.hp.rows[h.rows.length]? = some (.cells false (nl .u32 L))
 tk:L.take cur.length=cur
 ll:cur.length≤L.length
 lz:0<L.length
 gs:Gs st.hp v3 .u8 out
 dg:Dg B cur
 dec:Dec out
 hdg:DG h.rows.length st.hp
 hrl:h.rows.length<st.hp.rows.length
 v3n:∀ r,v3=.arr (.glob r) 0 out.length none 1 false→h.rows.length≤r
theorem qlc{L cur:List Nat}(ht:L.take cur.length=cur)(i:Nat)(hi:i<cur.length):L.getD i 0=cur.getD i 0:=by rw[←qeD L cur.length i hi,ht]
theorem qg4(l:List Nat)(i v:Nat):(l.set i v).drop (i+1)=l.drop (i+1):=by
 rw[List.drop_set]
 split
 ·rfl
 ·rw[List.set_eq_of_length_le];omega
theorem qhF(l:List Nat)(h:0<l.length):l=l.take (l.length - 1)++[l.getD (l.length - 1) 0]:=by
 conv=>lhs;rw[←List.take_length (l:=l),show l.length=l.length - 1+1 by omega,qdj l (l.length - 1) (by omega)]
theorem qo8{c x:Nat}(hc:c<1000000000)(hx:x<4294967296):(c*4294967296+x) / 1000000000<4294967296:=by
 rw[Nat.div_lt_iff_lt_mul (by decide)];omega
theorem Dg.rev{B:Nat}{l:List Nat}(h:Dg B l):Dg B l.reverse:=fun x hx=>h x (by simpa using hx)
theorem qcT{k:Nat}{v:V}{z:Int}(ha:IsI k v z)(hk:k≤90000):Gives 18 [v] fun r=>∃ t,r=.str (sl t)∧Dg 256 t∧Qa8 t=true∧zOf t=z∧t.length≤10*k+20:=by
 obtain⟨d,b,⟨⟨s,rfl,hs⟩,dd,cd,h0⟩,hx,hl⟩:=ha
 refine qak tbl18 fun h Q hQ=>?_
 unfold rc18
 refine sRG ?_
 rcases Nat.eq_zero_or_pos d.length with e0 | e0
 ·have e:d=[]:=List.length_eq_zero_iff.1 e0
  have eb:=h0 e
  refine qac (qac (qad (fun n k=>by simp -implicitDefEqProofs (disch:=omega) only[go_sem,reduceIte,Nat.reduceEqDiff,qar L24,qam hs,e0,qaQ];rfl) ?_))
  refine qan sS ?_
  refine sR ?_
  refine qai (hQ _ _ (qbJ (v:=.str (sl [48])) (by simp -implicitDefEqProofs only[go_sem,reduceIte];rfl) (Ex1.str _) (fun x hx=>by cases hx) rfl) ⟨[48],rfl,by intro x hx;simp at hx;subst hx;decide,by decide,?_,by simp⟩)
  subst e;subst eb;subst hx
  rfl
 have hne:d≠[]:=fun e=>by subst e;simp at e0
 have hN:0<vl B d:=Nat.pos_of_ne_zero fun e=>hne ((qeV cd).1 e)
 have hNB:vl B d<10 ^ (10*k):=Nat.lt_of_lt_of_le (qaV (by decide) dd hl) (qtT k)
 have hsn:s≠.nils:=by
  rcases hs with ⟨f,rfl⟩ | ⟨rfl,e⟩
  ·intro e;cases e
  ·exact absurd e hne
 refine qac (qac (qad (fun n k=>by simp -implicitDefEqProofs (disch:=omega) only[go_sem,reduceIte,Nat.reduceEqDiff,qar L24,qam hs,qaY];rfl) ?_))
 refine qaj sS (qag ?_)
 refine sR ?_
 have hcl:=qfs ⟨h.rows,none,h.mods⟩ hsn (.inl ⟨_,_,hs⟩) hne (by omega) (fun tm loc=>qlY hs _)
 refine qac (qaf (hcl) (fun n hn k=>by simp -implicitDefEqProofs (disch:=omega) only[go_sem,reduceIte,Nat.reduceEqDiff,qar L24,qcG hn hs.ex];rfl) ?_)
 refine qau (M:=fun st=>∃ L v3 out,IT s b (vl B d) h st [] L v3 out∧lv out=vl B d∧out.length≤10*k+9) ?_ ?_
 ·refine qaP (fun m st=>∃ cur L v3 out,m=vl B cur∧IT s b (vl B d) h st cur L v3 out∧lv out+10 ^ out.length*vl B cur=vl B d∧out.length≤10*k+9∧Cn cur∧cur.length≤d.length) (vl B d) ⟨d,d,.nils,[],rfl,⟨sS,sS,sS,sS,qff _ _,by simp,Nat.le_refl _,e0,.inl ⟨rfl,rfl⟩,dd,(fun x hx=>by simp at hx),(fun x hx=>by cases hx),by rw[qb7];exact Nat.lt_succ_self _,(fun r e=>by cases e)⟩,by simp[lv],by simp,cd,Nat.le_refl _⟩ ?_
  intro m st ⟨cur,L,v3,out,hm,H,heq,hol,hcn,hcd⟩
  obtain⟨h1,h3,h4,l1,row,tk,ll,lz,gs,dg,dec,hdg,hrl,v3n⟩:=H
  refine sQ1 h4 ?_
  refine qaU (by simp only[qal,reduceIte];rfl) (fun hc0=>qag ?_) (fun hc0=>qax ?_)
  ·have hcne:cur≠[]:=fun e=>by subst e;simp at hc0
   have hV:0<vl B cur:=Nat.pos_of_ne_zero fun e=>hcne ((qeV hcn).1 e)
   have hcb:cur.length≤1000000:=by omega
   have hob:out.length<10*k:=by
    refine qdI (c:=10) (by decide) (Nat.lt_of_le_of_lt ?_ hNB)
    have:=Nat.le_mul_of_pos_right (10 ^ out.length) hV
    omega
   refine qaq ?_
   refine sR ?_
   refine qau (M:=fun s2=>∃ c L2 cur2,gt s2.tm 5=.int .u64 (.ofNat c)∧c<1000000000∧IT s b (vl B d) h s2 cur2 L2 v3 out∧vl B cur=1000000000*vl B cur2+c∧cur2.length=cur.length) ?_ ?_
   ·refine qac (qad (fun n k=>by simp -implicitDefEqProofs (disch:=omega) only[go_sem,reduceIte,Nat.reduceEqDiff,h4,qgG];rfl) ?_)
    refine qaP (fun m s2=>∃ c L2 cur2,m≤cur.length∧gt s2.tm 6=.int .i64 (dn m)∧gt s2.tm 5=.int .u64 (.ofNat c)∧c<1000000000∧IT s b (vl B d) h s2 cur2 L2 v3 out∧cur2.length=cur.length∧vl B (cur.drop m)=1000000000*vl B (cur2.drop m)+c∧∀ i,i<m→cur2.getD i 0=cur.getD i 0) cur.length ⟨0,L,cur,Nat.le_refl _,sS,sS,by decide,⟨(sS1 h1),(sS1 h3),(sS1 h4),(sS1 l1),row,tk,ll,lz,gs,dg,dec,hdg,hrl,v3n⟩,rfl,by rw[List.drop_length];rfl,fun _ _=>rfl⟩ ?_
    intro m2 s2 ⟨c,L2,cur2,hm2,j6,j5,hc,H2,hl2,hv2,hsame⟩
    have H2':=H2
    obtain⟨i1,i3,i4,k1,row2,tk2,ll2,lp2,gs2,dg2,dec2,hdg2,hrl2,v3n2⟩:=H2
    cases m2 with
    | zero =>
     refine qac (qac (qad (fun n k=>by simp -implicitDefEqProofs (disch:=omega) only[go_sem,reduceIte,Nat.reduceEqDiff,j6,dn];rfl) ?_))
     refine qaj sS (qax ?_)
     rw[if_pos rfl]
     refine⟨c,L2,cur2,(sS1 j5),hc,⟨(sS1 i1),(sS1 i3),(sS1 i4),(sS1 k1),row2,tk2,ll2,lp2,gs2,dg2,dec2,hdg2,hrl2,v3n2⟩,?_,hl2⟩
     simpa using hv2
    | succ i =>
     have j6':gt s2.tm 6=.int .i64 (.ofNat i):=j6
     have hi2:i<L2.length:=by omega
     have hxi:cur.getD i 0<4294967296:=dg.get (by decide) i
     have hLi:L2.getD i 0=cur.getD i 0:=by rw[qlc tk2 i (by omega)];exact hsame i (by omega)
     refine qac (qac (qad (fun n k=>by simp -implicitDefEqProofs (disch:=omega) only[go_sem,reduceIte,Nat.reduceEqDiff,j6',qaQ];rfl) ?_))
     refine qan sS (qag ?_)
     refine qac (qaq ?_)
     have hq:=qo8 hc hxi
     refine qac (qad (fun n k=>by simp -implicitDefEqProofs (disch:=omega) only[go_sem,reduceIte,Nat.reduceEqDiff,i4,j5,j6',qbk row2,qde L86,hLi,Nat.reducePow,qn1];rfl) ?_)
     refine qac (qad (fun n k=>by simp -implicitDefEqProofs (disch:=omega) only[go_sem,reduceIte,Nat.reduceEqDiff,i4,j6',qbk row2,qpU row2 hi2];rfl) ?_)
     refine sE ?_
     refine qad (fun n k=>by simp -implicitDefEqProofs (disch:=omega) only[go_sem,reduceIte,Nat.reduceEqDiff,j6',qgG];rfl) ?_
     have hrow:(hset s2.hp h.rows.length (.cells false (nl .u32 (L2.set i ((c*4294967296+cur.getD i 0) / 1000000000))))).rows[h.rows.length]? = some (.cells false (nl .u32 (L2.set i ((c*4294967296+cur.getD i 0) / 1000000000)))):=qc5 _ row2
     refine⟨i,by omega,(c*4294967296+cur.getD i 0) % 1000000000,L2.set i ((c*4294967296+cur.getD i 0) / 1000000000),cur2.set i ((c*4294967296+cur.getD i 0) / 1000000000),by omega,sS,sS,Nat.mod_lt _ (by decide),⟨(sS1 i1),(sS1 i3),(by simp -implicitDefEqProofs (disch:=omega) only[go_sem,reduceIte,Nat.reduceEqDiff,i4,List.length_set]),(sS1 k1),hrow,by rw[List.length_set,List.take_set,tk2],by simpa using ll2,by simpa using lp2,gs2.hset row2 (by decide) _,dg2.set _ hq,dec2,DG.set hdg2 (Nat.le_refl _) _,by rw[qbd];exact hrl2,v3n2⟩,by simpa using hl2,?_,fun j hj=>by rw[qaG _ _ _ _ (by omega)];exact hsame j (by omega)⟩
     rw[qa8 B cur i (by omega),qa8 B _ i (by rw[List.length_set];omega),hv2,qbc _ _ _ (by omega),qg4]
     have:=Nat.div_add_mod (c*4294967296+cur.getD i 0) 1000000000
     show cur.getD i 0+4294967296*(1000000000*vl B (cur2.drop (i+1))+c)=1000000000*((c*4294967296+cur.getD i 0) / 1000000000+4294967296*vl B (cur2.drop (i+1)))+(c*4294967296+cur.getD i 0) % 1000000000
     omega
   ·intro s2 ⟨c,L2,cur2,j5,hc,H2,hv2,hl2⟩
    refine qau (M:=fun s3=>∃ cur3,gt s3.tm 5=.int .u64 (.ofNat c)∧IT s b (vl B d) h s3 cur3 L2 v3 out∧Tr0 cur2 cur3∧Cn cur3) ?_ ?_
    ·refine qaP (fun m s3=>∃ cur3,m=cur3.length∧gt s3.tm 5=.int .u64 (.ofNat c)∧IT s b (vl B d) h s3 cur3 L2 v3 out∧Tr0 cur2 cur3) cur2.length ⟨cur2,rfl,j5,H2,Tr0.refl _⟩ ?_
     intro m3 s3 ⟨cur3,hm3,g5,H3,ht⟩
     obtain⟨i1,i3,i4,k1,row3,tk3,ll3,lp3,gs3,dg3,dec3,hdg3,hrl3,v3n3⟩:=H3
     have hl3:=ht.len
     rcases Nat.eq_zero_or_pos cur3.length with hd3 | hd3
     ·refine qac (qac (qad (fun n k=>by simp -implicitDefEqProofs (disch:=omega) only[go_sem,reduceIte,Nat.reduceEqDiff,i4,qaY];rfl) ?_))
      refine qaj sS (qax ?_)
      rw[if_pos rfl]
      exact⟨cur3,(sS1 g5),⟨(sS1 i1),(sS1 i3),(sS1 i4),(sS1 k1),row3,tk3,ll3,lp3,gs3,dg3,dec3,hdg3,hrl3,v3n3⟩,ht,fun i hi=>by omega⟩
     ·have hx3:cur3.getD (cur3.length - 1) 0<4294967296:=dg3.get (by decide) _
      have hLx:L2.getD (cur3.length - 1) 0=cur3.getD (cur3.length - 1) 0:=qlc tk3 _ (by omega)
      by_cases hz:cur3.getD (cur3.length - 1) 0=0
      ·refine qac (qac (qad (fun n k=>by simp -implicitDefEqProofs (disch:=omega) only[go_sem,reduceIte,Nat.reduceEqDiff,i4,qaQ,qbk row3,qde L86,hLx,hz];rfl) ?_))
       refine qan sS (qag (qaq ?_))
       refine sE1 i4 ?_
       have e1:(cur3.take (cur3.length - 1)).length=cur3.length - 1:=by simp
       refine⟨cur3.length - 1,by omega,cur3.take (cur3.length - 1),by rw[e1],(sS1 g5),⟨(sS1 i1),(sS1 i3),(sS1 e1),(sS1 k1),row3,?_,by omega,lp3,gs3,dg3.take _,dec3,hdg3,hrl3,v3n3⟩,ht.next hd3 hz⟩
       rw[e1,←tk3,List.take_take,List.length_take]
       congr 1;omega
      ·refine qac (qac (qad (fun n k=>by simp -implicitDefEqProofs (disch:=omega) only[go_sem,reduceIte,Nat.reduceEqDiff,i4,qaQ,qbk row3,qde L86,hLx,qaY];rfl) ?_))
       refine qaj sS (qax ?_)
       rw[if_pos rfl]
       exact⟨cur3,(sS1 g5),⟨(sS1 i1),(sS1 i3),(sS1 i4),(sS1 k1),row3,tk3,ll3,lp3,gs3,dg3,dec3,hdg3,hrl3,v3n3⟩,ht,fun i hi=>by rw[show i=cur3.length - 1 by omega];exact hz⟩
    ·intro s3 ⟨cur3,g5,H3,ht,hcn3⟩
     have hv3:=ht.vl B
     have hl3:=ht.len
     refine sR ?_
     obtain⟨i1,i3,i4,k1,row3,tk3,ll3,lp3,gs3,dg3,dec3,hdg3,hrl3,v3n3⟩:=H3
     refine qaP (fun m s4=>∃ i n v4 out4,m+i=9∧gt s4.tm 57=.int .i64 (.ofNat i)∧gt s4.tm 5=.int .u64 (.ofNat n)∧n<10 ^ (9 - i)∧IT s b (vl B d) h s4 cur3 L2 v4 out4∧lv out4+10 ^ out4.length*(n+10 ^ (9 - i)*vl B cur3)=vl B d∧out4.length=out.length+i) 9 ⟨0,c,v3,out,rfl,sS,(sS1 g5),hc,⟨(sS1 i1),(sS1 i3),(sS1 i4),(sS1 k1),row3,tk3,ll3,lp3,gs3,dg3,dec3,hdg3,hrl3,v3n3⟩,?_,rfl⟩ ?_
     ·rw[hv3,show(10:Nat) ^ (9 - 0)=1000000000 from rfl,Nat.add_comm c,←hv2];exact heq
     intro m4 s4 ⟨i,n,v4,out4,hm4,g57,g5',hn,H4,heq4,hlen4⟩
     obtain⟨q1,q3,q4,w1,row4,tk4,ll4,lp4,gs4,dg4,dec4,hdg4,hrl4,v3n4⟩:=H4
     refine sR1 g57 ?_
     refine qac (qaU (by simp only[qal,reduceIte];rfl) (fun hi9=>qag ?_) (fun hi9=>qax ?_))
     ·have hn9:n<10 ^ 9:=Nat.lt_of_lt_of_le hn (Nat.pow_le_pow_right (by decide) (by omega))
      have hn9':n<1000000000:=hn9
      have hm10:n % 10<10:=Nat.mod_lt _ (by decide)
      refine qac (qaq ?_)
      obtain⟨v5,h5,happ,hP⟩:=qsW (loc:=lp s4.loc 64 ((lg s4.loc 64).1+1,.cells false (nl .u8 [48+n % 10]))) (w:=.arr (.loc 64 ((lg s4.loc 64).1+1)) 0 1 (some 1) 1 false) (n:=48+n % 10) gs4 (fun tm=>qbD (ys:=[48+n % 10]) (by rw[qbr,if_pos rfl])) (by omega)
      refine sR3 g5' q3 happ ?_
      refine sE1 g5' ?_
      refine sE1 g57 ?_
      obtain⟨hdg5,hv5⟩:=hP.dg _ hdg4 v3n4 (Nat.le_of_lt hrl4)
      have hlen5:=hP.len
      have hrow5:=(hP.same h.rows.length hrl4 (gs4.ne row4 (by decide))).trans row4
      refine⟨m4 - 1,by omega,i+1,n / 10,v5,out4++[48+n % 10],by omega,sS,sS,?_,⟨(sS1 q1),sS,(sS1 q4),(sS1 w1),hrow5,tk4,ll4,lp4,hP.gs,dg4,dec4.snoc (by omega) (by omega),hdg5,Nat.lt_of_lt_of_le hrl4 hlen5,hv5⟩,?_,by simp[hlen4];omega⟩
      ·have e:10 ^ (9 - i)=10*10 ^ (9 - (i+1)):=by rw[show 9 - i=(9 - (i+1))+1 by omega,Nat.pow_succ,Nat.mul_comm]
       omega
      ·rw[qjX,List.length_append,List.length_cons,List.length_nil,Nat.pow_succ,←heq4,show 9 - i=(9 - (i+1))+1 by omega,Nat.pow_succ 10 (9 - (i+1))]
       simp only[lv,Nat.mul_zero,Nat.add_zero,Nat.mul_assoc,Nat.add_assoc]
       rw[←Nat.mul_add,Nat.add_sub_cancel_left]
       congr 2
       have e2:10 ^ (9 - (i+1))*(10*vl B cur3)=10*(10 ^ (9 - (i+1))*vl B cur3):=by rw[Nat.mul_left_comm]
       have e3:=Nat.div_add_mod n 10
       generalize 10 ^ (9 - (i+1))*vl B cur3=W at *
       rw[e2]
       omega
     ·rw[if_pos rfl]
      have ei:i=9:=by omega
      subst ei
      have en:n=0:=by
       rw[show(10:Nat) ^ (9 - 9)=1 from rfl]at hn;omega
      subst en
      rw[show(10:Nat) ^ (9 - 9)=1 from rfl,Nat.one_mul,Nat.zero_add]at heq4
      refine⟨vl B cur3,by omega,cur3,L2,v4,out4,rfl,⟨(sS1 q1),(sS1 q3),(sS1 q4),(sS1 w1),row4,tk4,ll4,lp4,gs4,dg4,dec4,hdg4,hrl4,v3n4⟩,heq4,by omega,hcn3,by omega⟩
  ·rw[if_pos rfl]
   have ec:cur=[]:=by cases cur with | nil=>rfl | cons x l=>simp at hc0
   subst ec
   exact⟨L,v3,out,⟨(sS1 h1),(sS1 h3),(sS1 h4),(sS1 l1),row,tk,ll,lz,gs,dg,dec,hdg,hrl,v3n⟩,by simpa[vl]using heq,hol⟩
 ·intro st ⟨L,v3,out,H,hlv,hol⟩
  refine qau (M:=fun s2=>∃ r L1 out2,gt s2.tm 3=.arr (.glob r) 0 out2.length none 1 false∧s2.hp.rows[r]? = some (.cells false (nl .u8 L1))∧L1.take out2.length=out2∧out2.length≤L1.length∧Dec out2∧lv out2=vl B d∧0<out2.length∧out2.getD (out2.length - 1) 0≠48∧out2.length≤out.length∧gt s2.tm 1=.ptr (.loc 1 1) 0∧lg s2.loc 1=(1,.cells false [s,.bool b])∧h.rows.length≤r∧DG h.rows.length s2.hp∧h.rows.length<s2.hp.rows.length) ?_ ?_
  ·obtain⟨h1,h3,h4,l1,row,tk,ll,lz,gs,dg,dec,hdg,hrl,v3n⟩:=H
   have hpos:0<out.length:=by
    cases out with
    | nil=>simp only[lv]at hlv;omega
    | cons x l=>simp
   rcases gs with ⟨e,_⟩ | ⟨r,L1,rfl,hr,ht,hlL,_⟩
   ·subst e;simp at hpos
   have hrn:=v3n r rfl
   refine qaP (fun m s2=>∃ out2,m=out2.length∧gt s2.tm 3=.arr (.glob r) 0 out2.length none 1 false∧s2.hp.rows[r]? = some (.cells false (nl .u8 L1))∧L1.take out2.length=out2∧out2.length≤L1.length∧Dec out2∧lv out2=vl B d∧out2.length≤out.length∧gt s2.tm 1=.ptr (.loc 1 1) 0∧lg s2.loc 1=(1,.cells false [s,.bool b])∧DG h.rows.length s2.hp∧h.rows.length<s2.hp.rows.length) out.length ⟨out,rfl,h3,hr,ht,hlL,dec,hlv,Nat.le_refl _,h1,l1,hdg,hrl⟩ ?_
   intro m s2 ⟨out2,hm,j3,hr2,ht2,hl2,dec2,hlv2,hlo,j1,k1,hdg2,hrl2⟩
   have hpos2:0<out2.length:=by
    cases out2 with
    | nil=>simp only[lv]at hlv2;omega
    | cons x l=>simp
   have hx:out2.getD (out2.length - 1) 0<256:=dec2.dg.get (by decide) _
   have hLx:L1.getD (out2.length - 1) 0=out2.getD (out2.length - 1) 0:=qlc ht2 _ (by omega)
   refine qac (qac (qad (fun n k=>by simp -implicitDefEqProofs (disch:=omega) only[go_sem,reduceIte,Nat.reduceEqDiff,j3,qbk hr2,qde L5,hLx];rfl) ?_))
   refine qaU (by simp only[qal,reduceIte];rfl) (fun h48=>qag ?_) (fun h48=>qax ?_)
   ·refine qaq ?_
    refine sE1 j3 ?_
    have e1:(out2.take (out2.length - 1)).length=out2.length - 1:=by simp
    refine⟨out2.length - 1,by omega,out2.take (out2.length - 1),by rw[e1],(sS1 e1),hr2,?_,by omega,dec2.take _,?_,by omega,(sS1 j1),(sS1 k1),hdg2,hrl2⟩
    ·rw[e1,←ht2,List.take_take,List.length_take]
     congr 1;omega
    ·rw[←hlv2]
     conv=>rhs;rw[qhF out2 hpos2,qjX,h48]
     simp[lv]
   ·rw[if_pos rfl]
    exact⟨r,L1,out2,(sS1 j3),hr2,ht2,hl2,dec2,hlv2,hpos2,h48,hlo,(sS1 j1),(sS1 k1),hrn,hdg2,hrl2⟩
  ·intro s2 ⟨r,L1,out2,j3,hr2,ht2,hl2,dec2,hlv2,hpos2,h48,hlo,j1,k1,hrn,hdg2,hrl2⟩
   have hgood:=qov b dec2 hpos2 h48
   refine qau (M:=fun s3=>∃ r' L',gt s3.tm 3=.arr (.glob r') 0 (out2++bif b then [45]else []).length none 1 false∧s3.hp.rows[r']? = some (.cells false (nl .u8 L'))∧L'.take (out2++bif b then [45]else []).length=(out2++bif b then [45]else [])∧(out2++bif b then [45]else []).length≤L'.length∧h.rows.length≤r'∧DG h.rows.length s3.hp) ?_ ?_
   ·refine qac (qad (fun n k=>by simp -implicitDefEqProofs (disch:=omega) only[go_sem,reduceIte,Nat.reduceEqDiff,j1,k1,qao L4];rfl) ?_)
    cases b with
    | true =>
     refine qan sS ?_
     obtain⟨v5,h5,happ,hP⟩:=qsV (loc:=lp s2.loc 84 ((lg s2.loc 84).1+1,.cells false (nl .u8 [45]))) (w:=.arr (.loc 84 ((lg s2.loc 84).1+1)) 0 1 (some 1) 1 false) (n:=45) (v:=.arr (.glob r) 0 out2.length none 1 false) (.inr ⟨r,L1,rfl,hr2,ht2,hl2,by omega⟩) (fun tm=>qbD (ys:=[45]) (by rw[qbr,if_pos rfl])) (by omega)
     obtain⟨hdg5,hv5⟩:=hP.dg _ hdg2 (fun r0 e=>by cases e;exact hrn) (Nat.le_of_lt hrl2)
     refine sE2 j3 happ ?_
     rcases hP.gs with ⟨e,_⟩ | ⟨r',L',rfl,q1,q2,q3,_⟩
     ·simp at e
     ·exact⟨r',L',(by simp -implicitDefEqProofs (disch:=omega) only[go_sem,reduceIte,Nat.reduceEqDiff,cond_true]),q1,q2,q3,hv5 r' rfl,hdg5⟩
    | false =>
     refine qaj sS (qag ?_)
     exact⟨r,L1,(by simp -implicitDefEqProofs (disch:=omega) only[go_sem,reduceIte,Nat.reduceEqDiff,cond_false,List.append_nil,j3]),hr2,by simpa using ht2,by simpa using hl2,hrn,hdg2⟩
   ·intro s3 ⟨r',L',g3,q1,q2,q3,q4,q5⟩
    generalize hout:(out2++bif b then [45]else [])=o3 at *
    have ho3:0<o3.length∧o3.length≤out2.length+1:=by
     subst hout
     cases b<;>simp<;>omega
    have hd3:Dg 256 o3:=by
     subst hout
     cases b with
     | true =>
       intro x hx
       rcases List.mem_append.1 hx with hx | hx
       ·exact dec2.dg x hx
       ·simp at hx;subst hx;decide
     | false=>exact fun x hx=>dec2.dg x (by simpa using hx)
    obtain⟨h6,L6,hrun,hr6,ht6,hl6,hdg6,_,_⟩:=qjf (n:=h.rows.length) q1 q2 q3 ho3.1 (by omega) q5 q4
    refine qac (qaf (hrun) (fun n hn k=>by simp -implicitDefEqProofs (disch:=omega) only[go_sem,reduceIte,Nat.reduceEqDiff,g3,qcG hn (Ex1.glob _ _ _ _ _ _)];rfl) ?_)
    have hit:∀ tm loc,Qag ⟨tm,loc,h6⟩ (.arr (.glob r') 0 o3.length none 1 false)=some (nl .u8 o3.reverse):=by
     intro tm loc
     have:=Gs.items (h:=h6) (v:=.arr (.glob r') 0 o3.length none 1 false) (k:=.u8) (l:=o3.reverse) (.inr ⟨r',L6,by simp,hr6,by rw[List.length_reverse];exact ht6,by simp;omega,by omega⟩) tm loc
     exact this
    refine qac (qad (fun n k=>by simp -implicitDefEqProofs (disch:=omega) only[go_sem,reduceIte,Nat.reduceEqDiff,g3,qy2 (fun q e=>by cases e) (fun tm=>hit tm _) (Dg.rev hd3)];rfl) ?_)
    refine qai (hQ _ _ (qbJ (v:=.str (sl o3.reverse)) sS (Ex1.str _) hdg6 rfl) ⟨o3.reverse,rfl,Dg.rev hd3,hgood.1,?_,by simp;omega⟩)
    rw[hgood.2,hlv2,hx]
    rfl
end Go.AM.S
end
section
namespace Go.AM.S
open Go Go.AM Go.Proofs NumL
open _root_.Go.AM.G (R)
@[congr] theorem qyc {x y:Option V} {f:V→R} (h:x=y):bO x f=bO y f:=by rw[h]
@[congr] theorem qxV {x y:Option Bool} {a b:R} (h:x=y):brB x a b=brB y a b:=by rw[h]
attribute [go_sem ↓] qxt qpN qmf qkx
attribute [go_sem] Bool.not_true Bool.not_false
end Go.AM.S
end
section
namespace Go.AM.S
open Go Go.AM Go.Proofs NumL
open _root_.Go.AM.G (R)
set_option maxRecDepth 100000
theorem tbl66:tbl 66=some ⟨rc66,[.tmp 2]⟩:=by kernel_rfl
def p0N(l:List Nat):Nat:=bif ng l then 1 else 0
theorem qpD(l:List Nat):Qan l=l.drop (p0N l):=by
 unfold Qan p0N
 cases ng l<;>rfl
theorem qyp(l:List Nat):p0N l≤l.length:=by
 unfold p0N
 cases h:ng l with
 | true=>exact qn6 h
 | false=>exact Nat.zero_le _
theorem qxc(l:List Nat):decide (p0N l=1)=ng l:=by
 unfold p0N
 cases ng l<;>rfl
theorem qfi(l:List Nat)(p i:Nat):(l.drop p).getD i 0=l.getD (p+i) 0:=by
 rw[List.getD_eq_getElem?_getD,List.getD_eq_getElem?_getD,List.getElem?_drop]
theorem qmt{l:List Nat}(hd:Dg 256 l)(hl:l.length≤1000000):Gives 66 [.str (sl l)] fun r=>r=.bool (Qa8 l):=by
 have p1:=qxc l
 have ple:=qyp l
 have hb:=qpD l
 have ple1:p0N l≤1:=by unfold p0N;cases ng l<;>decide
 refine qak tbl66 fun h Q hQ=>?_
 have done:∀ (st:St) (b:Bool),b=Qa8 l→gt st.tm 2=.bool b→st.hp=⟨h.rows,none,h.mods⟩→Q st:=by
  intro st b e h2 hh
  exact hQ st _ (qbJ h2 (Ex1.bool _) (by rw[hh];exact fun x hx=>by cases hx) rfl) (by rw[e])
 unfold rc66
 refine sR ?_
 refine sR ?_
 refine qau (M:=fun s=>gt s.tm 0=.str (sl l)∧gt s.tm 3=.int .i64 (.ofNat (p0N l))∧s.hp=⟨h.rows,none,h.mods⟩) ?_ (fun s ⟨a0,a3,ah⟩=>?_)
 ·rcases Nat.eq_zero_or_pos l.length with h0 | h0
  ·have e:ng l=false:=by rw[List.length_eq_zero_iff.1 h0];rfl
   refine qac (qad (fun n k=>by simp -implicitDefEqProofs (disch:=omega) only[go_sem,reduceIte,Nat.reduceEqDiff,qae,List.getD_cons_zero,List.getD_cons_succ,qaY];rfl) ?_)
   refine qaj sS (qag ?_)
   exact⟨sSG,by unfold p0N;rw[e];exact(by simp -implicitDefEqProofs (disch:=omega) only[go_sem,reduceIte,Nat.reduceEqDiff,cond_false]),rfl⟩
  ·refine qac (qad (fun n k=>by simp -implicitDefEqProofs (disch:=omega) only[go_sem,reduceIte,Nat.reduceEqDiff,qae,List.getD_cons_zero,List.getD_cons_succ,qaQ,qcj hd];rfl) ?_)
   cases e:ng l with
   | true =>
    refine qan (by rw[show decide (l.getD 0 0=45)=ng l from rfl,e];exact sS) ?_
    refine sE ?_
    exact⟨sSG,by unfold p0N;rw[e];exact(by simp -implicitDefEqProofs (disch:=omega) only[go_sem,reduceIte,Nat.reduceEqDiff,cond_true]),rfl⟩
   | false =>
    refine qaj (by rw[show decide (l.getD 0 0=45)=ng l from rfl,e];exact sS) (qag ?_)
    exact⟨sSG,by unfold p0N;rw[e];exact(by simp -implicitDefEqProofs (disch:=omega) only[go_sem,reduceIte,Nat.reduceEqDiff,cond_false]),rfl⟩
 have hlenB:(Qan l).length=l.length - p0N l:=by rw[hb,List.length_drop]
 have hget0:(Qan l).getD 0 0=l.getD (p0N l) 0:=by rw[hb,qfi,Nat.add_zero]
 have hemp:(Qan l).isEmpty=decide (p0N l=l.length):=by
  cases hbb:Qan l with
  | nil=>rw[hbb]at hlenB;simp at hlenB;exact(decide_eq_true (by omega)).symm
  | cons x t=>rw[hbb]at hlenB;simp at hlenB;exact(decide_eq_false (by omega)).symm
 have hbad:Qch l=(decide (p0N l=l.length) || (decide (l.getD (p0N l) 0=48)&&(decide (p0N l+1<l.length) || decide (p0N l=1)))):=by
  unfold Qch
  rw[hemp,hget0,p1,hlenB]
  congr 3
  rw[show decide (1<l.length - p0N l)=decide (p0N l+1<l.length)by congr 1;apply propext;omega]
 refine qcS (fun s2=>Qch l=false∧gt s2.tm 0=.str (sl l)∧gt s2.tm 3=.int .i64 (.ofNat (p0N l))∧s2.hp=⟨h.rows,none,h.mods⟩) ?_ (fun s2 ⟨hbf,b0,b3,bh⟩=>?_)
 ·have quit:∀ tm,Qch l=true→WW Pg kn0 tbl (.seq (.reg fun c t l h k=>k (p2 t (.bool false)) l h) .ret) ⟨tm,s.loc,s.hp⟩ (fun s2=>Qch l=false∧gt s2.tm 0=.str (sl l)∧gt s2.tm 3=.int .i64 (.ofNat (p0N l))∧s2.hp=⟨h.rows,none,h.mods⟩) (fun _ _=>False) Q:=by
   intro tm hq
   refine sR ?_
   exact qai (done _ false (by unfold Qa8;rw[hq];rfl) sS ah)
  by_cases h1:p0N l=l.length
  ·have hq:Qch l=true:=by rw[hbad,decide_eq_true h1];rfl
   refine qac (qad (fun n k=>by simp -implicitDefEqProofs (disch:=omega) only[go_sem,reduceIte,Nat.reduceEqDiff,a0,a3,h1,qaQ];rfl) ?_)
   refine qan sS ?_
   exact quit _ hq
  ·have d1:decide (p0N l=l.length)=false:=decide_eq_false h1
   by_cases h2:l.getD (p0N l) 0=48
   ·by_cases h3:p0N l+1<l.length
    ·have hq:Qch l=true:=by rw[hbad,d1,decide_eq_true h2,decide_eq_true h3];rfl
     refine qac (qad (fun n k=>by simp -implicitDefEqProofs (disch:=omega) only[go_sem,reduceIte,Nat.reduceEqDiff,a0,a3,d1,qcj hd,h2,qaQ];rfl) ?_)
     refine qan sS ?_
     exact quit _ hq
    ·have d3:decide (p0N l+1<l.length)=false:=decide_eq_false h3
     by_cases h4:p0N l=1
     ·have hq:Qch l=true:=by rw[hbad,d1,decide_eq_true h2,d3,decide_eq_true h4];rfl
      refine qac (qad (fun n k=>by simp -implicitDefEqProofs (disch:=omega) only[go_sem,reduceIte,Nat.reduceEqDiff,a0,a3,d1,qcj hd,h2,qaQ,d3,decide_eq_true h4];rfl) ?_)
      refine qan sS ?_
      exact quit _ hq
     ·have hq:Qch l=false:=by rw[hbad,d1,decide_eq_true h2,d3,decide_eq_false h4];rfl
      refine qac (qad (fun n k=>by simp -implicitDefEqProofs (disch:=omega) only[go_sem,reduceIte,Nat.reduceEqDiff,a0,a3,d1,qcj hd,h2,qaQ,d3,decide_eq_false h4];rfl) ?_)
      refine qaj sS (qag ?_)
      exact⟨hq,(sS1 a0),(sS1 a3),ah⟩
   ·have d2:decide (l.getD (p0N l) 0=48)=false:=decide_eq_false h2
    have hq:Qch l=false:=by rw[hbad,d1,d2];rfl
    refine qac (qad (fun n k=>by simp -implicitDefEqProofs (disch:=omega) only[go_sem,reduceIte,Nat.reduceEqDiff,a0,a3,d1,qcj hd,d2];rfl) ?_)
    refine qaj sS (qag ?_)
    exact⟨hq,(sS1 a0),(sS1 a3),ah⟩
 ·refine qac (qaP (fun m s=>∃ i,m+i=l.length∧p0N l≤i∧gt s.tm 0=.str (sl l)∧gt s.tm 3=.int .i64 (.ofNat i)∧s.hp=⟨h.rows,none,h.mods⟩∧Dec ((l.drop (p0N l)).take (i - p0N l))) (l.length - p0N l) ⟨p0N l,by omega,Nat.le_refl _,b0,b3,bh,by rw[Nat.sub_self];exact fun x hx=>by simp at hx⟩ ?_)
  intro m s ⟨i,hm,hi,c0,c3,ch,hD⟩
  refine sQ2 c0 c3 ?_
  refine qaU (by simp only[qal,reduceIte];rfl) (fun hlt=>qag ?_) (fun hlt=>qax ?_)
  ·have hx:l.getD i 0<256:=hd.get (by decide) i
   have hgi:l.getD i 0=(Qan l).getD (i - p0N l) 0:=by rw[hb,qfi];congr 1;omega
   have notD:¬(48≤l.getD i 0∧l.getD i 0≤57)→Qa8 l=false:=by
    intro hn
    unfold Qa8
    rw[decide_eq_false (show ¬Dec (Qan l) from fun hq=>hn (by
     have:=hq ((Qan l).getD (i - p0N l) 0) (by rw[List.getD_eq_getElem?_getD,List.getElem?_eq_getElem (by omega)];exact List.getElem_mem _)
     rw[hgi];exact this))]
    simp
   refine qac (qaq ?_)
   by_cases h1:l.getD i 0<48
   ·refine qac (qad (fun n k=>by simp -implicitDefEqProofs (disch:=omega) only[go_sem,reduceIte,Nat.reduceEqDiff,c0,c3,qcj hd,decide_eq_true h1];rfl) ?_)
    refine qan sS ?_
    refine sR ?_
    exact qai (done _ false (notD (by omega)).symm sS ch)
   ·by_cases h2:57<l.getD i 0
    ·refine qac (qad (fun n k=>by simp -implicitDefEqProofs (disch:=omega) only[go_sem,reduceIte,Nat.reduceEqDiff,c0,c3,qcj hd,decide_eq_false h1,decide_eq_true h2];rfl) ?_)
     refine qan sS ?_
     refine sR ?_
     exact qai (done _ false (notD (by omega)).symm sS ch)
    ·refine qac (qad (fun n k=>by simp -implicitDefEqProofs (disch:=omega) only[go_sem,reduceIte,Nat.reduceEqDiff,c0,c3,qcj hd,decide_eq_false h1,decide_eq_false h2];rfl) ?_)
     refine qaj sS (qag ?_)
     refine sE1 c3 ?_
     refine⟨m - 1,by omega,i+1,by omega,by omega,(sS1 c0),sS,ch,?_⟩
     rw[show i+1 - p0N l=(i - p0N l)+1 by omega,qdj _ _ (by rw[List.length_drop];omega),qfi,show p0N l+(i - p0N l)=i by omega]
     exact hD.snoc (by omega) (by omega)
  ·rw[if_pos rfl]
   refine sR ?_
   refine qai (done _ true ?_ sS ch)
   have e:(l.drop (p0N l)).take (i - p0N l)=Qan l:=by rw[hb,List.take_of_length_le (by rw[List.length_drop];omega)]
   rw[e]at hD
   unfold Qa8
   rw[hbf,decide_eq_true hD];rfl
theorem tbl67:tbl 67=some ⟨rc67,[.cell 4 31]⟩:=by kernel_rfl
def NR(v:V)(d:List Nat)(b:Bool):Prop:=(∃ s,v=.agg [.bool b,s]∧Sl .i64 s d)∧Dg 10000 d∧Cn d∧(d=[]→b=false)
theorem qbt{va:V}{a:List Nat}(ha:Sl .i64 va a)(da:Dg 10000 a)(la:a.length≤1000000000)(ng:Bool) :
  Gives 67 [.bool ng,va] fun r=>∃ d,NR r d (ng && !d.isEmpty)∧Tr0 a d:=by
 refine qak tbl67 fun h Q hQ=>?_
 unfold rc67
 refine sR ?_
 refine qau (M:=fun s=>∃ d v,gt s.tm 1=v∧Sl .i64 v d∧Tr0 a d∧Cn d∧gt s.tm 0=.bool ng∧gt s.tm 4=.ptr (.loc 4 1) 0∧lg s.loc 4=(1,.cells false [.bool false,.nils])∧s.hp=⟨h.rows,none,h.mods⟩) ?_ ?_
 ·refine qaP (fun m s=>∃ d v,m=d.length∧gt s.tm 1=v∧Sl .i64 v d∧Tr0 a d∧gt s.tm 0=.bool ng∧gt s.tm 4=.ptr (.loc 4 1) 0∧lg s.loc 4=(1,.cells false [.bool false,.nils])∧s.hp=⟨h.rows,none,h.mods⟩) a.length ⟨a,va,rfl,sSG,ha,Tr0.refl a,sSG,sS,sS,rfl⟩ ?_
  intro m s ⟨d,v,hm,h1,hv,ht,h0,h4,hl4,hhp⟩
  have hln:=ht.len
  rcases Nat.eq_zero_or_pos d.length with hd | hd
  ·refine qac (qac (qad (fun n k=>by simp -implicitDefEqProofs (disch:=omega) only[go_sem,reduceIte,Nat.reduceEqDiff,h1,qam hv,qaY];rfl) ?_))
   refine qaj sS (qax ?_)
   rw[if_pos rfl]
   exact⟨d,v,(sS1 h1),hv,ht,fun i hi=>by omega,(sS1 h0),(sS1 h4),(sS1 hl4),hhp⟩
  ·have hx:d.getD (d.length - 1) 0<10000:=(ht.dg da).get (by decide) _
   by_cases hz:d.getD (d.length - 1) 0=0
   ·refine qac (qac (qad (fun n k=>by simp -implicitDefEqProofs (disch:=omega) only[go_sem,reduceIte,Nat.reduceEqDiff,h1,qam hv,qaQ,qk9 hv,hz];rfl) ?_))
    refine qan sS (qag (qaq ?_))
    refine qad (fun n k=>by simp -implicitDefEqProofs (disch:=omega) only[go_sem,reduceIte,Nat.reduceEqDiff,h1,qam hv,qy3 hv];rfl) ?_
    exact⟨d.length - 1,by omega,d.take (d.length - 1),_,by simp,sS,.inl ⟨false,rfl⟩,ht.next hd hz,(sS1 h0),(sS1 h4),(sS1 hl4),hhp⟩
   ·refine qac (qac (qad (fun n k=>by simp -implicitDefEqProofs (disch:=omega) only[go_sem,reduceIte,Nat.reduceEqDiff,h1,qam hv,qaQ,qk9 hv,qaY];rfl) ?_))
    refine qaj sS (qax ?_)
    rw[if_pos rfl]
    exact⟨d,v,(sS1 h1),hv,ht,fun i hi=>by rw[show i=d.length - 1 by omega];exact hz,(sS1 h0),(sS1 h4),(sS1 hl4),hhp⟩
 ·intro s ⟨d,v,h1,hv,ht,hcn,h0,h4,hl4,hhp⟩
  have key:∀ b:Bool,b=(ng && !d.isEmpty)→NR (.agg [.bool b,v]) d (ng && !d.isEmpty):=by
   intro b hb
   subst hb
   exact⟨⟨v,rfl,hv⟩,ht.dg da,hcn,fun e=>by subst e;simp⟩
  cases ng with
  | false =>
   refine qac (qad (fun n k=>by simp -implicitDefEqProofs (disch:=omega) only[go_sem,reduceIte,Nat.reduceEqDiff,h0,h1,h4,hl4,qpO (Pl.bool false) hv.pl,qah N31 1 (.bool false) v (.bool false) .nils _ rfl hv.pl.ok];rfl) ?_)
   exact qai (hQ _ _ (qaW (x:=.bool false) (y:=v) (f:=false) (d:=4) (g:=1) (by kernel_rfl) (sS1 h4) (sS1 hl4) (Pl.bool _) hv.pl (by rw[hhp])) ⟨d,key false (by simp),ht⟩)
  | true =>
   refine qac (qad (fun n k=>by simp -implicitDefEqProofs (disch:=omega) only[go_sem,reduceIte,Nat.reduceEqDiff,h0,h1,h4,hl4,qam hv,qpO (Pl.bool _) hv.pl,qah N31 1 (.bool (decide (0<d.length))) v (.bool false) .nils _ rfl hv.pl.ok];rfl) ?_)
   refine qai (hQ _ _ (qaW (x:=.bool (decide (0<d.length))) (y:=v) (f:=false) (d:=4) (g:=1) (by kernel_rfl) (sS1 h4) (sS1 hl4) (Pl.bool _) hv.pl (by rw[hhp])) ⟨d,key _ ?_,ht⟩)
   cases d with
   | nil=>rfl
   | cons x l=>simp
theorem tbl16:tbl 16=some ⟨rc16,[.cell 2 31,.tmp 3]⟩:=by kernel_rfl
theorem qxT{P:Program}{t e:TypeId}{z v:V}(he:F.QaB P t=some e)(hl:F.Qax P e=some (1,false))(hz:F.zeroV P e=some z)(h1:F.Qbk z=true)(h2:z.live=true)(h3:z.cells=[z])(hv:v.live=true∧F.Qbk v=true∧v.cells=[v])(hf:Qed 1 [(0,v)] (F.QdU 1 z)=some [v]):bs P t 1 [(0,v)]=some (.slice none true 1 [v]):=by
 unfold bs
 rw[he]
 show G.Qac (F.Qax P e) _ none=_
 rw[hl]
 show G.Qac (F.zeroV P e) _ none=_
 rw[hz]
 show(bif Nat.ble (Nat.mul 1 1) 16777216&&F.Qbk z&&z.live&&Nat.beq (F.QaZ z.cells) 1 then G.Qac (Qed 1 [(0,v)] (F.QdU 1 z)) (fun l=>some (V.slice none true 1 l)) none else none)=_
 rw[h1,h2,h3,hf]
 rfl
theorem qwL(n:Nat):bs Pg 29 1 [(0,.int .i64 (.ofNat n))]=some (.slice none true 1 (nl .i64 [n])) :=
 qxT E29 L3 Z3 rfl rfl rfl ⟨rfl,rfl,rfl⟩ rfl
theorem qor(k:IntKind)(m n:Nat):G.int2 .gtr k (.negSucc m) (.ofNat n)=some (.bool false):=rfl
theorem qvr(k k':IntKind)(m n:Nat):mxV (.int k (.negSucc m)) (.int k' (.ofNat n))=some (.int k (.ofNat n)):=rfl
theorem qyK{call:Qad}{f:FuncId}{w v v':V}{tm:Tm}{loc:Lo}{hp h':Hp}{j:V→Lo→Hp→R}{r:V}(hw:Ex1 w)(hv:∀ st,AM.exp false st v=some (v',st))(hc:call f [w,v'] hp=some (.val r h')):cl call f [w,v] tm loc hp j=j r loc h':=by
 refine qme (st:=⟨.lf,loc,hp⟩) (l:=[w,v']) ?_ hc
 unfold exps
 rw[hw]
 simp only[exps,hv]
theorem Tk.out{loc:Lo}{d:Nat}{v:V}{k:IntKind}{l:List Nat}(h:Tk loc d v k l):∃ v',Sl k v' l∧∀ st,AM.exp false st v=some (v',st):=by
 rcases h with ⟨rfl,rfl⟩ | ⟨_,g,rfl,_⟩
 ·exact⟨.nils,.inr ⟨rfl,rfl⟩,Pl.nils.ex⟩
 ·exact⟨.slice none false 1 (nl k l),.inl ⟨false,rfl⟩,fun _=>rfl⟩
theorem Tk.frame{loc loc':Lo}{d:Nat}{v:V}{k:IntKind}{l:List Nat}(h:Tk loc d v k l)(hf:lg loc' d=lg loc d):Tk loc' d v k l:=by
 rcases h with h | ⟨h0,g,h1,h2⟩
 ·exact .inl h
 ·exact .inr ⟨h0,g,h1,hf.trans h2⟩
def zr(d:List Nat)(b:Bool):Int:=bif b then -(vl 10000 d:Int)else (vl 10000 d:Int)
def IsR(k:Nat)(v:V)(z:Int):Prop:=∃ d b,NR v d b∧z=zr d b∧d.length≤k
theorem IsR.mono{k l:Nat}{v:V}{z:Int}(h:IsR k v z)(hl:k≤l):IsR l v z:=by
 obtain⟨d,b,h1,h2,h3⟩:=h
 exact⟨d,b,h1,h2,by omega⟩
theorem Qea:IsR 0 (.agg [.bool false,.nils]) 0:=⟨[],false,⟨⟨.nils,rfl,.inr ⟨rfl,rfl⟩⟩,Dg.nil _,fun i hi=>by simp at hi,fun _=>rfl⟩,rfl,by simp⟩
theorem qlo(l:List Nat):dv l=lv l.reverse:=by rw[←qth,List.reverse_reverse]
theorem qxO(a b:List Nat):dv (a++b)=dv a*10 ^ b.length+dv b:=by
 rw[qlo,qlo a,qlo b,List.reverse_append,qjX,List.length_reverse,Nat.mul_comm,Nat.add_comm]
theorem qys:∀ {l:List Nat},Dec l→lv l<10 ^ l.length:=by
 intro l
 induction l with
 | nil=>intro _;simp[lv]
 | cons x l ih =>
  intro h
  have h1:=ih (fun y hy=>h y (by simp[hy]))
  have h2:=h x (by simp)
  simp only[lv,List.length_cons,Nat.pow_succ]
  omega
theorem qrJ{l:List Nat}(h:Dec l):dv l<10 ^ l.length:=by
 rw[qlo]
 have:=qys h.rev
 rwa [List.length_reverse]at this
theorem ql4{l:List Nat}(h:Qa8 l=true):0<(Qan l).length∧Dec (Qan l)∧Qch l=false:=by
 unfold Qa8 at h
 have h1:Qch l=false:=by cases hb:Qch l with | false=>rfl | true=>rw[hb]at h;simp at h
 refine⟨?_,?_,h1⟩
 ·cases hb:Qan l with
  | nil=>unfold Qch at h1;rw[hb]at h1;simp at h1
  | cons x t=>simp
 ·rw[h1]at h;simpa using h
theorem qkZ{l:List Nat}(hd:Dg 256 l)(hl:l.length≤1000):Gives 16 [.str (sl l)] fun r=>∃ v,r=.tuple [v,.bool (Qa8 l)]∧IsR 252 v (zOf l):=by
 have rd:=qmg hd
 have rl:=qky l
 refine qak tbl16 fun h Q hQ=>?_
 obtain⟨_,hrt,rfl⟩:=qmt hd (by omega) ⟨h.rows,none,h.mods⟩
 unfold rc16
 refine sRG ?_
 refine qcS (fun s=>Qa8 l=true∧gt s.tm 0=.str (sl l)∧gt s.tm 2=.ptr (.loc 2 1) 0∧lg s.loc 2=(1,.cells false [.bool false,.nils])∧s.hp=⟨h.rows,none,h.mods⟩) ?_ (fun s ⟨hg,a0,a2,al,ah⟩=>?_)
 ·refine qac (qaf (hrt) (fun n hn k=>by simp -implicitDefEqProofs (disch:=omega) only[go_sem,reduceIte,Nat.reduceEqDiff,qae,List.getD_cons_zero,List.getD_cons_succ,qcG hn (Ex1.str _)];rfl) ?_)
  cases hg:Qa8 l with
  | true =>
   refine qaj (by simp -implicitDefEqProofs (disch:=omega) only[go_sem,reduceIte,Nat.reduceEqDiff,Bool.not_true]) (qag ?_)
   exact⟨rfl,sSG,sS,sS,rfl⟩
  | false =>
   refine qan (by simp -implicitDefEqProofs (disch:=omega) only[go_sem,reduceIte,Nat.reduceEqDiff,Bool.not_false]) ?_
   refine qac (qad (fun n k=>by simp -implicitDefEqProofs (disch:=omega) only[go_sem,reduceIte,Nat.reduceEqDiff,qah N31 1 (.bool false) .nils (.bool false) .nils _ rfl rfl];rfl) ?_)
   refine qai (hQ _ _ (qcz (x:=.bool false) (y:=.nils) (w:=.bool false) (f:=false) (d:=2) (g:=1) (by kernel_rfl) sS sS (Pl.bool _) Pl.nils sS (Pl.bool _) (fun x hx=>by cases hx)) ⟨_,by rw[hg],?_⟩)
   have e:zOf l=0:=by unfold zOf;rw[hg];rfl
   rw[e]
   exact Qea.mono (by omega)
 obtain⟨hpos,hdec,hbad⟩:=ql4 hg
 have hl0:0<l.length:=by omega
 refine qac (qad (fun n k=>by simp -implicitDefEqProofs (disch:=omega) only[go_sem,reduceIte,Nat.reduceEqDiff,a0,qcj hd];rfl) ?_)
 refine qau (M:=fun s2=>gt s2.tm 0=.str (sl (Qan l))∧gt s2.tm 4=.bool (ng l)∧gt s2.tm 2=.ptr (.loc 2 1) 0∧lg s2.loc 2=(1,.cells false [.bool false,.nils])∧s2.hp=⟨h.rows,none,h.mods⟩) ?_ (fun s2 ⟨b0,b4,b2,bl,bh⟩=>?_)
 ·refine sR ?_
  cases hng:ng l with
  | true =>
   have eb:Qan l=l.drop 1:=by unfold Qan;rw[hng];rfl
   refine qan (by rw[show decide (l.getD 0 0=45)=ng l from rfl,hng];exact sS) ?_
   refine qad (fun n k=>by simp -implicitDefEqProofs (disch:=omega) only[go_sem,reduceIte,Nat.reduceEqDiff,a0,qnB hd];rfl) ?_
   exact⟨by rw[eb];exact sS,by rw[show decide (l.getD 0 0=45)=ng l from rfl,hng];exact sS,(sS1 a2),(by simp -implicitDefEqProofs (disch:=omega) only[go_sem,reduceIte,Nat.reduceEqDiff,al]),ah⟩
  | false =>
   have eb:Qan l=l:=by unfold Qan;rw[hng];rfl
   refine qaj (by rw[show decide (l.getD 0 0=45)=ng l from rfl,hng];exact sS) (qag ?_)
   exact⟨by rw[eb];exact(sS1 a0),by rw[show decide (l.getD 0 0=45)=ng l from rfl,hng];exact sS,(sS1 a2),(by simp -implicitDefEqProofs (disch:=omega) only[go_sem,reduceIte,Nat.reduceEqDiff,al]),ah⟩
 generalize hr:Qan l=r at *
 refine sR ?_
 refine qau (M:=fun s3=>∃ v5 out,gt s3.tm 5=v5∧Tk s3.loc 44 v5 .i64 out∧Dg 10000 out∧vl 10000 out=dv r∧out.length≤252∧gt s3.tm 4=.bool (ng l)∧gt s3.tm 2=.ptr (.loc 2 1) 0∧lg s3.loc 2=(1,.cells false [.bool false,.nils])∧s3.hp=⟨h.rows,none,h.mods⟩) ?_ (fun s3 ⟨v5,out,c5,ctk,cdg,cvl,clen,c4,c2,cl2,ch⟩=>?_)
 ·refine sR1 b0 ?_
  refine qaP (fun m s3=>∃ v5 out z,gt s3.tm 0=.str (sl r)∧gt s3.tm 5=v5∧Tk s3.loc 44 v5 .i64 out∧Dg 10000 out∧vl 10000 out=dv (r.drop m)∧m≤r.length∧(0<m→4*out.length=r.length - m)∧4*out.length≤r.length+3∧gt s3.tm 6=.int .i64 z∧(z=.ofNat m∨(m=0∧∃ q,z=.negSucc q))∧gt s3.tm 4=.bool (ng l)∧gt s3.tm 2=.ptr (.loc 2 1) 0∧lg s3.loc 2=(1,.cells false [.bool false,.nils])∧s3.hp=⟨h.rows,none,h.mods⟩) r.length ⟨.nils,[],.ofNat r.length,(sS1 b0),sS,.inl ⟨rfl,rfl⟩,Dg.nil _,by simp[vl,dv],Nat.le_refl _,fun _=>by simp,by simp,sS,.inl rfl,(sS1 b4),(sS1 b2),(by simp -implicitDefEqProofs (disch:=omega) only[go_sem,reduceIte,Nat.reduceEqDiff,bl]),bh⟩ ?_
  intro i s3 ⟨v5,out,z,c0,c5,ctk,cdg,cvl,hi,hfour,hfour2,c6,hz,c4,c2,cl2,ch⟩
  have stop:i=0→∃ v5 out,gt s3.tm 5=v5∧Tk s3.loc 44 v5 .i64 out∧Dg 10000 out∧vl 10000 out=dv r∧out.length≤252∧gt s3.tm 4=.bool (ng l)∧gt s3.tm 2=.ptr (.loc 2 1) 0∧lg s3.loc 2=(1,.cells false [.bool false,.nils])∧s3.hp=⟨h.rows,none,h.mods⟩:=by
   intro e
   subst e
   exact⟨v5,out,c5,ctk,cdg,by simpa using cvl,by omega,c4,c2,cl2,ch⟩
  rcases hz with rfl | ⟨e0,q,rfl⟩
  ·refine sQ1 c6 ?_
   refine qaU (by simp only[qal,reduceIte];rfl) (fun hi0=>qag ?_) (fun hi0=>qax ?_)
   ·refine qac (qaq ?_)
    refine sR ?_
    refine qau (M:=fun s4=>gt s4.tm 7=.int .i64 (.ofNat (dv ((r.take i).drop (i - 4))))∧Kp [0,2,4,5,6] s3.tm s4.tm∧s4.loc=s3.loc∧s4.hp=s3.hp) ?_ (fun s4 ⟨d7,dk,dl,dh⟩=>?_)
    ·refine qau (M:=fun s4=>gt s4.tm 8=.int .i64 (.ofNat (i - 4))∧gt s4.tm 7=.int .i64 (.ofNat 0)∧Kp [0,2,4,5,6] s3.tm s4.tm∧s4.loc=s3.loc∧s4.hp=s3.hp) ?_ (fun s4 ⟨d8,d7,dk,dl,dh⟩=>?_)
     ·by_cases h4:4≤i
      ·refine sE1 c6 ?_
       exact⟨(by simp -implicitDefEqProofs (disch:=omega) only[go_sem,reduceIte,Nat.reduceEqDiff,Nat.max_eq_left]),sS,(by(try dsimp only);repeat (first | with_reducible exact qaH _ _ | with_reducible refine qbh (by decide) ?_)),rfl,rfl⟩
      ·refine qad (fun n k=>by simp -implicitDefEqProofs (disch:=omega) only[go_sem,reduceIte,Nat.reduceEqDiff,c6,qeC,qvr];rfl) ?_
       exact⟨by rw[show i - 4=0 by omega];exact sS,sS,(by(try dsimp only);repeat (first | with_reducible exact qaH _ _ | with_reducible refine qbh (by decide) ?_)),rfl,rfl⟩
     ·refine qaP (fun m s5=>∃ k,m+k=i∧i - 4≤k∧gt s5.tm 8=.int .i64 (.ofNat k)∧gt s5.tm 7=.int .i64 (.ofNat (dv ((r.take k).drop (i - 4))))∧Kp [0,2,4,5,6] s3.tm s5.tm∧s5.loc=s3.loc∧s5.hp=s3.hp) (i - (i - 4)) ⟨i - 4,by omega,Nat.le_refl _,d8,by rw[List.drop_eq_nil_of_le (by simp;omega)];exact d7,dk,dl,dh⟩ ?_
      intro m s5 ⟨k,hk,hik,e8,e7,ek,el,eh⟩
      have e6:=(ek 6 (by decide)).trans c6;have e0:=(ek 0 (by decide)).trans c0
      refine sQ2 e8 e6 ?_
      refine qaU (by simp only[qal,reduceIte];rfl) (fun hlt=>qag ?_) (fun hlt=>qax ?_)
      ·have hkr:k<r.length:=by omega
       have hx:=hdec (r.getD k 0) (by rw[List.getD_eq_getElem?_getD,List.getElem?_eq_getElem hkr];exact List.getElem_mem _)
       have hdk:Dec ((r.take k).drop (i - 4)):=fun x hx=>hdec x (List.mem_of_mem_take (List.mem_of_mem_drop hx))
       have hlt4:=qrJ hdk
       have hlen4:((r.take k).drop (i - 4)).length≤3:=by simp;omega
       have hp4:10 ^ ((r.take k).drop (i - 4)).length≤10 ^ 3:=Nat.pow_le_pow_right (by decide) hlen4
       have hp4':dv ((r.take k).drop (i - 4))<1000:=Nat.lt_of_lt_of_le hlt4 hp4
       refine qac (qaq ?_)
       refine qad (fun n k=>by simp -implicitDefEqProofs (disch:=omega) only[go_sem,reduceIte,Nat.reduceEqDiff,e7,e8,e0,qcj rd];rfl) ?_
       refine sE1 e8 ?_
       refine⟨m - 1,by omega,k+1,by omega,by omega,sS,?_,?_,el,eh⟩
       ·rw[qdj r k hkr,List.drop_append_of_le_length (by simp;omega),qln]
        exact sS
       ·intro j hj
        rw[qal,if_neg (by intro e;subst e;simp at hj),qal,if_neg (by intro e;subst e;simp at hj),qal,if_neg (by intro e;subst e;simp at hj)]
        exact ek j hj
      ·rw[if_pos rfl]
       have e:k=i:=by omega
       subst e
       refine⟨(sS1 e7),?_,el,eh⟩
       intro j hj
       rw[qal,if_neg (by intro e;subst e;simp at hj)]
       exact ek j hj
    ·have hdk:Dec ((r.take i).drop (i - 4)):=fun x hx=>hdec x (List.mem_of_mem_take (List.mem_of_mem_drop hx))
     have hlt4:=qrJ hdk
     have hlen4:((r.take i).drop (i - 4)).length≤4:=by simp;omega
     have hp4:dv ((r.take i).drop (i - 4))<10000:=Nat.lt_of_lt_of_le hlt4 (Nat.pow_le_pow_right (n:=10) (by decide) hlen4)
     obtain⟨v6,l6,happ,htk6,hfr6⟩:=qsX [dv ((r.take i).drop (i - 4))] none true (ctk.frame (loc':=s4.loc) (by rw[dl])) (by simp) (by simp;omega)
     have f5:=(dk 5 (by decide)).trans c5;have f6:=(dk 6 (by decide)).trans c6;have f0:=(dk 0 (by decide)).trans c0;have f4:=(dk 4 (by decide)).trans c4;have f2:=(dk 2 (by decide)).trans c2
     refine qad (fun n k=>by simp -implicitDefEqProofs (disch:=omega) only[go_sem,reduceIte,Nat.reduceEqDiff,d7,f5,qwL,happ];rfl) ?_
     have hvl6:vl 10000 (out++[dv ((r.take i).drop (i - 4))])=dv (r.drop (i - 4)):=by
      rw[qaZ,qdd,cvl]
      have e1:r.drop (i - 4)=(r.take i).drop (i - 4)++r.drop i:=by
       conv=>lhs;rw[←List.take_append_drop i r]
       rw[List.drop_append_of_le_length (by simp;omega)]
      rw[e1,qxO,List.length_drop,←hfour hi0,Nat.pow_mul,Nat.mul_comm,Nat.add_comm]
     have hl2:lg l6 2=(1,.cells false [.bool false,.nils]):=by rw[hfr6 2 (by decide),dl];exact cl2
     have h4:=hfour hi0
     by_cases hi4:4≤i
     ·refine sE1 f6 ?_
      exact⟨i - 4,by omega,v6,_,.ofNat (i - 4),(sS1 f0),sS,htk6,cdg.snoc hp4,hvl6,by omega,fun _=>by simp;omega,by simp;omega,sS,.inl rfl,(sS1 f4),(sS1 f2),hl2,dh.trans ch⟩
     ·refine qad (fun n k=>by simp -implicitDefEqProofs (disch:=omega) only[go_sem,reduceIte,Nat.reduceEqDiff,f6,qeC];rfl) ?_
      exact⟨i - 4,by omega,v6,_,.negSucc (4 - i - 1),(sS1 f0),sS,htk6,cdg.snoc hp4,hvl6,by omega,fun q=>by omega,by simp;omega,sS,.inr ⟨by omega,_,rfl⟩,(sS1 f4),(sS1 f2),hl2,dh.trans ch⟩
   ·rw[if_pos rfl]
    obtain⟨v,o,q⟩:=stop (by omega)
    exact⟨v,o,(by simp -implicitDefEqProofs (disch:=omega) only[go_sem,reduceIte,Nat.reduceEqDiff,q.1]),q.2.1,q.2.2.1,q.2.2.2.1,q.2.2.2.2.1,(by simp -implicitDefEqProofs (disch:=omega) only[go_sem,reduceIte,Nat.reduceEqDiff,q.2.2.2.2.2.1]),(by simp -implicitDefEqProofs (disch:=omega) only[go_sem,reduceIte,Nat.reduceEqDiff,q.2.2.2.2.2.2.1]),q.2.2.2.2.2.2.2⟩
  ·refine qac (qac (qad (fun n k=>by simp -implicitDefEqProofs (disch:=omega) only[go_sem,reduceIte,Nat.reduceEqDiff,c6,qor];rfl) ?_))
   refine qaj sS (qax ?_)
   rw[if_pos rfl]
   obtain⟨v,o,q⟩:=stop e0
   exact⟨v,o,(by simp -implicitDefEqProofs (disch:=omega) only[go_sem,reduceIte,Nat.reduceEqDiff,q.1]),q.2.1,q.2.2.1,q.2.2.2.1,q.2.2.2.2.1,(by simp -implicitDefEqProofs (disch:=omega) only[go_sem,reduceIte,Nat.reduceEqDiff,q.2.2.2.2.2.1]),(by simp -implicitDefEqProofs (disch:=omega) only[go_sem,reduceIte,Nat.reduceEqDiff,q.2.2.2.2.2.2.1]),q.2.2.2.2.2.2.2⟩
 ·obtain⟨v6,hsl,hex⟩:=ctk.out
  obtain⟨w,hrun,d,hw,ht⟩:=qbt hsl cdg (by omega) (ng l) ⟨h.rows,none,h.mods⟩
  have hw0:=hw
  obtain⟨⟨x,rfl,hx⟩,_⟩:=hw
  refine qac (qaf (hrun) (fun n hn k=>by simp -implicitDefEqProofs (disch:=omega) only[go_sem,reduceIte,Nat.reduceEqDiff,c2,c4,c5,ch,cl2,qyK (Ex1.bool _) hex hn,qah N31 1 (.bool (ng l && !d.isEmpty)) x (.bool false) .nils _ rfl hx.pl.ok];rfl) ?_)
  refine qai (hQ _ _ (qcz (x:=.bool (ng l && !d.isEmpty)) (y:=x) (w:=.bool true) (f:=false) (d:=2) (g:=1) (by kernel_rfl) (sS1 c2) sS (Pl.bool _) hx.pl sS (Pl.bool _) (fun x hx=>by cases hx)) ⟨_,by rw[hg],d,_,hw0,?_,by have:=ht.len;omega⟩)
  have e6:=ht.vl 10000
  rw[cvl]at e6
  unfold zOf zr
  rw[hg,hr]
  cases hng:ng l with
  | false=>simp only[Bool.false_and,cond_false,cond_true,e6]
  | true =>
   cases d with
   | nil=>simp only[vl]at e6;simp only[List.isEmpty_nil,Bool.not_true,Bool.and_false,cond_false,cond_true,vl,←e6];rfl
   | cons x0 l0=>simp only[List.isEmpty_cons,Bool.not_false,Bool.and_self,cond_true,e6]
section
variable {P:Program}{C:Cfg}{call:Qad}{gl:Nat→Bool}{o:Oper}{loc:Lo}{hp:Hp}
theorem qoB {d d1 x y t e b : Nat} (h1 : d1 ≠ d) (hi : ApI P o d x y t) (hA : C.QaN t = true) (hg : gl d = false) (he : QaB P t = some e) (hl : Qax P e = some (1, false)) (hb : Qb1 P e = some b) (hxy : x ≠ y)
    {k : IntKind} {l ys : List Nat} {v w : V} (hv : Ar loc d1 v k l) (hw : ∀ tm hp, Qag ⟨tm, loc, hp⟩ w = some (nl k ys)) (hys : ys ≠ []) (hn : (l.length + ys.length) * b ≤ 70368744177664) :
    ∃ v' loc', (∀ (call : Qad) (tm : Tm) (hp : Hp) (j : V → Lo → Hp → R), gen P C call gl o (pt (pt .lf x v) y w) tm loc hp j = j v' loc' hp) ∧ Ar loc' d v' k (l ++ ys) ∧ ∀ i, i ≠ d → i ≠ d1 → lg loc' i = lg loc i := by
  obtain ⟨hd, c, ho, hc, ha, hty, hni⟩ := hi
  have hx : gt (pt (pt .lf x v) y w) x = v := by rw [qal, if_neg (Ne.symm hxy), qal, if_pos rfl]
  have hy : gt (pt (pt .lf x v) y w) y = w := by rw [qal, if_pos rfl]
  have hp1 : ∀ (tm : Tm) hp, Qal P C gl (⟨tm, loc, hp⟩ : St).ρ (⟨tm, loc, hp⟩ : St).lc o = none := by
    intro tm hp
    unfold Qal
    simp only [ho, Qam, hc, ha, Option.map_none]
  have hne : ∀ {q : Prop}, nl k ys = [] → q := fun h => absurd (by simpa [nl] using h) hys
  have hmb : ∀ n, n ≤ 70368744177664 → Nat.ble n Qaj = true := fun n h => by rw [Nat.ble_eq]; exact h
  rcases hv with ⟨rfl, rfl⟩ | ⟨hl0, g, rfl, hrow⟩
  · refine ⟨.arr (.loc d ((lg loc d).1 + 1)) 0 ys.length none 1 false, lp loc d ((lg loc d).1 + 1, .cells false (nl k ys)), fun call tm hp j => qaL (st := ⟨pt (pt .lf x .nils) y w, lp loc d ((lg loc d).1 + 1, .cells false (nl k ys)), hp⟩) hd ?_, .inr ⟨by simpa using hys, (lg loc d).1 + 1, by simp, by rw [qbr, if_pos rfl]; simp⟩, fun i hi _ => by rw [qbr, if_neg (Ne.symm hi)]⟩
    unfold Qah
    rw [hp1]
    unfold stepG
    simp only [ho, QaP, hc, hty, hd, opds, ha, List.map_cons, List.map_nil, qaB, hx, hy, hni, cond_true, Qai, he, hl, hb, hw, qbS]
    split
    · rename_i h0; exact hne h0
    · rw [hmb _ (by simpa [qaD] using hn)]
      simp only [cond_true, hA, Qay, hg, Bool.false_and, cond_false, Qaa, qdZ, qbs, qcF, qaD]
  · have hrow' : ∀ tm hp, Qab ⟨tm, loc, hp⟩ (.loc d1 g) = some (.cells false (nl k l)) := fun tm hp => qap hrow
    refine ⟨.arr (.loc d ((lg loc d).1 + 1)) 0 (l ++ ys).length none 1 false, lp (lp loc d1 (g, .gone)) d ((lg loc d).1 + 1, .cells false (nl k (l ++ ys))), fun call tm hp j => qaL (st := ⟨pt (pt .lf x (.arr (.loc d1 g) 0 l.length none 1 false)) y w, lp (lp loc d1 (g, .gone)) d ((lg loc d).1 + 1, .cells false (nl k (l ++ ys))), hp⟩) hd ?_, .inr ⟨by simp [hl0], _, rfl, by rw [qbr, if_pos rfl]⟩, fun i hi hj => by rw [qbr, if_neg (Ne.symm hi), qbr, if_neg (Ne.symm hj)]⟩
    · unfold Qah
      rw [hp1]
      unfold stepG
      simp only [ho, QaP, hc, hty, hd, opds, ha, List.map_cons, List.map_nil, qaB, hx, hy, hni, cond_true, Qai, he, hl, hb, hw, qbS, hrow', qaD, Nat.beq_refl, beq_self_eq_true, Bool.and_self, Nat.zero_add, Nat.mul_one]
      rw [show Nat.ble l.length l.length = true from by rw [Nat.ble_eq]; exact Nat.le_refl _, hmb _ hn]
      simp only [Bool.and_self, cond_true]
      split
      · rename_i h0; exact hne h0
      · simp only [Qa3, Bool.not_true, Bool.false_and, cond_false]
        rw [show Nat.ble (l.length + ys.length) l.length = false from by
          cases hb : Nat.ble (l.length + ys.length) l.length with
          | false => rfl
          | true => rw [Nat.ble_eq] at hb; have : ys.length ≠ 0 := by simpa using hys
                    omega]
        simp only [cond_false, Qay, hg, Bool.false_and, qca, Qaa, qdZ, qbr, if_neg h1, qbs, qcF, qdp, List.length_append, cond_true]
end
theorem tbl23:tbl 23=some ⟨rc23,[.tmp 2]⟩:=by kernel_rfl
theorem qy1{l:Lo}{h:Hp}{w:V}{d:List Nat}(hw:∀ q,w≠.str q)(hi:∀ tm,Qag ⟨tm,l,h⟩ w=some (nl .u8 d))(hd:Dg 256 d)(c:Qad)(t:Tm)(j:V→Lo→Hp→R):go1 Try.f23 23 19 1 79 w c t l h j=j (.str (sl d)) l h :=
 ql5 (C:=Cg) (gl:=Cg.glob 23) (call:=c) (tm:=t) (loc:=l) (hp:=h) (j:=j) (x:=79) (o:=opA Try.f23 19 1) (d:=80) (s:=51) (t:=9) (e:=5) (by kernel_rfl) (by kernel_rfl) U51 U9 U5 hw hi hd
structure IX(s:V)(b:Bool)(h:Hp)(st:St)(v3:V)(out:List Nat):Prop where
 h1:gt st.tm 1=.ptr (.loc 1 1) 0
 h3:gt st.tm 3=v3
 l1:lg st.loc 1=(1,.cells false [.bool b,s])
 ar:Ar st.loc 47 v3 .u8 out
 dec:Dec out
 hh:st.hp=⟨h.rows,none,h.mods⟩
theorem qdh{B:Nat}{d:List Nat}(hc:Cn d)(hd:d≠[])(hB:0<B):0<vl B d:=by
 have h1:=qnq (B:=B) hc hd
 have h2:0<B ^ (d.length - 1):=Nat.pow_pos hB
 omega
theorem qd5(l:List Nat)(x:Nat):(l++[x]).getD ((l++[x]).length - 1) 0=x:=by
 rw[List.getD_eq_getElem?_getD];simp
theorem qeW{k:Nat}{v:V}{z:Int}(ha:IsR k v z)(hk:k≤90000):Gives 23 [v] fun r=>∃ t,r=.str (sl t)∧Dg 256 t∧Qa8 t=true∧zOf t=z∧t.length≤4*k+20:=by
 obtain⟨d,b,⟨⟨s,rfl,hs⟩,dd,cd,h0⟩,hx,hl⟩:=ha
 refine qak tbl23 fun h Q hQ=>?_
 unfold rc23
 refine sRG ?_
 rcases Nat.eq_zero_or_pos d.length with e0 | e0
 ·have e:d=[]:=List.length_eq_zero_iff.1 e0
  have eb:=h0 e
  refine qac (qac (qad (fun n k=>by simp -implicitDefEqProofs (disch:=omega) only[go_sem,reduceIte,Nat.reduceEqDiff,qao L29,qam hs,e0,qaQ];rfl) ?_))
  refine qan sS ?_
  refine sR ?_
  refine qai (hQ _ _ (qbJ (v:=.str (sl [48])) (by simp -implicitDefEqProofs only[go_sem,reduceIte];rfl) (Ex1.str _) (fun x hx=>by cases hx) rfl) ⟨[48],rfl,by intro x hx;simp at hx;subst hx;decide,by decide,?_,by simp⟩)
  subst e;subst eb;subst hx
  rfl
 have hne:d≠[]:=fun e=>by subst e;simp at e0
 refine qac (qac (qad (fun n k=>by simp -implicitDefEqProofs (disch:=omega) only[go_sem,reduceIte,Nat.reduceEqDiff,qao L29,qam hs,qaY];rfl) ?_))
 refine qaj sS (qag ?_)
 refine sR ?_
 refine qau (M:=fun st=>∃ v3 out,IX s b h st v3 out∧lv out=vl 10000 d∧out.length≤4*k∧0<out.length∧out.getD (out.length - 1) 0≠48) ?_ ?_
 ·refine sR ?_
  refine qaP (fun m st=>∃ i v3 out,m+i=d.length∧gt st.tm 4=.int .i64 (.ofNat i)∧IX s b h st v3 out∧lv out=vl 10000 (d.take i)∧out.length≤4*i∧(i<d.length→out.length=4*i)∧(i=d.length→0<out.length∧out.getD (out.length - 1) 0≠48)) d.length ⟨0,.nils,[],rfl,sS,⟨sS,sS,sS,.inl ⟨rfl,sS⟩,(fun x hx=>by simp at hx),rfl⟩,rfl,by simp,fun _=>rfl,fun q=>by omega⟩ ?_
  intro m st ⟨i,v3,out,hm,h4,H,hlv,hlo,hlo2,hlast⟩
  obtain⟨h1,h3,l1,ar,dec,hh⟩:=H
  refine qac (qac (qad (fun n k=>by simp -implicitDefEqProofs (disch:=omega) only[go_sem,reduceIte,Nat.reduceEqDiff,h4,h1,l1,qao L29,qam hs];rfl) ?_))
  refine qaU (by simp only[qal,reduceIte];rfl) (fun hi=>qag ?_) (fun hi=>qax ?_)
  ·have hx0:d.getD i 0<10000:=dd.get (by decide) i
   refine qac (qaq ?_)
   refine qac (qad (fun n k=>by simp -implicitDefEqProofs (disch:=omega) only[go_sem,reduceIte,Nat.reduceEqDiff,h4,h1,l1,qao L29,qk9 hs];rfl) ?_)
   refine sR ?_
   refine qeU (N:=fun s2=>∃ v4 out4,gt s2.tm 4=.int .i64 (.ofNat i)∧IX s b h s2 v4 out4∧lv out4=vl 10000 (d.take (i+1))∧out4.length≤4*(i+1)∧(i+1<d.length→out4.length=4*(i+1))∧(i+1=d.length→0<out4.length∧out4.getD (out4.length - 1) 0≠48)) (X:=fun _ _=>False) (Q:=fun _=>False) ?_ ?_ (fun _ _ h=>h.elim) (fun _ h=>h.elim)
   ·refine qaP (fun m s2=>∃ q x v4 out4,m+q=4∧gt s2.tm 4=.int .i64 (.ofNat i)∧gt s2.tm 6=.int .i64 (.ofNat q)∧gt s2.tm 5=.int .i64 (.ofNat x)∧x<10 ^ (4 - q)∧IX s b h s2 v4 out4∧lv out4+10 ^ out4.length*x=vl 10000 (d.take (i+1))∧out4.length=4*i+q∧(i+1=d.length→x=0→0<out4.length∧out4.getD (out4.length - 1) 0≠48)) 4 ⟨0,d.getD i 0,v3,out,rfl,(sS1 h4),sS,sS,hx0,⟨(sS1 h1),(sS1 h3),(sS1 l1),ar,dec,hh⟩,?_,hlo2 hi,?_⟩ ?_
    ·rw[qaA,hlv,hlo2 hi,Nat.pow_mul]
    ·intro e e2
     exact absurd e2 (cd i e.symm)
    intro m2 s2 ⟨q,x,v4,out4,hm2,j4,j6,j5,hxq,H4,hv4,hlen4,hlast4⟩
    obtain⟨q1,q3,k1,ar4,dec4,hh4⟩:=H4
    have hx4:x<10000:=Nat.lt_of_lt_of_le hxq (Nat.pow_le_pow_right (n:=10) (by decide) (show 4 - q≤4 by omega))
    have fin:¬(q<4∧(i+1<d.length∨0<x))→∀ tm,gt tm 4=.int .i64 (.ofNat i)→gt tm 1=.ptr (.loc 1 1) 0→gt tm 3=v4→∃ v4 out4,gt tm 4=.int .i64 (.ofNat i)∧IX s b h ⟨tm,s2.loc,s2.hp⟩ v4 out4∧lv out4=vl 10000 (d.take (i+1))∧out4.length≤4*(i+1)∧(i+1<d.length→out4.length=4*(i+1))∧(i+1=d.length→0<out4.length∧out4.getD (out4.length - 1) 0≠48):=by
     intro hq tm t4 t1 t3
     have ex:x=0:=by
      by_cases hq4:q=4
      ·subst hq4;rw[show(10:Nat) ^ (4 - 4)=1 from rfl]at hxq;omega
      ·omega
     subst ex
     exact⟨v4,out4,t4,⟨t1,t3,k1,ar4,dec4,hh4⟩,by simpa using hv4,by omega,fun h=>by omega,fun h=>hlast4 h rfl⟩
    have body:q<4→(i+1<d.length∨0<x)→∀ tm,gt tm 4=.int .i64 (.ofNat i)→gt tm 1=.ptr (.loc 1 1) 0→gt tm 3=v4→gt tm 5=.int .i64 (.ofNat x)→gt tm 6=.int .i64 (.ofNat q)→WW Pg kn0 tbl (.seq (.block 3 (.seq (.reg fun c t l h k=>bO (bin Pg .rem 3 true (g5 t) (I 10)) fun v0=>bO (bin Pg .add 3 true (I 48) v0) fun v1=>gn Try.f23 23 11 4 c (p44 t v1) t l h (fun v2 l2 h2=>gn Try.f23 23 11 5 c (p45 t v2) t l2 h2 (fun v3 l3 h3=>gn Try.f23 23 11 6 c (p46 (p41 t (g3 t)) v3) t l3 h3 (fun v4 l4 h4=>k (p3 t v4) l4 h4))))
 (.reg fun c t l h k=>bO (bin Pg .quo 3 true (g5 t) (I 10)) fun v0=>k (p5 t v0) l h)))
 (.reg fun c t l h k=>bO (bin Pg .add 3 true (g6 t) (I 1)) fun v0=>k (p6 t v0) l h)) ⟨tm,s2.loc,s2.hp⟩ (fun s'=>∃ m',m'<m2∧∃ q x v4 out4,m'+q=4∧gt s'.tm 4=.int .i64 (.ofNat i)∧gt s'.tm 6=.int .i64 (.ofNat q)∧gt s'.tm 5=.int .i64 (.ofNat x)∧x<10 ^ (4 - q)∧IX s b h s' v4 out4∧lv out4+10 ^ out4.length*x=vl 10000 (d.take (i+1))∧out4.length=4*i+q∧(i+1=d.length→x=0→0<out4.length∧out4.getD (out4.length - 1) 0≠48)) (fun i_1 s_1=>if i_1=2 then ∃ v4 out4,gt s_1.tm 4=.int .i64 (.ofNat i)∧IX s b h s_1 v4 out4∧lv out4=vl 10000 (d.take (i+1))∧out4.length≤4*(i+1)∧(i+1<d.length→out4.length=4*(i+1))∧(i+1=d.length→0<out4.length∧out4.getD (out4.length - 1) 0≠48)else False) (fun _=>False):=by
     intro hq4 hcont tm t4 t1 t3 t5 t6
     have hm10:x % 10<10:=Nat.mod_lt _ (by decide)
     obtain⟨v5,l5,happ,har5,hfr5⟩:=qsU (48+x % 10) ar4 (by omega)
     refine qac (qaq ?_)
     refine sR3 t5 t3 happ ?_
     refine sE1 t5 ?_
     refine sE1 t6 ?_
     refine⟨m2 - 1,by omega,q+1,x / 10,v5,out4++[48+x % 10],by omega,(sS1 t4),sS,sS,?_,⟨(sS1 t1),sS,by rw[hfr5 1 (by decide) (by decide)];exact k1,har5,dec4.snoc (by omega) (by omega),hh4⟩,?_,by simp[hlen4];omega,?_⟩
     ·have e:10 ^ (4 - q)=10*10 ^ (4 - (q+1)):=by rw[show 4 - q=(4 - (q+1))+1 by omega,Nat.pow_succ,Nat.mul_comm]
      omega
     ·rw[←hv4,qjX,List.length_append,List.length_cons,List.length_nil,Nat.pow_succ]
      simp only[lv,Nat.mul_zero,Nat.add_zero,Nat.mul_assoc,Nat.add_assoc]
      rw[←Nat.mul_add,Nat.add_sub_cancel_left,Nat.mod_add_div]
     ·intro hil hx0
      refine⟨by simp,?_⟩
      rw[qd5]
      omega
    by_cases hq4:q<4
    ·by_cases hil:i<d.length - 1
     ·refine qac (qac (qad (fun n k=>by simp -implicitDefEqProofs (disch:=omega) only[go_sem,reduceIte,Nat.reduceEqDiff,j6,j5,j4,q1,k1,qao L29,qam hs,decide_eq_true hq4,decide_eq_true hil];rfl) ?_))
      refine qan sS (qag ?_)
      exact body hq4 (.inl (by omega)) _ (sS1 j4) (sS1 q1) (sS1 q3) (sS1 j5) (sS1 j6)
     ·by_cases hx1:0<x
      ·refine qac (qac (qad (fun n k=>by simp -implicitDefEqProofs (disch:=omega) only[go_sem,reduceIte,Nat.reduceEqDiff,j6,j5,j4,q1,k1,qao L29,qam hs,decide_eq_true hq4,decide_eq_false hil,decide_eq_true hx1];rfl) ?_))
       refine qan sS (qag ?_)
       exact body hq4 (.inr hx1) _ (sS1 j4) (sS1 q1) (sS1 q3) (sS1 j5) (sS1 j6)
      ·refine qac (qac (qad (fun n k=>by simp -implicitDefEqProofs (disch:=omega) only[go_sem,reduceIte,Nat.reduceEqDiff,j6,j5,j4,q1,k1,qao L29,qam hs,decide_eq_true hq4,decide_eq_false hil,decide_eq_false hx1];rfl) ?_))
       refine qaj sS (qax ?_)
       rw[if_pos rfl]
       exact fin (by omega) _ (sS1 j4) (sS1 q1) (sS1 q3)
    ·refine qac (qac (qad (fun n k=>by simp -implicitDefEqProofs (disch:=omega) only[go_sem,reduceIte,Nat.reduceEqDiff,j6,decide_eq_false hq4];rfl) ?_))
     refine qaj sS (qax ?_)
     rw[if_pos rfl]
     exact fin (by omega) _ (sS1 j4) (sS1 q1) (sS1 q3)
   ·intro s2 ⟨v4,out4,j4,H4,e1,e2,e3,e4⟩
    refine sE1 j4 ?_
    obtain⟨q1,q3,k1,ar4,dec4,hh4⟩:=H4
    exact⟨m - 1,by omega,i+1,v4,out4,by omega,sS,⟨(sS1 q1),(sS1 q3),k1,ar4,dec4,hh4⟩,e1,e2,e3,e4⟩
  ·rw[if_pos rfl]
   have ei:i=d.length:=by omega
   subst ei
   rw[List.take_length]at hlv
   exact⟨v3,out,⟨(sS1 h1),(sS1 h3),l1,ar,dec,hh⟩,hlv,by omega,hlast rfl⟩
 ·intro st ⟨v3,out,H,hlv,hlo,hpos,h48⟩
  obtain⟨h1,h3,l1,ar,dec,hh⟩:=H
  have hgood:=qov b dec hpos h48
  rcases ar with ⟨e,_⟩ | ⟨hne0,g,rfl,hrow⟩
  ·subst e;simp at hpos
  refine qau (M:=fun s3=>∃ σ g,(σ = 47∨σ = 54)∧gt s3.tm 3=.arr (.loc σ g) 0 (out++bif b then [45]else []).length none 1 false∧lg s3.loc σ = (g,.cells false (nl .u8 (out++bif b then [45]else [])))∧s3.hp=⟨h.rows,none,h.mods⟩) ?_ ?_
  ·refine qac (qad (fun n k=>by simp -implicitDefEqProofs (disch:=omega) only[go_sem,reduceIte,Nat.reduceEqDiff,h1,l1,qar L4];rfl) ?_)
   cases b with
   | true =>
    refine qan sS ?_
    obtain⟨v5,l5,happ,har5,hfr5⟩:=qoB (k:=.u8) (l:=out) (v:=.arr (.loc 47 g) 0 out.length none 1 false) (d1:=47) (C:=Cg) (gl:=Cg.glob 23) (loc:=lp st.loc 53 ((lg st.loc 53).1+1,.cells false (nl .u8 [45]))) (w:=.arr (.loc 53 ((lg st.loc 53).1+1)) 0 1 (some 1) 1 false) (by decide) qq9 (by kernel_rfl) (by kernel_rfl) (e:=5) (by kernel_rfl) (by kernel_rfl) (b:=1) (by kernel_rfl) (by decide) (ys:=[45]) (.inr ⟨hne0,g,rfl,by rw[qbr,if_neg (by decide)];exact hrow⟩) (fun tm hp=>qbD (ys:=[45]) (by rw[qbr,if_pos rfl])) (by simp) (by simp;omega)
    have happ2:∀ (c:Qad) (tm:Tm) (hp:Hp) (j:V→Lo→Hp→R),go2 Try.f23 23 14 2 52 53 (.arr (.loc 47 g) 0 out.length none 1 false) (.arr (.loc 53 ((lg st.loc 53).1+1)) 0 1 (some 1) 1 false) c tm (lp st.loc 53 ((lg st.loc 53).1+1,.cells false (nl .u8 [45]))) hp j=j v5 l5 hp:=happ
    refine sE2 h3 happ2 ?_
    rcases har5 with ⟨e,_⟩ | ⟨_,g5,rfl,hr5⟩
    ·simp at e
    ·exact⟨54,g5,.inr rfl,(by simp -implicitDefEqProofs (disch:=omega) only[go_sem,reduceIte,Nat.reduceEqDiff,cond_true]),hr5,hh⟩
   | false =>
    refine qaj sS (qag ?_)
    exact⟨47,g,.inl rfl,(by simp -implicitDefEqProofs (disch:=omega) only[go_sem,reduceIte,Nat.reduceEqDiff,cond_false,List.append_nil,h3]),by simpa using hrow,hh⟩
  ·intro s3 ⟨σ,g3,hσ,c3,hrow3,hh3⟩
   generalize hout:(out++bif b then [45]else [])=o3 at *
   have ho3:0<o3.length∧o3.length≤out.length+1:=by
    subst hout
    cases b<;>simp<;>omega
   have hd3:Dg 256 o3:=by
    subst hout
    cases b with
    | true =>
     intro x hx
     rcases List.mem_append.1 hx with hx | hx
     ·exact dec.dg x hx
     ·simp at hx;subst hx;decide
    | false=>exact fun x hx=>dec.dg x (by simpa using hx)
   refine qau (M:=fun s4=>gt s4.tm 3=.arr (.loc σ g3) 0 o3.reverse.length none 1 false∧lg s4.loc σ = (g3,.cells false (nl .u8 o3.reverse))∧s4.hp=⟨h.rows,none,h.mods⟩) ?_ ?_
   ·refine sR1 c3 ?_
    refine qaP (fun m s4=>∃ i j cur,m=j+1 - i∧i+j+1=o3.length∧gt s4.tm 3=.arr (.loc σ g3) 0 o3.length none 1 false∧gt s4.tm 7=.int .i64 (.ofNat i)∧gt s4.tm 8=.int .i64 (.ofNat j)∧lg s4.loc σ = (g3,.cells false (nl .u8 cur))∧cur.length=o3.length∧(∀ p,p<o3.length→cur.getD p 0=if p<i∨j<p then o3.getD (o3.length - 1 - p) 0 else o3.getD p 0)∧s4.hp=⟨h.rows,none,h.mods⟩) (o3.length - 1+1) ⟨0,o3.length - 1,o3,rfl,by omega,(sS1 c3),sS,sS,hrow3,rfl,fun p hp=>by rw[if_neg (by omega)],hh3⟩ ?_
    intro m s4 ⟨i,j,cur,hm,hij,e3,e7,e8,hrow,hcl,hval,hhp⟩
    refine sQ2 e7 e8 ?_
    refine qaU (by simp only[qal,reduceIte];rfl) (fun hlt=>qag ?_) (fun hlt=>qax ?_)
    ·have hF:∀ x:R,Qbw (rgA Try.f23 18).toList [] []
       [⟨[σ],[σ],false,false,false,false⟩,ft0,⟨[σ],[σ],false,false,false,false⟩,ft0,⟨[σ],[],false,false,false,false⟩,ft0,ft0,ft0,⟨[σ],[],false,false,false,false⟩,ft0,ft0,ft0,ft0,ft0,ft0,ft0] x=x:=by
      intro x
      rcases hσ with rfl | rfl
      ·exact qav (by kernel_rfl)
      ·exact qav (by kernel_rfl)
     refine qac (qaq ?_)
     refine qad (fun n k=>by
      simp -implicitDefEqProofs (disch:=omega) only[go_sem,reduceIte,Nat.reduceEqDiff,e3,e7,e8,hrow,qb4 L5,qbV N5 i cur (show i<cur.length by omega),qbV N5 j (cur.set i (cur.getD j 0)) (show j<(cur.set i (cur.getD j 0)).length by rw[List.length_set];omega)]
      exact hF _) ?_
     refine sE2 e7 e8 ?_
     refine⟨j - 1+1 - (i+1),by omega,i+1,j - 1,(cur.set i (cur.getD j 0)).set j (cur.getD i 0),rfl,by omega,(sS1 e3),sS,sS,by rw[qbr,if_pos rfl],by simp[hcl],?_,hhp⟩
     intro p hp
     by_cases e1:p=j
     ·subst e1
      rw[qbc _ _ _ (by simp;omega),if_pos (by omega),hval i (by omega),if_neg (by omega)]
      congr 1;omega
     ·rw[qaG _ _ _ _ (Ne.symm e1)]
      by_cases e2:p=i
      ·subst e2
       rw[qbc _ _ _ (by omega),if_pos (by omega),hval j (by omega),if_neg (by omega)]
       congr 1;omega
      ·rw[qaG _ _ _ _ (Ne.symm e2),hval p hp]
       by_cases e3:p<i∨j<p
       ·rw[if_pos e3,if_pos (by omega)]
       ·rw[if_neg e3,if_neg (by omega)]
    ·rw[if_pos rfl]
     have hfin:cur=o3.reverse:=by
      refine qey (by simp;omega) (fun p hp=>?_)
      have hp':p<o3.length:=by omega
      rw[qfX o3 p hp',hval p hp']
      by_cases e3:p<i∨j<p
      ·rw[if_pos e3]
      ·rw[if_neg e3];congr 1;omega
     rw[←hfin]
     exact⟨(sS2 e3 hcl),hrow,hhp⟩
   ·intro s4 ⟨f3,hr4,hh4⟩
    refine qac (qad (fun n k=>by simp -implicitDefEqProofs (disch:=omega) only[go_sem,reduceIte,Nat.reduceEqDiff,f3,qy1 (l:=s4.loc) (h:=s4.hp) (w:=.arr (.loc σ g3) 0 o3.reverse.length none 1 false) (fun q e=>by cases e) (fun tm=>qbD hr4) (Dg.rev hd3)];rfl) ?_)
    refine qai (hQ _ _ (qbJ (v:=.str (sl o3.reverse)) sS (Ex1.str _) (by rw[hh4];exact fun x hx=>by cases hx) rfl) ⟨o3.reverse,rfl,Dg.rev hd3,hgood.1,?_,by simp;omega⟩)
    rw[hgood.2,hlv,hx]
    rfl
theorem qxp:∀ {a b:List Nat},Dec a→Dec b→a.length=b.length→lv a=lv b→a=b:=by
 intro a
 induction a with
 | nil=>intro b _ _ hl _;cases b with | nil=>rfl | cons y b=>simp at hl
 | cons x a ih =>
  intro b ha hb hl h
  cases b with
  | nil=>simp at hl
  | cons y b =>
   have h1:=ha x (by simp)
   have h2:=hb y (by simp)
   simp only[lv]at h
   have e1:x=y:=by omega
   have e2:lv a=lv b:=by omega
   rw[e1,ih (fun z hz=>ha z (by simp[hz])) (fun z hz=>hb z (by simp[hz])) (by simpa using hl) e2]
theorem qyt{l:List Nat}(hd:Dec l)(hl:0<l.length)(h:l.getD (l.length - 1) 0≠48):10 ^ (l.length - 1)≤lv l:=by
 have hm:l.getD (l.length - 1) 0 ∈ l:=by
  rw[List.getD_eq_getElem?_getD,List.getElem?_eq_getElem (by omega)]
  exact List.getElem_mem _
 have h1:=hd _ hm
 have e:=qhF l hl
 rw[e,qjX]
 simp only[lv,List.length_append,List.length_take,List.length_cons,List.length_nil,Nat.mul_zero,Nat.add_zero]
 rw[show min (l.length - 1) l.length+(0+1) - 1=l.length - 1 by omega,show min (l.length - 1) l.length=l.length - 1 by omega]
 have:10 ^ (l.length - 1)*1≤10 ^ (l.length - 1)*(l.getD (l.length - 1) 0 - 48):=Nat.mul_le_mul_left _ (by omega)
 omega
theorem qgK{a:List Nat}(h:Qa8 a=true):Dec (Qan a)∧0<(Qan a).length∧a=(bif ng a then 45::Qan a else Qan a)∧((Qan a).getD 0 0=48→Qan a=[48]∧ng a=false):=by
 obtain⟨h1,h2,h3⟩:=ql4 h
 refine⟨h2,h1,?_,fun h48=>?_⟩
 ·unfold Qan
  cases hn:ng a with
  | false=>rfl
  | true =>
   have hlen:=qn6 hn
   cases a with
   | nil=>simp at hlen
   | cons x l =>
    have:x=45:=by simpa[ng]using hn
    rw[this];rfl
 ·unfold Qch at h3
  rw[decide_eq_true h48]at h3
  simp only[Bool.true_and,Bool.or_eq_false_iff,decide_eq_false_iff_not]at h3
  refine⟨?_,h3.2.2⟩
  have hl:(Qan a).length=1:=by omega
  obtain⟨x,hx⟩:=List.length_eq_one_iff.1 hl
  rw[hx]at h48 ⊢
  simp at h48
  rw[h48]
theorem qlL{a:List Nat}(h:Qa8 a=true):zOf a=bif ng a then -(dv (Qan a):Int)else (dv (Qan a):Int):=by
 unfold zOf;rw[h];rfl
theorem qks{l:List Nat}(hd:Dec l)(hl:0<l.length)(h:l.getD 0 0≠48):10 ^ (l.length - 1)≤dv l:=by
 rw[qlo]
 have:=qyt hd.rev (by simpa using hl) (by
  rw[List.length_reverse,qfX l (l.length - 1) (by omega),show l.length - 1 - (l.length - 1)=0 by omega]
  exact h)
 rwa [List.length_reverse]at this
theorem qxN{a b:List Nat}(ha:Dec a)(hb:Dec b)(la:0<a.length)(lb:0<b.length)(ca:a.getD 0 0=48→a=[48])(cb:b.getD 0 0=48→b=[48])(h:dv a=dv b):a=b:=by
 by_cases h1:a.getD 0 0=48
 ·by_cases h2:b.getD 0 0=48
  ·rw[ca h1,cb h2]
  ·exfalso
   have:=qks hb lb h2
   have e:dv a=0:=by rw[ca h1];rfl
   have:0<10 ^ (b.length - 1):=Nat.pow_pos (by decide)
   omega
 ·by_cases h2:b.getD 0 0=48
  ·exfalso
   have:=qks ha la h1
   have e:dv b=0:=by rw[cb h2];rfl
   have:0<10 ^ (a.length - 1):=Nat.pow_pos (by decide)
   omega
  ·have g1:=qks ha la h1
   have g2:=qks hb lb h2
   have l1:=qrJ ha
   have l2:=qrJ hb
   have q1:a.length - 1<b.length:=qdI (c:=10) (by decide) (by omega)
   have q2:b.length - 1<a.length:=qdI (c:=10) (by decide) (by omega)
   have hl:a.length=b.length:=by omega
   have e:=qxp ha.rev hb.rev (by simpa using hl) (by rw[←qlo,←qlo];exact h)
   rw[←List.reverse_reverse a,e,List.reverse_reverse]
theorem qfZ{a b:List Nat}(ha:Qa8 a=true)(hb:Qa8 b=true)(h:zOf a=zOf b):a=b:=by
 obtain⟨a1,a2,a3,a4⟩:=qgK ha
 obtain⟨b1,b2,b3,b4⟩:=qgK hb
 rw[qlL ha,qlL hb]at h
 have pos:∀ {l:List Nat},Dec (Qan l)→0<(Qan l).length→((Qan l).getD 0 0=48→Qan l=[48]∧ng l=false)→ng l=true→0<dv (Qan l):=by
  intro l h1 h2 h3 h4
  have:(Qan l).getD 0 0≠48:=fun e=>by have:=(h3 e).2;rw[h4]at this;cases this
  have:=qks h1 h2 this
  have:0<10 ^ ((Qan l).length - 1):=Nat.pow_pos (by decide)
  omega
 have hng:ng a=ng b:=by
  cases h1:ng a with
  | true=>cases h2:ng b with
   | true=>rfl
   | false=>have:=pos a1 a2 a4 h1;rw[h1,h2]at h;simp only[cond_true,cond_false]at h;omega
  | false=>cases h2:ng b with
   | false=>rfl
   | true=>have:=pos b1 b2 b4 h2;rw[h1,h2]at h;simp only[cond_true,cond_false]at h;omega
 have hdv:dv (Qan a)=dv (Qan b):=by
  rw[hng]at h
  cases h2:ng b with
  | true=>rw[h2]at h;simp only[cond_true]at h;omega
  | false=>rw[h2]at h;simp only[cond_false]at h;omega
 have e:=qxN a1 b1 a2 b2 (fun q=>(a4 q).1) (fun q=>(b4 q).1) hdv
 rw[a3,b3,hng,e]
theorem qxw{P:Program}{t e:TypeId}{ag:Bool}(he:F.QaB P t=some e)(hl:F.Qax P e=some (1,ag))(tok:Option Ref)(f:Bool)(k':IntKind)(l:List V)(i:Nat)(v:V)(h:l[i]? = some v)(hc:v.cells=[v]) :
  ia P t (.slice tok f 1 l) (.int k' (.ofNat i))=some (.iptr [v]):=by
 show G.Qac (F.QaB P t) _ none=_
 rw[he]
 show G.Qac (F.Qax P e) _ none=_
 rw[hl]
 show(bif Nat.blt i (F.QaZ l)then G.Qac (F.QbB l i) _ none else none)=_
 have hi:i<l.length:=by
  rcases Nat.lt_or_ge i l.length with q | q
  ·exact q
  ·rw[List.getElem?_eq_none q]at h;cases h
 rw[F.QaH,show Nat.blt i l.length=true from by rw[Nat.blt_eq];exact hi,F.Qba,h]
 show some (V.iptr v.cells)=_
 rw[hc]
theorem NR.quiet{v:V}{d:List Nat}{b:Bool}(h:NR v d b):AM.quiet v=true:=by
 obtain⟨⟨s,rfl,hs⟩,_⟩:=h
 rcases hs with ⟨f,rfl⟩ | ⟨rfl,_⟩<;>rfl
theorem exR{s:V}{d:List Nat}(hs:Sl .i64 s d)(b:Bool):Ex1 (.agg [.bool b,s]):=fun st=>qda (by intro u hu;simp at hu;rcases hu with rfl | rfl;exact Pl.bool _;exact hs.pl) st
theorem NR.ex{v:V}{d:List Nat}{b:Bool}(h:NR v d b):Ex1 v:=by
 obtain⟨⟨s,rfl,hs⟩,_⟩:=h
 exact exR hs b
theorem IsI.ex{k:Nat}{v:V}{z:Int}(h:IsI k v z):Ex1 v:=by obtain⟨d,b,h1,_⟩:=h;exact h1.ex
theorem IsI.quiet{k:Nat}{v:V}{z:Int}(h:IsI k v z):AM.quiet v=true:=by obtain⟨d,b,h1,_⟩:=h;exact h1.quiet
theorem IsR.ex{k:Nat}{v:V}{z:Int}(h:IsR k v z):Ex1 v:=by obtain⟨d,b,h1,_⟩:=h;exact h1.ex
theorem IsR.quiet{k:Nat}{v:V}{z:Int}(h:IsR k v z):AM.quiet v=true:=by obtain⟨d,b,h1,_⟩:=h;exact h1.quiet
section
variable {P:Program}{C:Cfg}{call:Qad}{gl:Nat→Bool}{o:Oper}{t' tm:Tm}{loc:Lo}{hp:Hp}{j:V→Lo→Hp→R}
theorem qri{d:Nat}{x y:Operand}{t e:TypeId}{k:IntKind}{n m:Nat}(hd:o.dst=some d)(ho:o.op=.buildSlice t 2 #[(0,x),(1,y)])(ha:C.QaN t=true)(hg:gl d=false)(he:QaB P t=some e)(hl:Qax P e=some (1,false))
  {k0:IntKind} {n0:Int} (hz:zeroV P e=some (.int k0 n0)) (hv:AM.opd (⟨t',loc,hp⟩:St).ρ x=.int k (.ofNat n)) (hw:AM.opd (⟨t',loc,hp⟩:St).ρ y=.int k (.ofNat m)) :
  gen P C call gl o t' tm loc hp j=j (.arr (.loc d ((lg loc d).1+1)) 0 2 (some 2) 1 false) (lp loc d ((lg loc d).1+1,.cells false (nl k [n,m]))) hp:=by
 refine qaL (v:=.arr (.loc d ((lg loc d).1+1)) 0 2 (some 2) 1 false) (st:=⟨t',lp loc d ((lg loc d).1+1,.cells false (nl k [n,m])),hp⟩) hd ?_
 have hp1:Qal P C gl (⟨t',loc,hp⟩:St).ρ (⟨t',loc,hp⟩:St).lc o=none:=by
  unfold Qal
  simp only[ho,Qam,he,hl,hz,ha,Bool.not_true,Bool.false_and,cond_false,Option.map_none]
 unfold Qah
 rw[hp1]
 unfold stepG
 simp only[ho,hd,he,hl,hz,opds,List.map_cons,List.map_nil,hv,hw,exps,exp,exp1,V.live,V.Qap,Bool.and_self,cond_true,ha,hg,Qaa,cond_false,qdZ,qbs]
 rfl
end
theorem qy6(n m:Nat)(l:Lo)(h:Hp)(c:Qad)(t:Tm)(j:V→Lo→Hp→R):go2 Try.f21 21 4 5 11 14 (.int .u32 (.ofNat n)) (.int .u32 (.ofNat m)) c t l h j=j (.arr (.loc 15 ((lg l 15).1+1)) 0 2 (some 2) 1 false) (lp l 15 ((lg l 15).1+1,.cells false (nl .u32 [n,m]))) h :=
 qri (C:=Cg) (gl:=Cg.glob 21) (call:=c) (tm:=t) (loc:=l) (hp:=h) (j:=j) (t':=pt (pt .lf 11 (.int .u32 (.ofNat n))) 14 (.int .u32 (.ofNat m))) (k:=.u32) (n:=n) (m:=m) (o:=opA Try.f21 4 5) (d:=15) (x:=.tmp 11) (y:=.tmp 14) (t:=24) (e:=86) (by kernel_rfl) (by kernel_rfl) (by kernel_rfl) (by kernel_rfl) (by kernel_rfl) (by kernel_rfl) (show zeroV Pg 86=some (.int .u32 (.ofNat 0))by kernel_rfl) (by rw[qaB,qal,if_neg (by decide),qal,if_pos rfl]) (by rw[qaB,qal,if_pos rfl])
theorem tbl21:tbl 21=some ⟨rc21,[.cell 2 26]⟩:=by kernel_rfl
theorem qej(n:Int):F.QaO .u64 n=.ofNat (n % 18446744073709551616).toNat:=by
 rw[F.Qae]
 have h:0≤n % 18446744073709551616:=Int.emod_nonneg _ (by decide)
 show n % 18446744073709551616=_
 exact(Int.toNat_of_nonneg h).symm
theorem qei{n:Nat}(h:n<18446744073709551616):F.QaO .u64 (.negSucc n)=.ofNat (18446744073709551615 - n):=by
 rw[qej]
 have e:((Int.negSucc n) % 18446744073709551616).toNat=18446744073709551615 - n:=by omega
 rw[e]
theorem qlO{m:Nat}(h0:0<m)(h:m≤18446744073709551616):G.un .neg (.int .u64 (.ofNat m))=some (.int .u64 (.ofNat (18446744073709551616 - m))):=by
 show some (V.int .u64 (F.QaO .u64 (Int.sub 0 (.ofNat m))))=_
 rw[qej]
 have e:(Int.sub 0 (.ofNat m) % 18446744073709551616).toNat=18446744073709551616 - m:=by
  show((0 - (m:Int)) % 18446744073709551616).toNat=_
  omega
 rw[e]
theorem qj1(k:IntKind)(m n:Nat):G.int2 .lss k (.negSucc m) (.ofNat n)=some (.bool true):=rfl
theorem qgs{z:Int}(h1:-9223372036854775808≤z)(h2:z≤9223372036854775807):Gives 21 [.int .i64 z] fun r=>IsI 2 r z:=by
 refine qak tbl21 fun h Q hQ=>?_
 unfold rc21
 refine sR ?_
 have hab:z.natAbs≤9223372036854775808:=by omega
 have neg:G.int2 .lss .i64 z (.ofNat 0)=some (.bool (decide (z<0))):=by
  cases z with
  | ofNat n=>rw[qv0,decide_eq_false (Nat.not_lt_zero n),decide_eq_false (show ¬(Int.ofNat n<0) from Int.not_lt.2 (Int.natCast_nonneg n))]
  | negSucc n=>rw[qj1,decide_eq_true (Int.negSucc_lt_zero n)]
 refine qcS (fun s=>gt s.tm 3=.int .u64 (.ofNat (if z<0 then 18446744073709551616 - z.natAbs else z.natAbs))∧gt s.tm 0=.int .i64 z∧gt s.tm 2=.ptr (.loc 2 1) 0∧lg s.loc 2=(1,.cells false [.nils,.bool false])∧lg s.loc 15=(0,.gone)∧s.hp=⟨h.rows,none,h.mods⟩) ?_ (fun s ⟨a3,a0,a2,al,al5,ah⟩=>?_)
 ·cases z with
  | ofNat n =>
   have hn2:n≤9223372036854775807:=Int.ofNat_le.1 h2
   refine sEG ?_
   exact⟨by rw[if_neg (show ¬(Int.ofNat n<0) from Int.not_lt.2 (Int.natCast_nonneg n))];exact(by simp -implicitDefEqProofs (disch:=omega) only[go_sem,reduceIte,Nat.reduceEqDiff,Int.natAbs_natCast,show(Int.ofNat n).natAbs=n from rfl]),sSG,sS,sS,sS,rfl⟩
  | negSucc n =>
   refine qad (fun n k=>by simp -implicitDefEqProofs (disch:=omega) only[go_sem,reduceIte,Nat.reduceEqDiff,qae,List.getD_cons_zero,List.getD_cons_succ,qei];rfl) ?_
   exact⟨by rw[if_pos (by omega),show 18446744073709551616 - (Int.negSucc n).natAbs=18446744073709551615 - n by omega];exact sS,sSG,sS,sS,sS,rfl⟩
 refine qau (M:=fun s=>gt s.tm 3=.int .u64 (.ofNat z.natAbs)∧gt s.tm 0=.int .i64 z∧gt s.tm 2=.ptr (.loc 2 1) 0∧lg s.loc 2=(1,.cells false [.nils,.bool false])∧lg s.loc 15=(0,.gone)∧s.hp=⟨h.rows,none,h.mods⟩) ?_ (fun s2 ⟨b3,b0,b2,bl,bl5,bh⟩=>?_)
 ·refine qac (qad (fun n k=>by simp -implicitDefEqProofs (disch:=omega) only[go_sem,reduceIte,Nat.reduceEqDiff,a0,neg];rfl) ?_)
  refine qaU (by simp only[qal,reduceIte];rfl) (fun hz=>?_) (fun hz=>qag ?_)
  ·rw[if_pos hz]at a3
   refine qad (fun n k=>by simp -implicitDefEqProofs (disch:=omega) only[go_sem,reduceIte,Nat.reduceEqDiff,a3,qlO];rfl) ?_
   exact⟨(by simp -implicitDefEqProofs (disch:=omega) only[go_sem,reduceIte,Nat.reduceEqDiff,Nat.sub_sub_self]),(sS1 a0),(sS1 a2),(by simp -implicitDefEqProofs (disch:=omega) only[go_sem,reduceIte,Nat.reduceEqDiff,al]),(sS1 al5),ah⟩
  ·rw[if_neg hz]at a3
   exact⟨(sS1 a3),(sS1 a0),(sS1 a2),(by simp -implicitDefEqProofs (disch:=omega) only[go_sem,reduceIte,Nat.reduceEqDiff,al]),(sS1 al5),ah⟩
 ·have hq1:z.natAbs % 4294967296<4294967296:=Nat.mod_lt _ (by decide)
  have hq2:z.natAbs / 4294967296<4294967296:=by omega
  have hdg:Dg B [z.natAbs % 4294967296,z.natAbs / 4294967296]:=by
   intro x hx
   simp at hx
   rcases hx with rfl | rfl
   ·exact hq1
   ·exact hq2
  obtain⟨r,hr,d,hw,ht⟩:=qa3 (va:=.slice none false 1 (nl .u32 [z.natAbs % 4294967296,z.natAbs / 4294967296])) (a:=[z.natAbs % 4294967296,z.natAbs / 4294967296]) (.inl ⟨false,rfl⟩) hdg (by simp) (decide (z<0)) ⟨h.rows,none,h.mods⟩
  have hw0:=hw
  obtain⟨⟨x,rfl,hx⟩,_⟩:=hw
  refine qac (qaf (hr) (fun n hn k=>by simp -implicitDefEqProofs (disch:=omega) only[go_sem,reduceIte,Nat.reduceEqDiff,b0,b2,b3,bh,bl,bl5,neg,qbB,Nat.mod_eq_of_lt hq2,Nat.reducePow,qy6,qlu (loc:=lp s2.loc 15 (1,.cells false (nl .u32 [z.natAbs % 4294967296,z.natAbs / 4294967296]))) (l:=[z.natAbs % 4294967296,z.natAbs / 4294967296]) (d:=15) (g:=1) (k:=.u32) (f0:=false) (n:=2) rfl (by rw[qbr,if_pos rfl]) hn (Ex1.bool _),qah N26 1 x (.bool (decide (z<0) && !d.isEmpty)) .nils (.bool false) _ hx.pl.ok rfl];rfl) ?_)
  refine qai (hQ _ _ (qaW (x:=x) (y:=.bool (decide (z<0) && !d.isEmpty)) (f:=false) (d:=2) (g:=1) (by kernel_rfl) (sS1 b2) (by simp -implicitDefEqProofs (disch:=omega) only[go_sem,reduceIte,Nat.reduceEqDiff,bl]) hx.pl (Pl.bool _) rfl) ⟨d,_,hw0,?_,by have:=ht.len;simpa using this⟩)
  have e6:=ht.vl B
  have e7:vl B [z.natAbs % 4294967296,z.natAbs / 4294967296]=z.natAbs:=by
   show z.natAbs % 4294967296+4294967296*(z.natAbs / 4294967296+4294967296*0)=z.natAbs
   omega
  rw[e7]at e6
  unfold zv
  by_cases hz:z<0
  ·rw[decide_eq_true hz]
   cases d with
   | nil=>simp only[vl]at e6;omega
   | cons x0 l0=>simp only[List.isEmpty_cons,Bool.not_false,Bool.and_self,cond_true,e6];omega
  ·rw[decide_eq_false hz]
   simp only[Bool.false_and,cond_false,e6];omega
section
variable {P:Program}{C:Cfg}{call:Qad}{gl:Nat→Bool}{o:Oper}{t' tm:Tm}{loc:Lo}{hp:Hp}{j:V→Lo→Hp→R}
theorem qlh{d x y:Nat}{t:TypeId}{f0 f1:Field}{z0 z1 v w w':V}(hww:w.QbM=w')(hd:o.dst=some d)(ho:o.op=.build t #[(0,.tmp x),(1,.tmp y)])(hu:P.underlying t=some (.struct #[f0,f1]))(hz:zeroV P t=some (.agg [z0,z1]))
  (h0:f0.offset=0) (h1:f1.offset=1) (s0:QbG P f0.type=some 1) (s1:QbG P f1.type=some 1) (hxy:x≠y) (hv:Pl v) (hw:Pl w') :
  gen P C call gl o (pt (pt .lf x v) y w) tm loc hp j=j (.agg [v,w']) loc hp:=by
 have hx:gt (pt (pt .lf x v) y w) x=v:=by rw[qal,if_neg (Ne.symm hxy),qal,if_pos rfl]
 have hy:gt (pt (pt .lf x v) y w) y=w:=by rw[qal,if_pos rfl]
 refine qaL (v:=.agg [v,w']) (st:=⟨pt (pt .lf x v) y w,loc,hp⟩) hd ?_
 have i0:(P.info? f0.type).isSome=true:=by
  unfold QbG at s0
  cases h:P.info? f0.type with
  | none=>rw[h]at s0;simp at s0
  | some i=>rfl
 have i1:(P.info? f1.type).isSome=true:=by
  unfold QbG at s1
  cases h:P.info? f1.type with
  | none=>rw[h]at s1;simp at s1
  | some i=>rfl
 have e0:Qat P t 0=some f0:=by unfold Qat;rw[hu];rfl
 have e1:Qat P t 1=some f1:=by unfold Qat;rw[hu];rfl
 have hp1:Qal P C gl (⟨pt (pt .lf x v) y w,loc,hp⟩:St).ρ (⟨pt (pt .lf x v) y w,loc,hp⟩:St).lc o=some (.agg [v,w'],none):=by
  unfold Qal
  simp only[ho,Qam,hu,hz,V.live,Bool.true_and]
  have ea:(#[f0,f1]:Array Field).all (fun f=>(P.info? f.type).isSome)=true:=by simp[i0,i1]
  rw[ea]
  have c0:V.cells (.agg [z0,z1])=[z0,z1]:=rfl
  simp only[cond_true,Qbl,e0,e1,qaB,hx,hy,hv.weak,hww,hv.plain,hw.plain,hv.cells,hw.cells,s0,s1,h0,h1,Option.getD_some,List.length_cons,List.length_nil,c0]
  rfl
 unfold Qah
 rw[hp1];rfl
theorem qrg{d x y:Nat}{t:TypeId}{z0 z1 v w w':V}(hww:w.QbM=w')(hd:o.dst=some d)(ho:o.op=.build t #[(0,.tmp x),(1,.tmp y)])(h2:two P t=true)(hz:zeroV P t=some (.agg [z0,z1]))(hxy:x≠y)(hv:Pl v)(hw:Pl w') :
  gen P C call gl o (pt (pt .lf x v) y w) tm loc hp j=j (.agg [v,w']) loc hp:=by
 unfold two at h2
 split at h2
 ·rename_i fs hu
  split at h2
  ·rename_i f0 f1 hfs
   simp only[Bool.and_eq_true]at h2
   obtain⟨⟨a0,a1⟩,a2⟩:=h2
   have e:fs = #[f0,f1]:=by apply Array.toList_inj.1;rw[hfs]
   subst e
   split at a2
   ·rename_i a b h3 h4
    simp only[Bool.and_eq_true]at a2
    have b1:a=1:=Nat.eq_of_beq_eq_true a2.1
    have b2:b=1:=Nat.eq_of_beq_eq_true a2.2
    subst b1;subst b2
    exact qlh hww hd ho hu hz (Nat.eq_of_beq_eq_true a0) (Nat.eq_of_beq_eq_true a1) h3 h4 hxy hv hw
   ·simp at a2
  ·simp at h2
 ·simp at h2
end
theorem Tk.weak{loc:Lo}{d:Nat}{v:V}{k:IntKind}{l:List Nat}(h:Tk loc d v k l):∃ v',v.QbM=v'∧Sl k v' l:=by
 rcases h with ⟨rfl,rfl⟩ | ⟨_,g,rfl,_⟩
 ·exact⟨.nils,rfl,.inr ⟨rfl,rfl⟩⟩
 ·exact⟨.slice none false 1 (nl k l),rfl,.inl ⟨false,rfl⟩⟩
theorem qBR{v w w':V}(hww:w.QbM=w')(hv:Pl v)(hw:Pl w')(c:Qad)(t:Tm)(l:Lo)(h:Hp)(j:V→Lo→Hp→R):go2 Try.f22 22 9 2 23 24 v w c t l h j=j (.agg [v,w']) l h :=
 qrg (C:=Cg) (gl:=Cg.glob 22) (call:=c) (o:=opA Try.f22 9 2) hww (d:=25) (t:=31) (by kernel_rfl) (by kernel_rfl) (by kernel_rfl) (show zeroV Pg 31=some (.agg [(.bool false),.nils])by kernel_rfl) (by decide) hv hw
theorem tbl22:tbl 22=some ⟨rc22,[.cell 2 31]⟩:=by kernel_rfl
theorem qfU{z:Int}(h1:-9223372036854775808≤z)(h2:z≤9223372036854775807):Gives 22 [.int .i64 z] fun r=>IsR 5 r z:=by
 refine qak tbl22 fun h Q hQ=>?_
 unfold rc22
 refine sR ?_
 have hab:z.natAbs≤9223372036854775808:=by omega
 have neg:G.int2 .lss .i64 z (.ofNat 0)=some (.bool (decide (z<0))):=by
  cases z with
  | ofNat n=>rw[qv0,decide_eq_false (Nat.not_lt_zero n),decide_eq_false (show ¬(Int.ofNat n<0) from Int.not_lt.2 (Int.natCast_nonneg n))]
  | negSucc n=>rw[qj1,decide_eq_true (Int.negSucc_lt_zero n)]
 refine qac (qad (fun n k=>by simp -implicitDefEqProofs (disch:=omega) only[go_sem,reduceIte,Nat.reduceEqDiff,qae,List.getD_cons_zero,List.getD_cons_succ,neg];rfl) ?_)
 refine qcS (fun s=>gt s.tm 4=.int .u64 (.ofNat (if z<0 then 18446744073709551616 - z.natAbs else z.natAbs))∧gt s.tm 3=.bool (decide (z<0))∧gt s.tm 2=.ptr (.loc 2 1) 0∧lg s.loc 2=(1,.cells false [.bool false,.nils])∧s.hp=⟨h.rows,none,h.mods⟩) ?_ (fun s ⟨a4,a3,a2,al,ah⟩=>?_)
 ·cases z with
  | ofNat n =>
   have hn2:n≤9223372036854775807:=Int.ofNat_le.1 h2
   refine sEG ?_
   exact⟨by rw[if_neg (show ¬(Int.ofNat n<0) from Int.not_lt.2 (Int.natCast_nonneg n))];exact(by simp -implicitDefEqProofs (disch:=omega) only[go_sem,reduceIte,Nat.reduceEqDiff,show(Int.ofNat n).natAbs=n from rfl]),sS,sS,sS,rfl⟩
  | negSucc n =>
   refine qad (fun n k=>by simp -implicitDefEqProofs (disch:=omega) only[go_sem,reduceIte,Nat.reduceEqDiff,qae,List.getD_cons_zero,List.getD_cons_succ,qei];rfl) ?_
   exact⟨by rw[if_pos (by omega),show 18446744073709551616 - (Int.negSucc n).natAbs=18446744073709551615 - n by omega];exact sS,sS,sS,sS,rfl⟩
 refine qau (M:=fun s=>gt s.tm 4=.int .u64 (.ofNat z.natAbs)∧gt s.tm 3=.bool (decide (z<0))∧gt s.tm 2=.ptr (.loc 2 1) 0∧lg s.loc 2=(1,.cells false [.bool false,.nils])∧s.hp=⟨h.rows,none,h.mods⟩) ?_ (fun s2 ⟨b4,b3,b2,bl,bh⟩=>?_)
 ·refine sR1 a3 ?_
  refine qaU (by simp only[qal,reduceIte];rfl) (fun hz=>?_) (fun hz=>qag ?_)
  ·rw[if_pos hz]at a4
   refine qad (fun n k=>by simp -implicitDefEqProofs (disch:=omega) only[go_sem,reduceIte,Nat.reduceEqDiff,a4,qlO];rfl) ?_
   exact⟨(by simp -implicitDefEqProofs (disch:=omega) only[go_sem,reduceIte,Nat.reduceEqDiff,Nat.sub_sub_self]),(sS1 a3),(sS1 a2),(by simp -implicitDefEqProofs (disch:=omega) only[go_sem,reduceIte,Nat.reduceEqDiff,al]),ah⟩
  ·rw[if_neg hz]at a4
   exact⟨(sS1 a4),(sS1 a3),(sS1 a2),(by simp -implicitDefEqProofs (disch:=omega) only[go_sem,reduceIte,Nat.reduceEqDiff,al]),ah⟩
 refine sR ?_
 refine qau (M:=fun s=>∃ v5 out,gt s.tm 5=v5∧Tk s.loc 20 v5 .i64 out∧Dg 10000 out∧Cn out∧vl 10000 out=z.natAbs∧out.length≤5∧gt s.tm 3=.bool (decide (z<0))∧gt s.tm 2=.ptr (.loc 2 1) 0∧lg s.loc 2=(1,.cells false [.bool false,.nils])∧s.hp=⟨h.rows,none,h.mods⟩) ?_ (fun s3 ⟨v5,out,c5,ctk,cdg,ccn,cvl,clen,c3,c2,cl2,ch⟩=>?_)
 ·refine qaP (fun m s=>∃ v5 out,gt s.tm 4=.int .u64 (.ofNat m)∧gt s.tm 5=v5∧Tk s.loc 20 v5 .i64 out∧Dg 10000 out∧(m=0→Cn out)∧vl 10000 out+10000 ^ out.length*m=z.natAbs∧out.length≤5∧gt s.tm 3=.bool (decide (z<0))∧gt s.tm 2=.ptr (.loc 2 1) 0∧lg s.loc 2=(1,.cells false [.bool false,.nils])∧s.hp=⟨h.rows,none,h.mods⟩) z.natAbs ⟨.nils,[],(sS1 b4),sS,.inl ⟨rfl,rfl⟩,Dg.nil _,fun _ i hi=>by simp at hi,by simp[vl],by simp,(sS1 b3),(sS1 b2),(by simp -implicitDefEqProofs (disch:=omega) only[go_sem,reduceIte,Nat.reduceEqDiff,bl]),bh⟩ ?_
  intro m s ⟨v5,out,c4,c5,ctk,cdg,ccn,cvl,clen,c3,c2,cl2,ch⟩
  have hm64:m<18446744073709551616:=by
   have:m≤10000 ^ out.length*m:=Nat.le_mul_of_pos_left m (Nat.pow_pos (by decide))
   omega
  refine sQ1 c4 ?_
  refine qaU (by simp only[qal,reduceIte];rfl) (fun hm0=>qag ?_) (fun hm0=>qax ?_)
  ·have hlt:out.length<5:=by
    have e1:=Nat.le_mul_of_pos_right (10000 ^ out.length) hm0
    have e2:(10000:Nat) ^ 5=100000000000000000000:=by decide
    exact qdI (c:=10000) (by decide) (by omega)
   have hd:m % 10000<10000:=Nat.mod_lt _ (by decide)
   refine qaq ?_
   obtain⟨v6,l6,happ,htk6,hfr6⟩:=qwW [m % 10000] none true ctk (by simp) (by simp;omega)
   refine qac (qad (fun n k=>by simp -implicitDefEqProofs (disch:=omega) only[go_sem,reduceIte,Nat.reduceEqDiff,c4,c5,qwL,happ];rfl) ?_)
   refine sE1 c4 ?_
   refine⟨m / 10000,Nat.div_lt_self hm0 (by decide),v6,out++[m % 10000],sS,sS,htk6,cdg.snoc hd,?_,?_,by simp;omega,(sS1 c3),(sS1 c2),by rw[hfr6 2 (by decide)];exact cl2,ch⟩
   ·intro e i hi
    have:i=(out++[m % 10000]).length - 1:=by omega
    rw[this,qd5]
    omega
   ·rw[qaZ,qdd,List.length_append,List.length_singleton,Nat.pow_succ,←cvl,Nat.mul_assoc,Nat.add_assoc,←Nat.mul_add,Nat.mod_add_div]
  ·rw[if_pos rfl]
   have em:m=0:=by omega
   subst em
   exact⟨v5,out,(sS1 c5),ctk,cdg,ccn rfl,by simpa using cvl,clen,(sS1 c3),(sS1 c2),cl2,ch⟩
 ·obtain⟨v6,hwk,hsl⟩:=ctk.weak
  refine qac (qad (fun n k=>by simp -implicitDefEqProofs (disch:=omega) only[go_sem,reduceIte,Nat.reduceEqDiff,c2,c3,c5,cl2,qBR hwk (Pl.bool (decide (z<0))) hsl.pl,qah N31 1 (.bool (decide (z<0))) v6 (.bool false) .nils _ rfl hsl.pl.ok];rfl) ?_)
  refine qai (hQ _ _ (qaW (x:=.bool (decide (z<0))) (y:=v6) (f:=false) (d:=2) (g:=1) (by kernel_rfl) (sS1 c2) sS (Pl.bool _) hsl.pl (by rw[ch])) ⟨out,decide (z<0),⟨⟨v6,rfl,hsl⟩,cdg,ccn,fun e=>?_⟩,?_,clen⟩)
  ·subst e
   simp only[vl]at cvl
   exact decide_eq_false (by omega)
  ·unfold zr
   rw[cvl]
   by_cases hz:z<0
   ·rw[decide_eq_true hz];simp only[cond_true];omega
   ·rw[decide_eq_false hz];simp only[cond_false];omega
theorem tbl74:tbl 74=some ⟨rc74,[.tmp 4]⟩:=by kernel_rfl
theorem tbl76:tbl 76=some ⟨rc76,[.tmp 4]⟩:=by kernel_rfl
theorem tbl75:tbl 75=some ⟨rc75,[.tmp 4]⟩:=by kernel_rfl
theorem qmv{D:Nat}{out:List Nat}{i n x y d c p q:Nat}(hl:out.length=i)(hv:vl D out+D ^ i*n=p+q)(he:n+x+y=d+D*c):vl D (out++[d])+D ^ (i+1)*c=(p+D ^ i*x)+(q+D ^ i*y):=by
 rw[qaZ,qdd,hl,Nat.pow_succ,Nat.mul_assoc]
 have h1:D ^ i*(n+x+y)=D ^ i*(d+D*c):=by rw[he]
 simp only[Nat.mul_add]at h1
 omega
theorem qmw{va vb:V}{a b:List Nat}(ha:Sl .i64 va a)(hb:Sl .i64 vb b)(da:Dg 10000 a)(db:Dg 10000 b)(la:a.length≤1000000)(lb:b.length≤1000000) :
  Gives 74 [va,vb] fun r=>∃ c,Sl .i64 r c∧Dg 10000 c∧vl 10000 c=vl 10000 a+vl 10000 b∧c.length≤max a.length b.length+1:=by
 refine qak tbl74 fun h Q hQ=>?_
 unfold rc74
 refine sR ?_
 refine sR ?_
 refine sR ?_
 refine qau (M:=fun s=>∃ out,Tk s.loc 48 (gt s.tm 5) .i64 out∧Dg 10000 out∧vl 10000 out=vl 10000 a+vl 10000 b∧out.length≤max a.length b.length+1∧s.hp=⟨h.rows,none,h.mods⟩) ?_ (fun s ⟨out,htk,hdg,hv,hlen,hhp⟩=>?_)
 ·refine sR ?_
  refine qaP (fun m s=>∃ i n out,m+i=max a.length b.length+1∧gt s.tm 0=va∧gt s.tm 1=vb∧gt s.tm 7=.int .i64 (.ofNat i)∧gt s.tm 6=.int .i64 (.ofNat n)∧Tk s.loc 48 (gt s.tm 5) .i64 out∧out.length=i∧Dg 10000 out∧n≤1∧(i≤max a.length b.length∨n=0)∧vl 10000 out+10000 ^ i*n=vl 10000 (a.take i)+vl 10000 (b.take i)∧s.hp=⟨h.rows,none,h.mods⟩) (max a.length b.length+1) ⟨0,0,[],rfl,sSG,sSG,sS,sS,.inl ⟨rfl,sS⟩,rfl,Dg.nil _,by decide,.inl (Nat.zero_le _),by simp[vl],rfl⟩ ?_
  intro m s ⟨i,n,out,hm,h0,h1,h7,h6,htk,hlen,hdg,hn1,hin,hv,hhp⟩
  refine qac (qau (M:=fun s'=>gt s'.tm 21=.bool (decide (i<a.length∨i<b.length∨0<n))∧Kp [0,1,5,6,7] s.tm s'.tm∧s'.loc=s.loc∧s'.hp=s.hp) ?_ (fun s' ⟨k21,kk,kl,kh⟩=>?_))
  ·by_cases c1:i<a.length
   ·refine qad (fun n k=>by simp -implicitDefEqProofs (disch:=omega) only[go_sem,reduceIte,Nat.reduceEqDiff,h0,h7,qam ha,decide_eq_true c1];rfl) ?_
    exact⟨by rw[decide_eq_true (.inl c1)];exact sS,(by(try dsimp only);repeat (first | with_reducible exact qaH _ _ | with_reducible refine qbh (by decide) ?_)),rfl,rfl⟩
   ·by_cases c2:i<b.length
    ·refine qad (fun n k=>by simp -implicitDefEqProofs (disch:=omega) only[go_sem,reduceIte,Nat.reduceEqDiff,h0,h1,h7,qam ha,qam hb,decide_eq_false c1,decide_eq_true c2];rfl) ?_
     exact⟨by rw[decide_eq_true (.inr (.inl c2))];exact sS,(by(try dsimp only);repeat (first | with_reducible exact qaH _ _ | with_reducible refine qbh (by decide) ?_)),rfl,rfl⟩
    ·refine qad (fun n k=>by simp -implicitDefEqProofs (disch:=omega) only[go_sem,reduceIte,Nat.reduceEqDiff,h0,h1,h6,h7,qam ha,qam hb,decide_eq_false c1,decide_eq_false c2];rfl) ?_
     exact⟨by rw[show decide (i<a.length∨i<b.length∨0<n)=decide (0<n)by congr 1;apply propext;omega];exact sS,(by(try dsimp only);repeat (first | with_reducible exact qaH _ _ | with_reducible refine qbh (by decide) ?_)),rfl,rfl⟩
  ·have k0:=(kk 0 (by decide)).trans h0;have k1:=(kk 1 (by decide)).trans h1;have k6:=(kk 6 (by decide)).trans h6;have k7:=(kk 7 (by decide)).trans h7;have k5:=kk 5 (by decide)
   refine qaU k21 (fun hc=>qag ?_) (fun hc=>qax ?_)
   ·have hx:a.getD i 0<10000:=da.get (by decide) i
    have hy:b.getD i 0<10000:=db.get (by decide) i
    obtain⟨v5,l5,happ,htk5,hfr⟩:=qsR [(n+a.getD i 0+b.getD i 0) % 10000] none true htk (by simp) (by simp;omega)
    refine qac (qaq ?_)
    refine qau (M:=fun s1=>gt s1.tm 6=.int .i64 (.ofNat (n+a.getD i 0))∧Kp [0,1,5,7] s'.tm s1.tm∧s1.loc=s.loc∧s1.hp=s.hp) ?_ (fun s1 ⟨a6,ak,al,ah⟩=>?_)
    ·refine qac (qad (fun n k=>by simp -implicitDefEqProofs (disch:=omega) only[go_sem,reduceIte,Nat.reduceEqDiff,k0,k7,qam ha];rfl) ?_)
     refine qaU (by simp only[qal,reduceIte];rfl) (fun hia=>?_) (fun hia=>qag ?_)
     ·refine qad (fun n k=>by simp -implicitDefEqProofs (disch:=omega) only[go_sem,reduceIte,Nat.reduceEqDiff,k0,k6,k7,qk9 ha];rfl) ?_
      exact⟨sS,(by(try dsimp only);repeat (first | with_reducible exact qaH _ _ | with_reducible refine qbh (by decide) ?_)),kl,kh⟩
     ·exact⟨(by simp -implicitDefEqProofs (disch:=omega) only[go_sem,reduceIte,Nat.reduceEqDiff,k6,qbR hia,Nat.add_zero]),(by(try dsimp only);repeat (first | with_reducible exact qaH _ _ | with_reducible refine qbh (by decide) ?_)),kl,kh⟩
    have a1:=(ak 1 (by decide)).trans k1;have a7:=(ak 7 (by decide)).trans k7;have a5:=(ak 5 (by decide)).trans k5
    refine qau (M:=fun s2=>gt s2.tm 6=.int .i64 (.ofNat (n+a.getD i 0+b.getD i 0))∧Kp [0,1,5,7] s1.tm s2.tm∧s2.loc=s.loc∧s2.hp=s.hp) ?_ (fun s2 ⟨b6,bk,bl,bh⟩=>?_)
    ·refine qac (qad (fun n k=>by simp -implicitDefEqProofs (disch:=omega) only[go_sem,reduceIte,Nat.reduceEqDiff,a1,a7,qam hb];rfl) ?_)
     refine qaU (by simp only[qal,reduceIte];rfl) (fun hia=>?_) (fun hia=>qag ?_)
     ·refine qad (fun n k=>by simp -implicitDefEqProofs (disch:=omega) only[go_sem,reduceIte,Nat.reduceEqDiff,a1,a6,a7,qk9 hb];rfl) ?_
      exact⟨sS,(by(try dsimp only);repeat (first | with_reducible exact qaH _ _ | with_reducible refine qbh (by decide) ?_)),al,ah⟩
     ·exact⟨(by simp -implicitDefEqProofs (disch:=omega) only[go_sem,reduceIte,Nat.reduceEqDiff,a6,qbR hia,Nat.add_zero]),(by(try dsimp only);repeat (first | with_reducible exact qaH _ _ | with_reducible refine qbh (by decide) ?_)),al,ah⟩
    have b5:=(bk 5 (by decide)).trans a5;have b7:=(bk 7 (by decide)).trans a7
    refine qac (qad (fun n k=>by simp -implicitDefEqProofs (disch:=omega) only[go_sem,reduceIte,Nat.reduceEqDiff,b6,b5,bl,qwL,happ];rfl) ?_)
    refine sE1 b6 ?_
    refine sE1 b7 ?_
    refine⟨m - 1,by omega,i+1,(n+a.getD i 0+b.getD i 0) / 10000,out++[(n+a.getD i 0+b.getD i 0) % 10000],by omega,(by simp -implicitDefEqProofs (disch:=omega) only[go_sem,reduceIte,Nat.reduceEqDiff,bk 0 (by decide),ak 0 (by decide),k0]),(by simp -implicitDefEqProofs (disch:=omega) only[go_sem,reduceIte,Nat.reduceEqDiff,bk 1 (by decide),a1]),sS,sS,?_,by simp[hlen],hdg.snoc (Nat.mod_lt _ (by decide)),by omega,?_,?_,bh.trans hhp⟩
    ·have e:∀ x y,gt (pt (pt (pt s2.tm 5 v5) 6 x) 7 y) 5=v5:=fun x y=>sS
     rw[e];exact htk5
    ·rcases Nat.lt_or_ge i (max a.length b.length)with q | q
     ·exact .inl q
     ·right
      rw[qbR (by omega),qbR (by omega)]
      omega
    ·rw[qaA,qaA]
     exact qmv hlen hv (by omega)
   ·rw[if_pos rfl]
    refine⟨out,by rw[kl,k5];exact htk,hdg,?_,by omega,kh.trans hhp⟩
    have en:n=0:=by omega
    subst en
    rw[List.take_of_length_le (by omega),List.take_of_length_le (by omega)]at hv
    simpa using hv
 ·obtain⟨v',hsl,hex⟩:=htk.out
  refine sR ?_
  exact qai (hQ _ _ (qaX (v:=gt s.tm 5) sS (hex _) (by rw[hhp]) hsl.Qao) ⟨out,hsl,hdg,hv,hlen⟩)
end Go.AM.S
end
