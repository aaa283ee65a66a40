/- Part 4 of the proof: what it says stands at its theorems. -/
import Derived.Test.YtooliddjiiilfaaRlA3
import Derived.KernelRfl
set_option linter.unusedVariables false
set_option linter.unusedSimpArgs false
set_option linter.unusedSectionVars false
section
namespace Go.AM.S
open Go Go.AM Go.Proofs
open _root_.Go.AM.G (R)
set_option maxRecDepth 100000
set_option linter.defProp false
noncomputable section
def go1 (F:Func) (f id i x:Nat) (v:V) (c:CallF) (t:Tm) (l:Lo) (h:Hp) (j:V→Lo→Hp→R):R:=gn F f id i c (pt .lf x v) t l h j
def go2 (F:Func) (f id i x y:Nat) (v w:V) (c:CallF) (t:Tm) (l:Lo) (h:Hp) (j:V→Lo→Hp→R):R:=gn F f id i c (pt (pt .lf x v) y w) t l h j
theorem gn_go1 {F:Func} {f id i x:Nat} {c:CallF} {t' t:Tm} {l:Lo} {h:Hp} {j:V→Lo→Hp→R} (ht:tmpsOf (opA F id i)=[x]):gn F f id i c t' t l h j=go1 F f id i x (gt t' x) c t l h j :=
 gen_slots (fun y hy=>by rw [ht] at hy;rw [List.mem_singleton.1 hy,gt_pt,if_pos rfl])
theorem gn_go1' {F:Func} {f id i x:Nat} {c:CallF} {t' t:Tm} {l:Lo} {h:Hp} {j:V→Lo→Hp→R} (ht:tmpsOf (opA F id i)=[x,x]):gn F f id i c t' t l h j=go1 F f id i x (gt t' x) c t l h j :=
 gen_slots (fun y hy=>by
  rw [ht] at hy
  have:y=x:=by simpa using hy
  rw [this,gt_pt,if_pos rfl])
theorem gn_go2 {F:Func} {f id i x y:Nat} {c:CallF} {t' t:Tm} {l:Lo} {h:Hp} {j:V→Lo→Hp→R} (ht:tmpsOf (opA F id i)=[x,y]) (hxy:x≠y):gn F f id i c t' t l h j=go2 F f id i x y (gt t' x) (gt t' y) c t l h j :=
 gen_slots (fun q hq=>by
  rw [ht] at hq
  rcases List.mem_cons.1 hq with rfl | hq
  ·rw [gt_pt,if_neg (Ne.symm hxy),gt_pt,if_pos rfl]
  ·rw [List.mem_singleton.1 hq,gt_pt,if_pos rfl])
abbrev M1 (F:Func) (f i k x:Nat):Prop:=∀ (c:CallF) (t' t:Tm) (l:Lo) (h:Hp) (j:V→Lo→Hp→R),gn F f i k c t' t l h j=go1 F f i k x (gt t' x) c t l h j
theorem mk1 {F:Func} {f i k x:Nat} (ht:tmpsOf (opA F i k)=[x]):M1 F f i k x:=fun _ _ _ _ _ _=>gn_go1 ht
theorem mk1d {F:Func} {f i k x:Nat} (ht:tmpsOf (opA F i k)=[x,x]):M1 F f i k x:=fun _ _ _ _ _ _=>gn_go1' ht
abbrev M2 (F:Func) (f i k x y:Nat):Prop:=∀ (c:CallF) (t' t:Tm) (l:Lo) (h:Hp) (j:V→Lo→Hp→R),gn F f i k c t' t l h j=go2 F f i k x y (gt t' x) (gt t' y) c t l h j
theorem mk2 {F:Func} {f i k x y:Nat} (ht:tmpsOf (opA F i k)=[x,y]) (hxy:x≠y):M2 F f i k x y:=fun _ _ _ _ _ _=>gn_go2 ht hxy
abbrev NC (F:Func) (f i k:Nat) (kd:IntKind) (x:Nat):Prop:=∀ (c:CallF) (t' t:Tm) (l:Lo) (h:Hp) (j:V→Lo→Hp→R),gn F f i k c t' t l h j=cvt kd (gt t' x) (fun v=>j v l h)
theorem mkC {F:Func} {f i k d x:Nat} {s t:TypeId} {ks kd:IntKind} (hd:(opA F i k).dst=some d) (ho:(opA F i k).op=.convert s t (.tmp x)) (h1:Pg.underlying s=some (.int ks)) (h2:Pg.underlying t=some (.int kd)):NC F f i k kd x:=fun _ _ _ _ _ _=>gen_convert' hd ho h1 h2
abbrev NB (F:Func) (f i k d x:Nat):Prop:=∀ (c:CallF) (t' t:Tm) (l:Lo) (h:Hp) (j:V→Lo→Hp→R),gn F f i k c t' t l h j=bx d (gt t' x) l (fun v l=>j v l h)
theorem mkB {F:Func} {f i k d x:Nat} {t:TypeId} (hd:(opA F i k).dst=some d) (ho:(opA F i k).op=.box t (.tmp x)) (ha:Cg.isArr t=false) (hg:Cg.glob f d=false):NB F f i k d x:=fun _ _ _ _ _ _=>gen_box' hd ho ha hg
abbrev PE (p:Tm→V→Tm) (i:Nat):Prop:=∀ (t:Tm) (v:V),p t v=pt t i v
abbrev GE (g:Tm→V) (i:Nat):Prop:=∀ t:Tm,g t=gt t i
abbrev DS (F:Func) (f i k a x ty:Nat):Prop:=∀ (s g off:Nat) (v:V) (c:CallF) (t:Tm) (l:Lo) (h:Hp) (J:JD) (X:XD),gD F f i k c (pt (pt t a (.ptr (.loc s g) off)) x v) l h J X=stc Pg ty g off v (lg l s) (fun row=>J (.tuple []) ⟨[s],[s],false,false,false,false⟩ (lp l s row) h)
theorem mkS {F:Func} {f i k a x ty:Nat} (ho:(opA F i k).op=.store ty (.tmp a) (.tmp x)) (hd:(opA F i k).dst=none) (hax:x≠a):DS F f i k a x ty:=fun s g off v c t l h J X=>by
 have h1:gt (pt (pt t a (.ptr (.loc s g) off)) x v) a=.ptr (.loc s g) off:=by rw [gt_pt,if_neg hax,gt_pt,if_pos rfl]
 have h2:gt (pt (pt t a (.ptr (.loc s g) off)) x v) x=v:=by rw [gt_pt,if_pos rfl]
 have h3:=genD_store (C:=Cg) (P:=Pg) (gl:=Cg.glob f) (call:=c) (loc:=l) (hp:=h) (J:=J) (X:=X) ho hd h1
 rw [h2] at h3
 exact h3
abbrev QO (F:Func) (f i k x d:Nat):Prop:=∀ (c:CallF) (t:Tm) (l:Lo) (h:Hp) (j:V→Lo→Hp→R) (q:IntKind) (n:Nat),go1 F f i k x (.int q (.ofNat n)) c t l h j=j (.arr (.loc d ((lg l d).1+1)) 0 1 (some 1) 1 false) (lp l d ((lg l d).1+1,.cells false (nl q [n]))) h
theorem mkO {F:Func} {f i k x d:Nat} {t e:TypeId} {k0:IntKind} {n0:Int} (hd:(opA F i k).dst=some d) (ho:(opA F i k).op=.buildSlice t 1 #[(0,.tmp x)]) (ha:Cg.isArr t=true) (hg:Cg.glob f d=false) (he:elemT Pg t=some e) (hl:layE Pg e=some (1,false)) (hz:zeroV Pg e=some (.int k0 n0)):QO F f i k x d :=
 fun c tm l h j q n=>gen_one1 (C:=Cg) (gl:=Cg.glob f) (call:=c) (tm:=tm) (loc:=l) (hp:=h) (j:=j) (t':=pt .lf x (.int q (.ofNat n))) (k:=q) (n:=n) (x:=.tmp x) hd ho ha hg he hl hz (by rw [opd_gt,gt_pt,if_pos rfl])
abbrev AP (F:Func) (f i k x y d:Nat):Prop:=∀ {loc:Lo} {q:IntKind} {l:List Nat} {v:V} (n:Nat) (hv:Ar loc d v q l) (hn:l.length≤1000000000),∃ v' loc',(∀ (c:CallF) (tm:Tm) (hp:Hp) (j:V→Lo→Hp→R),go2 F f i k x y v (.arr (.loc y ((lg loc y).1+1)) 0 1 (some 1) 1 false) c tm (lp loc y ((lg loc y).1+1,.cells false (nl q [n]))) hp j=j v' loc' hp)∧Ar loc' d v' q (l++[n])∧∀ i,i≠d→i≠y→lg loc' i=lg loc i
theorem mkP {F:Func} {f i k x y d:Nat} {t e b:Nat} (hi:ApI Pg (opA F i k) d x y t) (hA:Cg.isArr t=true) (hg:Cg.glob f d=false) (he:elemT Pg t=some e) (hl:layE Pg e=some (1,false)) (hb:byteE Pg e=some b) (hxy:x≠y) (hyd:y≠d) (hb8:b≤8):AP F f i k x y d:=fun {loc q l v} n hv hn=>gen_push hi hA hg he hl hb hxy hyd n hv (by have:=Nat.mul_le_mul_left (l.length+1) hb8;omega)
abbrev APT (F:Func) (f i k x y d:Nat):Prop:=∀ {loc:Lo} {q:IntKind} {l:List Nat} {v:V} (ys:List Nat) (tk:Option Ref) (fu:Bool) (hv:Tk loc d v q l) (hy:ys≠[]) (hn:l.length+ys.length≤1000000000),∃ v' loc',(∀ (c:CallF) (tm:Tm) (hp:Hp) (j:V→Lo→Hp→R),go2 F f i k x y v (.slice tk fu 1 (nl q ys)) c tm loc hp j=j v' loc' hp)∧Tk loc' d v' q (l++ys)∧∀ i,i≠d→lg loc' i=lg loc i
theorem mkPT {F:Func} {f i k x y d:Nat} {t e b:Nat} (hi:ApI Pg (opA F i k) d x y t) (hA:Cg.isArr t=false) (hg:Cg.glob f d=false) (he:elemT Pg t=some e) (hl:layE Pg e=some (1,false)) (hb:byteE Pg e=some b) (hxy:x≠y) (hb8:b≤8):APT F f i k x y d:=fun {loc q l v} ys tk fu hv hy hn=>gen_pushT hi hA hg he hl hb hxy hv hy (by have:=Nat.mul_le_mul_left (l.length+ys.length) hb8;omega)
theorem sto_loc (t s g off:Nat) (x:V) (loc:Lo) (hp:Hp) (j:V→Lo→Hp→R) (slow:R):sto t (.ptr (.loc s g) off) x loc hp j slow=stL Pg t s g off x loc (fun loc=>j (.tuple []) loc hp):=rfl
theorem sto_glob (t r off:Nat) (x:V) (loc:Lo) (hp:Hp) (j:V→Lo→Hp→R) (slow:R):sto t (.ptr (.glob r) off) x loc hp j slow=slow:=rfl
theorem jE_eq (c:List (Nat × V)) (f:List (Nat × V)→R):jE c f=f c:=rfl
theorem jF_eq (c:List Foot) (f:List Foot→R):jF c f=f c:=rfl
theorem I_eq (n:Nat):I n=.int .i64 (.ofNat n):=rfl
end
attribute [go_sem] sto_loc sto_glob I_eq jE_eq jF_eq
theorem g0_:GE g0 0:=fun _=>rfl
theorem g1_:GE g1 1:=fun _=>rfl
theorem g2_:GE g2 2:=fun _=>rfl
theorem g3_:GE g3 3:=fun _=>rfl
theorem g4_:GE g4 4:=fun _=>rfl
theorem g5_:GE g5 5:=fun _=>rfl
theorem g6_:GE g6 6:=fun _=>rfl
theorem g7_:GE g7 7:=fun _=>rfl
theorem g8_:GE g8 8:=fun _=>rfl
theorem g9_:GE g9 9:=fun _=>rfl
theorem g10_:GE g10 10:=fun _=>rfl
theorem g11_:GE g11 11:=fun _=>rfl
theorem g12_:GE g12 12:=fun _=>rfl
theorem g13_:GE g13 13:=fun _=>rfl
theorem g14_:GE g14 14:=fun _=>rfl
theorem g15_:GE g15 15:=fun _=>rfl
theorem g17_:GE g17 17:=fun _=>rfl
theorem g19_:GE g19 19:=fun _=>rfl
theorem g20_:GE g20 20:=fun _=>rfl
theorem g21_:GE g21 21:=fun _=>rfl
theorem g22_:GE g22 22:=fun _=>rfl
theorem g28_:GE g28 28:=fun _=>rfl
theorem g29_:GE g29 29:=fun _=>rfl
theorem g30_:GE g30 30:=fun _=>rfl
theorem g41_:GE g41 41:=fun _=>rfl
theorem g42_:GE g42 42:=fun _=>rfl
theorem g70_:GE g70 70:=fun _=>rfl
theorem g71_:GE g71 71:=fun _=>rfl
theorem p0_:PE p0 0:=fun _ _=>rfl
theorem p1_:PE p1 1:=fun _ _=>rfl
theorem p2_:PE p2 2:=fun _ _=>rfl
theorem p3_:PE p3 3:=fun _ _=>rfl
theorem p4_:PE p4 4:=fun _ _=>rfl
theorem p5_:PE p5 5:=fun _ _=>rfl
theorem p6_:PE p6 6:=fun _ _=>rfl
theorem p7_:PE p7 7:=fun _ _=>rfl
theorem p8_:PE p8 8:=fun _ _=>rfl
theorem p9_:PE p9 9:=fun _ _=>rfl
theorem p10_:PE p10 10:=fun _ _=>rfl
theorem p11_:PE p11 11:=fun _ _=>rfl
theorem p12_:PE p12 12:=fun _ _=>rfl
theorem p13_:PE p13 13:=fun _ _=>rfl
theorem p14_:PE p14 14:=fun _ _=>rfl
theorem p15_:PE p15 15:=fun _ _=>rfl
theorem p16_:PE p16 16:=fun _ _=>rfl
theorem p17_:PE p17 17:=fun _ _=>rfl
theorem p18_:PE p18 18:=fun _ _=>rfl
theorem p19_:PE p19 19:=fun _ _=>rfl
theorem p20_:PE p20 20:=fun _ _=>rfl
theorem p21_:PE p21 21:=fun _ _=>rfl
theorem p22_:PE p22 22:=fun _ _=>rfl
theorem p23_:PE p23 23:=fun _ _=>rfl
theorem p24_:PE p24 24:=fun _ _=>rfl
theorem p25_:PE p25 25:=fun _ _=>rfl
theorem p26_:PE p26 26:=fun _ _=>rfl
theorem p27_:PE p27 27:=fun _ _=>rfl
theorem p28_:PE p28 28:=fun _ _=>rfl
theorem p29_:PE p29 29:=fun _ _=>rfl
theorem p30_:PE p30 30:=fun _ _=>rfl
theorem p31_:PE p31 31:=fun _ _=>rfl
theorem p32_:PE p32 32:=fun _ _=>rfl
theorem p33_:PE p33 33:=fun _ _=>rfl
theorem p34_:PE p34 34:=fun _ _=>rfl
theorem p35_:PE p35 35:=fun _ _=>rfl
theorem p36_:PE p36 36:=fun _ _=>rfl
theorem p37_:PE p37 37:=fun _ _=>rfl
theorem p38_:PE p38 38:=fun _ _=>rfl
theorem p39_:PE p39 39:=fun _ _=>rfl
theorem p40_:PE p40 40:=fun _ _=>rfl
theorem p41_:PE p41 41:=fun _ _=>rfl
theorem p42_:PE p42 42:=fun _ _=>rfl
theorem p43_:PE p43 43:=fun _ _=>rfl
theorem p44_:PE p44 44:=fun _ _=>rfl
theorem p45_:PE p45 45:=fun _ _=>rfl
theorem p46_:PE p46 46:=fun _ _=>rfl
theorem p47_:PE p47 47:=fun _ _=>rfl
theorem p48_:PE p48 48:=fun _ _=>rfl
theorem p49_:PE p49 49:=fun _ _=>rfl
theorem p50_:PE p50 50:=fun _ _=>rfl
theorem p51_:PE p51 51:=fun _ _=>rfl
theorem p52_:PE p52 52:=fun _ _=>rfl
theorem p54_:PE p54 54:=fun _ _=>rfl
theorem p55_:PE p55 55:=fun _ _=>rfl
theorem p56_:PE p56 56:=fun _ _=>rfl
theorem p57_:PE p57 57:=fun _ _=>rfl
theorem p59_:PE p59 59:=fun _ _=>rfl
theorem p60_:PE p60 60:=fun _ _=>rfl
theorem p63_:PE p63 63:=fun _ _=>rfl
theorem p64_:PE p64 64:=fun _ _=>rfl
theorem p65_:PE p65 65:=fun _ _=>rfl
theorem p66_:PE p66 66:=fun _ _=>rfl
theorem p67_:PE p67 67:=fun _ _=>rfl
theorem p68_:PE p68 68:=fun _ _=>rfl
theorem p69_:PE p69 69:=fun _ _=>rfl
theorem p70_:PE p70 70:=fun _ _=>rfl
theorem p71_:PE p71 71:=fun _ _=>rfl
theorem p72_:PE p72 72:=fun _ _=>rfl
theorem p76_:PE p76 76:=fun _ _=>rfl
theorem p77_:PE p77 77:=fun _ _=>rfl
theorem p82_:PE p82 82:=fun _ _=>rfl
theorem p88_:PE p88 88:=fun _ _=>rfl
theorem p97_:PE p97 97:=fun _ _=>rfl
theorem p105_:PE p105 105:=fun _ _=>rfl
theorem p112_:PE p112 112:=fun _ _=>rfl
theorem p126_:PE p126 126:=fun _ _=>rfl
theorem p131_:PE p131 131:=fun _ _=>rfl
theorem p132_:PE p132 132:=fun _ _=>rfl
theorem p133_:PE p133 133:=fun _ _=>rfl
theorem U2:Pg.underlying 2=some (.int .i64):=by kernel_rfl
theorem L2:F.layE Pg 2=some (1,false):=by kernel_rfl
theorem N2:F.lenIs Pg 2 1=true:=by kernel_rfl
theorem U3:Pg.underlying 3=some (.int .i64):=by kernel_rfl
theorem L3:F.layE Pg 3=some (1,false):=by kernel_rfl
theorem Z3:F.zeroV Pg 3=some (.int .i64 (.ofNat 0)):=by kernel_rfl
theorem N3:F.lenIs Pg 3 1=true:=by kernel_rfl
theorem U4:Pg.underlying 4=some .bool:=by kernel_rfl
theorem L4:F.layE Pg 4=some (1,false):=by kernel_rfl
theorem N4:F.lenIs Pg 4 1=true:=by kernel_rfl
theorem U5:Pg.underlying 5=some (.int .u8):=by kernel_rfl
theorem L5:F.layE Pg 5=some (1,false):=by kernel_rfl
theorem N5:F.lenIs Pg 5 1=true:=by kernel_rfl
theorem U9:Pg.underlying 9=some .string:=by kernel_rfl
theorem L9:F.layE Pg 9=some (1,false):=by kernel_rfl
theorem Z9:F.zeroV Pg 9=some (.str ⟨0,0⟩):=by kernel_rfl
theorem N9:F.lenIs Pg 9 1=true:=by kernel_rfl
theorem U21:Pg.underlying 21=some (.int .i32):=by kernel_rfl
theorem L21:F.layE Pg 21=some (1,false):=by kernel_rfl
theorem N21:F.lenIs Pg 21 1=true:=by kernel_rfl
theorem U24:Pg.underlying 24=some (.slice 86):=by kernel_rfl
theorem E24:F.elemT Pg 24=some 86:=by kernel_rfl
theorem L24:F.layE Pg 24=some (1,false):=by kernel_rfl
theorem N24:F.lenIs Pg 24 1=true:=by kernel_rfl
theorem L26:F.layE Pg 26=some (2,true):=by kernel_rfl
theorem Z26:F.zeroV Pg 26=some (.agg [.nils,(.bool false)]):=by kernel_rfl
theorem S26:F.szOf Pg 26=some 2:=by kernel_rfl
theorem N26:F.lenIs Pg 26 2=true:=by kernel_rfl
theorem U29:Pg.underlying 29=some (.slice 3):=by kernel_rfl
theorem E29:F.elemT Pg 29=some 3:=by kernel_rfl
theorem L29:F.layE Pg 29=some (1,false):=by kernel_rfl
theorem N29:F.lenIs Pg 29 1=true:=by kernel_rfl
theorem L31:F.layE Pg 31=some (2,true):=by kernel_rfl
theorem Z31:F.zeroV Pg 31=some (.agg [(.bool false),.nils]):=by kernel_rfl
theorem S31:F.szOf Pg 31=some 2:=by kernel_rfl
theorem N31:F.lenIs Pg 31 2=true:=by kernel_rfl
theorem U51:Pg.underlying 51=some (.slice 5):=by kernel_rfl
theorem E51:F.elemT Pg 51=some 5:=by kernel_rfl
theorem L51:F.layE Pg 51=some (1,false):=by kernel_rfl
theorem N51:F.lenIs Pg 51 1=true:=by kernel_rfl
theorem L59:F.layE Pg 59=some (4,true):=by kernel_rfl
theorem Z59:F.zeroV Pg 59=some (.agg [.nils,(.bool false),.nils,(.bool false)]):=by kernel_rfl
theorem S59:F.szOf Pg 59=some 4:=by kernel_rfl
theorem N59:F.lenIs Pg 59 4=true:=by kernel_rfl
theorem L63:F.layE Pg 63=some (4,true):=by kernel_rfl
theorem Z63:F.zeroV Pg 63=some (.agg [(.bool false),.nils,(.bool false),.nils]):=by kernel_rfl
theorem S63:F.szOf Pg 63=some 4:=by kernel_rfl
theorem N63:F.lenIs Pg 63 4=true:=by kernel_rfl
theorem U79:Pg.underlying 79=some (.slice 9):=by kernel_rfl
theorem E79:F.elemT Pg 79=some 9:=by kernel_rfl
theorem L79:F.layE Pg 79=some (1,false):=by kernel_rfl
theorem N79:F.lenIs Pg 79 1=true:=by kernel_rfl
theorem U80:Pg.underlying 80=some (.int .u64):=by kernel_rfl
theorem L80:F.layE Pg 80=some (1,false):=by kernel_rfl
theorem N80:F.lenIs Pg 80 1=true:=by kernel_rfl
theorem U86:Pg.underlying 86=some (.int .u32):=by kernel_rfl
theorem L86:F.layE Pg 86=some (1,false):=by kernel_rfl
theorem N86:F.lenIs Pg 86 1=true:=by kernel_rfl
theorem U87:Pg.underlying 87=some (.int .u64):=by kernel_rfl
theorem L87:F.layE Pg 87=some (1,false):=by kernel_rfl
theorem N87:F.lenIs Pg 87 1=true:=by kernel_rfl
theorem FA26_0:∀ (r:Ref) (o:Nat),fa Pg 26 (.ptr r o) 0=some (.ptr r (o+0)):=fun r o=>by kernel_rfl
theorem FA26_1:∀ (r:Ref) (o:Nat),fa Pg 26 (.ptr r o) 1=some (.ptr r (o+1)):=fun r o=>by kernel_rfl
theorem FA31_0:∀ (r:Ref) (o:Nat),fa Pg 31 (.ptr r o) 0=some (.ptr r (o+0)):=fun r o=>by kernel_rfl
theorem FA31_1:∀ (r:Ref) (o:Nat),fa Pg 31 (.ptr r o) 1=some (.ptr r (o+1)):=fun r o=>by kernel_rfl
theorem FA59_0:∀ (r:Ref) (o:Nat),fa Pg 59 (.ptr r o) 0=some (.ptr r (o+0)):=fun r o=>by kernel_rfl
theorem FA59_1:∀ (r:Ref) (o:Nat),fa Pg 59 (.ptr r o) 1=some (.ptr r (o+2)):=fun r o=>by kernel_rfl
theorem ia24 {k:IntKind} {v:V} {d:List Nat} (h:Sl k v d) (k':IntKind) (i:Nat) (hi:i<d.length):ia Pg 24 v (.int k' (.ofNat i))=some (.iptr [.int k (.ofNat (d.getD i 0))]):=ia_sl E24 L86 h k' i hi
theorem ia29 {k:IntKind} {v:V} {d:List Nat} (h:Sl k v d) (k':IntKind) (i:Nat) (hi:i<d.length):ia Pg 29 v (.int k' (.ofNat i))=some (.iptr [.int k (.ofNat (d.getD i 0))]):=ia_sl E29 L3 h k' i hi
theorem sl24 {k:IntKind} {v:V} {d:List Nat} (h:Sl k v d) (k':IntKind) (i:Nat) (hi:i<d.length):slc Pg 24 v none (some (.int k' (.ofNat i))) none=some (.slice none false 1 (nl k (d.take i))):=slc_sl E24 L86 h k' i hi
theorem sl29 {k:IntKind} {v:V} {d:List Nat} (h:Sl k v d) (k':IntKind) (i:Nat) (hi:i<d.length):slc Pg 29 v none (some (.int k' (.ofNat i))) none=some (.slice none false 1 (nl k (d.take i))):=slc_sl E29 L3 h k' i hi
theorem q15_6_0:∀ (c:CallF) (t' t:Tm) (l:Lo) (h:Hp) (j:V→Lo→Hp→R),gn Try.f15 15 6 0 c t' t l h j=j (.agg [.nils,(.bool false)]) l h:=fun c t' t l h j=>gen_val (C:=Cg) (gl:=Cg.glob 15) (call:=c) (tm:=t) (loc:=l) (hp:=h) (j:=j) (t':=t') (o:=opA Try.f15 6 0) (d:=39) (v:=(.agg [.nils,(.bool false)])) (st:=⟨t',l,h⟩) (by kernel_rfl) (by kernel_rfl)
theorem m15_9_1:M1 Try.f15 15 9 1 40:=mk1 (by kernel_rfl)
theorem m15_10_0:M1 Try.f15 15 10 0 41:=mk1 (by kernel_rfl)
theorem q15_13_0:∀ (c:CallF) (t' t:Tm) (l:Lo) (h:Hp) (j:V→Lo→Hp→R),gn Try.f15 15 13 0 c t' t l h j=j (.agg [.nils,(.bool false)]) l h:=fun c t' t l h j=>gen_val (C:=Cg) (gl:=Cg.glob 15) (call:=c) (tm:=t) (loc:=l) (hp:=h) (j:=j) (t':=t') (o:=opA Try.f15 13 0) (d:=52) (v:=(.agg [.nils,(.bool false)])) (st:=⟨t',l,h⟩) (by kernel_rfl) (by kernel_rfl)
theorem n15_14_4:NC Try.f15 15 14 4 .u64 56:=mkC (d:=57) (s:=21) (t:=80) (by kernel_rfl) (by kernel_rfl) U21 U80
theorem q16_2_0:∀ (c:CallF) (t' t:Tm) (l:Lo) (h:Hp) (j:V→Lo→Hp→R),gn Try.f16 16 2 0 c t' t l h j=j (.agg [(.bool false),.nils]) l h:=fun c t' t l h j=>gen_val (C:=Cg) (gl:=Cg.glob 16) (call:=c) (tm:=t) (loc:=l) (hp:=h) (j:=j) (t':=t') (o:=opA Try.f16 2 0) (d:=12) (v:=(.agg [(.bool false),.nils])) (st:=⟨t',l,h⟩) (by kernel_rfl) (by kernel_rfl)
theorem n16_14_6:NC Try.f16 16 14 6 .i64 38:=mkC (d:=39) (s:=5) (t:=3) (by kernel_rfl) (by kernel_rfl) U5 U3
theorem m16_15_3:M2 Try.f16 16 15 3 41 43:=mk2 (by kernel_rfl) (by decide)
theorem i16_15_3:ApI Pg (opA Try.f16 15 3) 44 41 43 29:=⟨by kernel_rfl,{ callee:=.builtin .append,args:=#[.tmp 41,.tmp 43],argTypes:=#[29,29] },by kernel_rfl,rfl,rfl,rfl,by kernel_rfl⟩
theorem a16_15_3:APT Try.f16 16 15 3 41 43 44:=mkPT i16_15_3 (by kernel_rfl) (by kernel_rfl) (e:=3) (by kernel_rfl) (by kernel_rfl) (b:=8) (by kernel_rfl) (by decide) (by decide)
theorem n21_1_1:NC Try.f21 21 1 1 .u64 4:=mkC (d:=5) (s:=2) (t:=80) (by kernel_rfl) (by kernel_rfl) U2 U80
theorem n21_4_1:NC Try.f21 21 4 1 .u32 10:=mkC (d:=11) (s:=80) (t:=86) (by kernel_rfl) (by kernel_rfl) U80 U86
theorem n21_4_4:NC Try.f21 21 4 4 .u32 13:=mkC (d:=14) (s:=80) (t:=86) (by kernel_rfl) (by kernel_rfl) U80 U86
theorem m21_4_5:M2 Try.f21 21 4 5 11 14:=mk2 (by kernel_rfl) (by decide)
theorem n22_2_1:NC Try.f22 22 2 1 .u64 8:=mkC (d:=9) (s:=2) (t:=80) (by kernel_rfl) (by kernel_rfl) U2 U80
theorem n22_7_3:NC Try.f22 22 7 3 .i64 17:=mkC (d:=18) (s:=80) (t:=3) (by kernel_rfl) (by kernel_rfl) U80 U3
theorem m22_7_5:M2 Try.f22 22 7 5 15 19:=mk2 (by kernel_rfl) (by decide)
theorem i22_7_5:ApI Pg (opA Try.f22 7 5) 20 15 19 29:=⟨by kernel_rfl,{ callee:=.builtin .append,args:=#[.tmp 15,.tmp 19],argTypes:=#[29,29] },by kernel_rfl,rfl,rfl,rfl,by kernel_rfl⟩
theorem a22_7_5:APT Try.f22 22 7 5 15 19 20:=mkPT i22_7_5 (by kernel_rfl) (by kernel_rfl) (e:=3) (by kernel_rfl) (by kernel_rfl) (b:=8) (by kernel_rfl) (by decide) (by decide)
theorem m22_9_2:M2 Try.f22 22 9 2 23 24:=mk2 (by kernel_rfl) (by decide)
theorem n25_0_0:NB Try.f25 25 0 0 2 0:=mkB (t:=26) (by kernel_rfl) (by kernel_rfl) (by kernel_rfl) (by kernel_rfl)
theorem n25_0_1:NB Try.f25 25 0 1 3 1:=mkB (t:=26) (by kernel_rfl) (by kernel_rfl) (by kernel_rfl) (by kernel_rfl)
theorem n26_0_0:NB Try.f26 26 0 0 2 0:=mkB (t:=31) (by kernel_rfl) (by kernel_rfl) (by kernel_rfl) (by kernel_rfl)
theorem n26_0_1:NB Try.f26 26 0 1 3 1:=mkB (t:=31) (by kernel_rfl) (by kernel_rfl) (by kernel_rfl) (by kernel_rfl)
theorem n27_0_0:NB Try.f27 27 0 0 2 0:=mkB (t:=26) (by kernel_rfl) (by kernel_rfl) (by kernel_rfl) (by kernel_rfl)
theorem n27_0_1:NB Try.f27 27 0 1 3 1:=mkB (t:=26) (by kernel_rfl) (by kernel_rfl) (by kernel_rfl) (by kernel_rfl)
theorem n28_0_0:NB Try.f28 28 0 0 2 0:=mkB (t:=31) (by kernel_rfl) (by kernel_rfl) (by kernel_rfl) (by kernel_rfl)
theorem n28_0_1:NB Try.f28 28 0 1 3 1:=mkB (t:=31) (by kernel_rfl) (by kernel_rfl) (by kernel_rfl) (by kernel_rfl)
theorem n29_0_0:NB Try.f29 29 0 0 2 0:=mkB (t:=26) (by kernel_rfl) (by kernel_rfl) (by kernel_rfl) (by kernel_rfl)
theorem n29_0_1:NB Try.f29 29 0 1 3 1:=mkB (t:=26) (by kernel_rfl) (by kernel_rfl) (by kernel_rfl) (by kernel_rfl)
theorem m29_1_7:M1 Try.f29 29 1 7 17:=mk1d (by kernel_rfl)
theorem q29_1_7:∀ (c:CallF) (t:Tm) (l:Lo) (h:Hp) (j:V→Lo→Hp→R) (k:IntKind) (n:Nat),n≤1000000000→go1 Try.f29 29 1 7 17 (.int k (.ofNat n)) c t l h j=j (.arr (.loc 18 ((lg l 18).1+1)) 0 n (some n) 1 false) (lp l 18 ((lg l 18).1+1,.cells false (nl .u32 (List.replicate n 0)))) h:=fun c t l h j k n hn=>gen_make (C:=Cg) (gl:=Cg.glob 29) (call:=c) (tm:=t) (loc:=l) (hp:=h) (j:=j) (t':=pt .lf 17 (.int k (.ofNat n))) (k1:=k) (n:=n) (o:=opA Try.f29 1 7) (d:=18) (x:=17) (t:=24) (e:=86) (b:=4) (by kernel_rfl) (by kernel_rfl) (by kernel_rfl) (by kernel_rfl) (by kernel_rfl) (by kernel_rfl) (by kernel_rfl) (by rw [gt_pt,if_pos rfl]) (by omega) (by omega)
theorem n29_9_2:NC Try.f29 29 9 2 .u64 36:=mkC (d:=37) (s:=86) (t:=80) (by kernel_rfl) (by kernel_rfl) U86 U80
theorem n29_9_4:NC Try.f29 29 9 4 .u64 38:=mkC (d:=39) (s:=86) (t:=80) (by kernel_rfl) (by kernel_rfl) U86 U80
theorem n29_9_12:NC Try.f29 29 9 12 .u64 46:=mkC (d:=47) (s:=86) (t:=80) (by kernel_rfl) (by kernel_rfl) U86 U80
theorem n29_10_5:NC Try.f29 29 10 5 .u32 54:=mkC (d:=55) (s:=80) (t:=86) (by kernel_rfl) (by kernel_rfl) U80 U86
theorem m29_10_7:M2 Try.f29 29 10 7 56 55:=mk2 (by kernel_rfl) (by decide)
theorem n29_13_7:NC Try.f29 29 13 7 .u32 66:=mkC (d:=67) (s:=80) (t:=86) (by kernel_rfl) (by kernel_rfl) U80 U86
theorem m29_13_9:M2 Try.f29 29 13 9 68 67:=mk2 (by kernel_rfl) (by decide)
theorem n31_0_0:NB Try.f31 31 0 0 1 0:=mkB (t:=26) (by kernel_rfl) (by kernel_rfl) (by kernel_rfl) (by kernel_rfl)
theorem n32_0_0:NB Try.f32 32 0 0 1 0:=mkB (t:=31) (by kernel_rfl) (by kernel_rfl) (by kernel_rfl) (by kernel_rfl)
theorem m32_1_11:M2 Try.f32 32 1 11 11 13:=mk2 (by kernel_rfl) (by decide)
theorem b32_1_11 {v w:V} (hv:Pl v) (hw:Pl w) (c:CallF) (t:Tm) (l:Lo) (h:Hp) (j:V→Lo→Hp→R):go2 Try.f32 32 1 11 11 13 v w c t l h j=j (.agg [v,w]) l h:=gen_two (C:=Cg) (gl:=Cg.glob 32) (call:=c) (o:=opA Try.f32 1 11) (d:=14) (t:=31) (by kernel_rfl) (by kernel_rfl) (by kernel_rfl) (show zeroV Pg 31=some (.agg [(.bool false),.nils]) by kernel_rfl) (by decide) hv hw
theorem n33_0_0:NB Try.f33 33 0 0 2 0:=mkB (t:=26) (by kernel_rfl) (by kernel_rfl) (by kernel_rfl) (by kernel_rfl)
theorem n33_0_1:NB Try.f33 33 0 1 3 1:=mkB (t:=26) (by kernel_rfl) (by kernel_rfl) (by kernel_rfl) (by kernel_rfl)
theorem n35_0_0:NB Try.f35 35 0 0 1 0:=mkB (t:=26) (by kernel_rfl) (by kernel_rfl) (by kernel_rfl) (by kernel_rfl)
theorem q35_1_1:∀ (c:CallF) (t' t:Tm) (l:Lo) (h:Hp) (j:V→Lo→Hp→R),gn Try.f35 35 1 1 c t' t l h j=j (.agg [.nils,(.bool false)]) l h:=fun c t' t l h j=>gen_val (C:=Cg) (gl:=Cg.glob 35) (call:=c) (tm:=t) (loc:=l) (hp:=h) (j:=j) (t':=t') (o:=opA Try.f35 1 1) (d:=4) (v:=(.agg [.nils,(.bool false)])) (st:=⟨t',l,h⟩) (by kernel_rfl) (by kernel_rfl)
theorem n36_0_0:NB Try.f36 36 0 0 1 0:=mkB (t:=31) (by kernel_rfl) (by kernel_rfl) (by kernel_rfl) (by kernel_rfl)
theorem n37_0_0:NB Try.f37 37 0 0 2 0:=mkB (t:=26) (by kernel_rfl) (by kernel_rfl) (by kernel_rfl) (by kernel_rfl)
theorem n37_0_1:NB Try.f37 37 0 1 3 1:=mkB (t:=26) (by kernel_rfl) (by kernel_rfl) (by kernel_rfl) (by kernel_rfl)
theorem q37_3_0:∀ (c:CallF) (t' t:Tm) (l:Lo) (h:Hp) (j:V→Lo→Hp→R),gn Try.f37 37 3 0 c t' t l h j=j (.agg [.nils,(.bool false)]) l h:=fun c t' t l h j=>gen_val (C:=Cg) (gl:=Cg.glob 37) (call:=c) (tm:=t) (loc:=l) (hp:=h) (j:=j) (t':=t') (o:=opA Try.f37 3 0) (d:=17) (v:=(.agg [.nils,(.bool false)])) (st:=⟨t',l,h⟩) (by kernel_rfl) (by kernel_rfl)
theorem n38_0_0:NB Try.f38 38 0 0 2 0:=mkB (t:=31) (by kernel_rfl) (by kernel_rfl) (by kernel_rfl) (by kernel_rfl)
theorem n38_0_1:NB Try.f38 38 0 1 3 1:=mkB (t:=31) (by kernel_rfl) (by kernel_rfl) (by kernel_rfl) (by kernel_rfl)
theorem n39_0_0:NB Try.f39 39 0 0 2 0:=mkB (t:=26) (by kernel_rfl) (by kernel_rfl) (by kernel_rfl) (by kernel_rfl)
theorem n39_0_1:NB Try.f39 39 0 1 3 1:=mkB (t:=26) (by kernel_rfl) (by kernel_rfl) (by kernel_rfl) (by kernel_rfl)
theorem n40_0_0:NB Try.f40 40 0 0 2 0:=mkB (t:=31) (by kernel_rfl) (by kernel_rfl) (by kernel_rfl) (by kernel_rfl)
theorem n40_0_1:NB Try.f40 40 0 1 3 1:=mkB (t:=31) (by kernel_rfl) (by kernel_rfl) (by kernel_rfl) (by kernel_rfl)
theorem n44_0_0:NB Try.f44 44 0 0 2 0:=mkB (t:=26) (by kernel_rfl) (by kernel_rfl) (by kernel_rfl) (by kernel_rfl)
theorem n44_0_1:NB Try.f44 44 0 1 3 1:=mkB (t:=26) (by kernel_rfl) (by kernel_rfl) (by kernel_rfl) (by kernel_rfl)
theorem q44_2_0:∀ (c:CallF) (t' t:Tm) (l:Lo) (h:Hp) (j:V→Lo→Hp→R),gn Try.f44 44 2 0 c t' t l h j=j (.agg [.nils,(.bool false),.nils,(.bool false)]) l h:=fun c t' t l h j=>gen_val (C:=Cg) (gl:=Cg.glob 44) (call:=c) (tm:=t) (loc:=l) (hp:=h) (j:=j) (t':=t') (o:=opA Try.f44 2 0) (d:=10) (v:=(.agg [.nils,(.bool false),.nils,(.bool false)])) (st:=⟨t',l,h⟩) (by kernel_rfl) (by kernel_rfl)
theorem n45_0_0:NB Try.f45 45 0 0 2 0:=mkB (t:=31) (by kernel_rfl) (by kernel_rfl) (by kernel_rfl) (by kernel_rfl)
theorem n45_0_1:NB Try.f45 45 0 1 3 1:=mkB (t:=31) (by kernel_rfl) (by kernel_rfl) (by kernel_rfl) (by kernel_rfl)
theorem m45_2_1:M1 Try.f45 45 2 1 14:=mk1 (by kernel_rfl)
theorem m45_8_2:M2 Try.f45 45 8 2 38 39:=mk2 (by kernel_rfl) (by decide)
theorem n48_0_0:NB Try.f48 48 0 0 1 0:=mkB (t:=59) (by kernel_rfl) (by kernel_rfl) (by kernel_rfl) (by kernel_rfl)
theorem n50_0_0:NB Try.f50 50 0 0 1 0:=mkB (t:=26) (by kernel_rfl) (by kernel_rfl) (by kernel_rfl) (by kernel_rfl)
theorem m50_1_1:M1 Try.f50 50 1 1 3:=mk1 (by kernel_rfl)
theorem n52_0_0:NB Try.f52 52 0 0 1 0:=mkB (t:=59) (by kernel_rfl) (by kernel_rfl) (by kernel_rfl) (by kernel_rfl)
theorem n53_0_0:NB Try.f53 53 0 0 2 0:=mkB (t:=59) (by kernel_rfl) (by kernel_rfl) (by kernel_rfl) (by kernel_rfl)
theorem n53_0_1:NB Try.f53 53 0 1 3 1:=mkB (t:=59) (by kernel_rfl) (by kernel_rfl) (by kernel_rfl) (by kernel_rfl)
theorem n54_0_0:NB Try.f54 54 0 0 2 0:=mkB (t:=59) (by kernel_rfl) (by kernel_rfl) (by kernel_rfl) (by kernel_rfl)
theorem n54_0_1:NB Try.f54 54 0 1 3 1:=mkB (t:=59) (by kernel_rfl) (by kernel_rfl) (by kernel_rfl) (by kernel_rfl)
theorem n55_0_0:NB Try.f55 55 0 0 2 0:=mkB (t:=59) (by kernel_rfl) (by kernel_rfl) (by kernel_rfl) (by kernel_rfl)
theorem n55_0_1:NB Try.f55 55 0 1 3 1:=mkB (t:=59) (by kernel_rfl) (by kernel_rfl) (by kernel_rfl) (by kernel_rfl)
theorem n56_0_0:NB Try.f56 56 0 0 2 0:=mkB (t:=59) (by kernel_rfl) (by kernel_rfl) (by kernel_rfl) (by kernel_rfl)
theorem n56_0_1:NB Try.f56 56 0 1 3 1:=mkB (t:=59) (by kernel_rfl) (by kernel_rfl) (by kernel_rfl) (by kernel_rfl)
theorem n64_4_2:NC Try.f64 64 4 2 .u64 17:=mkC (d:=18) (s:=86) (t:=80) (by kernel_rfl) (by kernel_rfl) U86 U80
theorem n64_5_3:NC Try.f64 64 5 3 .u32 24:=mkC (d:=25) (s:=80) (t:=86) (by kernel_rfl) (by kernel_rfl) U80 U86
theorem m64_5_5:M2 Try.f64 64 5 5 26 25:=mk2 (by kernel_rfl) (by decide)
theorem w64_5_5 {r off n:Nat} {d:List Nat} {h:Hp} (hr:h.rows[r]? = some (.cells false (nl .u32 d))) (ho:off<d.length) (c:CallF) (t:Tm) (l:Lo) (j:V→Lo→Hp→R):go2 Try.f64 64 5 5 26 25 (.ptr (.glob r) off) (.int .u32 (.ofNat n)) c t l h j=j (.tuple []) l (hset h r (.cells false (nl .u32 (d.set off n)))):=gen_store_glob (C:=Cg) (gl:=Cg.glob 64) (call:=c) (o:=opA Try.f64 5 5) (t:=86) (by kernel_rfl) (by kernel_rfl) (by decide) (by kernel_rfl) hr ho
theorem n64_9_2:NC Try.f64 64 9 2 .u32 33:=mkC (d:=34) (s:=80) (t:=86) (by kernel_rfl) (by kernel_rfl) U80 U86
theorem m64_9_3:M1 Try.f64 64 9 3 34:=mk1 (by kernel_rfl)
theorem q64_9_3:QO Try.f64 64 9 3 34 35:=mkO (t:=24) (e:=86) (by kernel_rfl) (by kernel_rfl) (by kernel_rfl) (by kernel_rfl) (by kernel_rfl) (by kernel_rfl) (show zeroV Pg 86=some (.int .u32 (.ofNat 0)) by kernel_rfl)
theorem m64_9_4:M2 Try.f64 64 9 4 32 35:=mk2 (by kernel_rfl) (by decide)
theorem i64_9_4:ApI Pg (opA Try.f64 9 4) 36 32 35 24:=⟨by kernel_rfl,{ callee:=.builtin .append,args:=#[.tmp 32,.tmp 35],argTypes:=#[24,24] },by kernel_rfl,rfl,rfl,rfl,by kernel_rfl⟩
theorem a64_9_4 {loc:Lo} {k:IntKind} {l ys:List Nat} {v w:V} {hp:Hp} (hv:Gr hp v k l) (hw:∀ tm,itemsOf ⟨tm,loc,hp⟩ w=some (nl k ys)) (hy:ys≠[]) (hn:l.length+ys.length≤1000000000):∃ h',(∀ (c:CallF) (tm:Tm) (j:V→Lo→Hp→R),go2 Try.f64 64 9 4 32 35 v w c tm loc hp j=j (.arr (.glob hp.rows.length) 0 (l.length+ys.length) none 1 false) loc h')∧h'.rows[hp.rows.length]? = some (.cells false (nl k (l++ys)))∧h'.rows.length=hp.rows.length+1∧(∀ i,i<hp.rows.length→v≠.arr (.glob i) 0 l.length none 1 false→h'.rows[i]? = hp.rows[i]?)∧(h'=hadd hp (.cells false (nl k (l++ys)))∨∃ r,v=.arr (.glob r) 0 l.length none 1 false∧h'=hadd (hset hp r .gone) (.cells false (nl k (l++ys)))):=gen_growGs i64_9_4 (by kernel_rfl) (by kernel_rfl) (e:=86) (by kernel_rfl) (by kernel_rfl) (b:=4) (by kernel_rfl) (by decide) hv hw hy (by omega)
theorem m65_3_7:M2 Try.f65 65 3 7 22 28:=mk2 (by kernel_rfl) (by decide)
theorem b65_3_7 {v w:V} (hv:Pl v) (hw:Pl w) (c:CallF) (t:Tm) (l:Lo) (h:Hp) (j:V→Lo→Hp→R):go2 Try.f65 65 3 7 22 28 v w c t l h j=j (.agg [v,w]) l h:=gen_two (C:=Cg) (gl:=Cg.glob 65) (call:=c) (o:=opA Try.f65 3 7) (d:=29) (t:=26) (by kernel_rfl) (by kernel_rfl) (by kernel_rfl) (show zeroV Pg 26=some (.agg [.nils,(.bool false)]) by kernel_rfl) (by decide) hv hw
theorem bb65_3_7 {w:V} {r n:Nat} {li:Option Nat} {L:List Nat} {f0:Bool} {h:Hp} (hr:h.rows[r]? = some (.cells f0 (nl .u32 L))) (hn:n≤L.length) (hw:Pl w) (c:CallF) (t:Tm) (l:Lo) (j:V→Lo→Hp→R):go2 Try.f65 65 3 7 22 28 (.arr (.glob r) 0 n li 1 false) w c t l h j=j (.agg [.slice none false 1 (nl .u32 (L.take n)),w]) l (hset h r (.cells true (nl .u32 L))):=gen_two_arr (C:=Cg) (gl:=Cg.glob 65) (call:=c) (o:=opA Try.f65 3 7) (d:=29) (t:=26) (by kernel_rfl) (by kernel_rfl) (by kernel_rfl) (show zeroV Pg 26=some (.agg [.nils,(.bool false)]) by kernel_rfl) (by decide) hr hn hw
theorem m67_3_7:M2 Try.f67 67 3 7 27 28:=mk2 (by kernel_rfl) (by decide)
theorem b67_3_7 {v w:V} (hv:Pl v) (hw:Pl w) (c:CallF) (t:Tm) (l:Lo) (h:Hp) (j:V→Lo→Hp→R):go2 Try.f67 67 3 7 27 28 v w c t l h j=j (.agg [v,w]) l h:=gen_two (C:=Cg) (gl:=Cg.glob 67) (call:=c) (o:=opA Try.f67 3 7) (d:=29) (t:=31) (by kernel_rfl) (by kernel_rfl) (by kernel_rfl) (show zeroV Pg 31=some (.agg [(.bool false),.nils]) by kernel_rfl) (by decide) hv hw
theorem m68_3_2:M2 Try.f68 68 3 2 5 6:=mk2 (by kernel_rfl) (by decide)
theorem i68_3_2:ApI Pg (opA Try.f68 3 2) 7 5 6 24:=⟨by kernel_rfl,{ callee:=.builtin .append,args:=#[.tmp 5,.tmp 6],argTypes:=#[24,24] },by kernel_rfl,rfl,rfl,rfl,by kernel_rfl⟩
theorem n71_7_5:NC Try.f71 71 7 5 .u64 25:=mkC (d:=26) (s:=86) (t:=80) (by kernel_rfl) (by kernel_rfl) U86 U80
theorem n71_9_5:NC Try.f71 71 9 5 .u64 36:=mkC (d:=37) (s:=86) (t:=80) (by kernel_rfl) (by kernel_rfl) U86 U80
theorem n71_10_2:NC Try.f71 71 10 2 .u32 40:=mkC (d:=41) (s:=80) (t:=86) (by kernel_rfl) (by kernel_rfl) U80 U86
theorem m71_10_3:M1 Try.f71 71 10 3 41:=mk1 (by kernel_rfl)
theorem q71_10_3:QO Try.f71 71 10 3 41 42:=mkO (t:=24) (e:=86) (by kernel_rfl) (by kernel_rfl) (by kernel_rfl) (by kernel_rfl) (by kernel_rfl) (by kernel_rfl) (show zeroV Pg 86=some (.int .u32 (.ofNat 0)) by kernel_rfl)
theorem m71_10_4:M2 Try.f71 71 10 4 39 42:=mk2 (by kernel_rfl) (by decide)
theorem i71_10_4:ApI Pg (opA Try.f71 10 4) 43 39 42 24:=⟨by kernel_rfl,{ callee:=.builtin .append,args:=#[.tmp 39,.tmp 42],argTypes:=#[24,24] },by kernel_rfl,rfl,rfl,rfl,by kernel_rfl⟩
theorem a71_10_4:AP Try.f71 71 10 4 39 42 43:=mkP i71_10_4 (by kernel_rfl) (by kernel_rfl) (e:=86) (by kernel_rfl) (by kernel_rfl) (b:=4) (by kernel_rfl) (by decide) (by decide) (by decide)
theorem m73_10_2:M1 Try.f73 73 10 2 33:=mk1 (by kernel_rfl)
theorem q73_10_2:QO Try.f73 73 10 2 33 34:=mkO (t:=24) (e:=86) (by kernel_rfl) (by kernel_rfl) (by kernel_rfl) (by kernel_rfl) (by kernel_rfl) (by kernel_rfl) (show zeroV Pg 86=some (.int .u32 (.ofNat 0)) by kernel_rfl)
theorem m73_10_3:M2 Try.f73 73 10 3 32 34:=mk2 (by kernel_rfl) (by decide)
theorem i73_10_3:ApI Pg (opA Try.f73 10 3) 35 32 34 24:=⟨by kernel_rfl,{ callee:=.builtin .append,args:=#[.tmp 32,.tmp 34],argTypes:=#[24,24] },by kernel_rfl,rfl,rfl,rfl,by kernel_rfl⟩
theorem a73_10_3:AP Try.f73 73 10 3 32 34 35:=mkP i73_10_3 (by kernel_rfl) (by kernel_rfl) (e:=86) (by kernel_rfl) (by kernel_rfl) (b:=4) (by kernel_rfl) (by decide) (by decide) (by decide)
theorem m74_10_4:M2 Try.f74 74 10 4 44 47:=mk2 (by kernel_rfl) (by decide)
theorem i74_10_4:ApI Pg (opA Try.f74 10 4) 48 44 47 29:=⟨by kernel_rfl,{ callee:=.builtin .append,args:=#[.tmp 44,.tmp 47],argTypes:=#[29,29] },by kernel_rfl,rfl,rfl,rfl,by kernel_rfl⟩
theorem a74_10_4:APT Try.f74 74 10 4 44 47 48:=mkPT i74_10_4 (by kernel_rfl) (by kernel_rfl) (e:=3) (by kernel_rfl) (by kernel_rfl) (b:=8) (by kernel_rfl) (by decide) (by decide)
theorem m76_12_3:M2 Try.f76 76 12 3 35 37:=mk2 (by kernel_rfl) (by decide)
theorem i76_12_3:ApI Pg (opA Try.f76 12 3) 38 35 37 29:=⟨by kernel_rfl,{ callee:=.builtin .append,args:=#[.tmp 35,.tmp 37],argTypes:=#[29,29] },by kernel_rfl,rfl,rfl,rfl,by kernel_rfl⟩
theorem a76_12_3:APT Try.f76 76 12 3 35 37 38:=mkPT i76_12_3 (by kernel_rfl) (by kernel_rfl) (e:=3) (by kernel_rfl) (by kernel_rfl) (b:=8) (by kernel_rfl) (by decide) (by decide)
theorem m78_2_2:M1 Try.f78 78 2 2 20:=mk1d (by kernel_rfl)
theorem q78_2_2:∀ (c:CallF) (t:Tm) (l:Lo) (h:Hp) (j:V→Lo→Hp→R) (k:IntKind) (n:Nat),n≤1000000000→go1 Try.f78 78 2 2 20 (.int k (.ofNat n)) c t l h j=j (.arr (.loc 21 ((lg l 21).1+1)) 0 n (some n) 1 false) (lp l 21 ((lg l 21).1+1,.cells false (nl .u32 (List.replicate n 0)))) h:=fun c t l h j k n hn=>gen_make (C:=Cg) (gl:=Cg.glob 78) (call:=c) (tm:=t) (loc:=l) (hp:=h) (j:=j) (t':=pt .lf 20 (.int k (.ofNat n))) (k1:=k) (n:=n) (o:=opA Try.f78 2 2) (d:=21) (x:=20) (t:=24) (e:=86) (b:=4) (by kernel_rfl) (by kernel_rfl) (by kernel_rfl) (by kernel_rfl) (by kernel_rfl) (by kernel_rfl) (by kernel_rfl) (by rw [gt_pt,if_pos rfl]) (by omega) (by omega)
theorem n78_6_6:NC Try.f78 78 6 6 .u64 34:=mkC (d:=35) (s:=86) (t:=80) (by kernel_rfl) (by kernel_rfl) U86 U80
theorem n78_7_6:NC Try.f78 78 7 6 .u64 42:=mkC (d:=43) (s:=86) (t:=80) (by kernel_rfl) (by kernel_rfl) U86 U80
theorem n78_7_8:NC Try.f78 78 7 8 .u32 44:=mkC (d:=45) (s:=80) (t:=86) (by kernel_rfl) (by kernel_rfl) U80 U86
theorem m78_7_10:M2 Try.f78 78 7 10 46 45:=mk2 (by kernel_rfl) (by decide)
theorem n78_8_4:NC Try.f78 78 8 4 .u64 50:=mkC (d:=51) (s:=86) (t:=80) (by kernel_rfl) (by kernel_rfl) U86 U80
theorem n78_9_2:NC Try.f78 78 9 2 .u32 54:=mkC (d:=55) (s:=80) (t:=86) (by kernel_rfl) (by kernel_rfl) U80 U86
theorem m78_9_3:M1 Try.f78 78 9 3 55:=mk1 (by kernel_rfl)
theorem q78_9_3:QO Try.f78 78 9 3 55 56:=mkO (t:=24) (e:=86) (by kernel_rfl) (by kernel_rfl) (by kernel_rfl) (by kernel_rfl) (by kernel_rfl) (by kernel_rfl) (show zeroV Pg 86=some (.int .u32 (.ofNat 0)) by kernel_rfl)
theorem n78_10_7:NC Try.f78 78 10 7 .u64 65:=mkC (d:=66) (s:=3) (t:=87) (by kernel_rfl) (by kernel_rfl) U3 U87
theorem m78_13_2:M1 Try.f78 78 13 2 77:=mk1d (by kernel_rfl)
theorem q78_13_2:∀ (c:CallF) (t:Tm) (l:Lo) (h:Hp) (j:V→Lo→Hp→R) (k:IntKind) (n:Nat),n≤1000000000→go1 Try.f78 78 13 2 77 (.int k (.ofNat n)) c t l h j=j (.arr (.loc 78 ((lg l 78).1+1)) 0 n (some n) 1 false) (lp l 78 ((lg l 78).1+1,.cells false (nl .u32 (List.replicate n 0)))) h:=fun c t l h j k n hn=>gen_make (C:=Cg) (gl:=Cg.glob 78) (call:=c) (tm:=t) (loc:=l) (hp:=h) (j:=j) (t':=pt .lf 77 (.int k (.ofNat n))) (k1:=k) (n:=n) (o:=opA Try.f78 13 2) (d:=78) (x:=77) (t:=24) (e:=86) (b:=4) (by kernel_rfl) (by kernel_rfl) (by kernel_rfl) (by kernel_rfl) (by kernel_rfl) (by kernel_rfl) (by kernel_rfl) (by rw [gt_pt,if_pos rfl]) (by omega) (by omega)
theorem n78_19_5:NC Try.f78 78 19 5 .u64 112:=mkC (d:=113) (s:=86) (t:=80) (by kernel_rfl) (by kernel_rfl) U86 U80
theorem n78_22_3:NC Try.f78 78 22 3 .u32 131:=mkC (d:=132) (s:=80) (t:=86) (by kernel_rfl) (by kernel_rfl) U80 U86
theorem m78_22_5:M2 Try.f78 78 22 5 133 132:=mk2 (by kernel_rfl) (by decide)
theorem m79_5_6:M2 Try.f79 79 5 6 23 24:=mk2 (by kernel_rfl) (by decide)
theorem i79_5_6:ApI Pg (opA Try.f79 5 6) 25 23 24 29:=⟨by kernel_rfl,{ callee:=.builtin .append,args:=#[.tmp 23,.tmp 24],argTypes:=#[29,29] },by kernel_rfl,rfl,rfl,rfl,by kernel_rfl⟩
theorem m79_12_3:M2 Try.f79 79 12 3 45 46:=mk2 (by kernel_rfl) (by decide)
theorem i79_12_3:ApI Pg (opA Try.f79 12 3) 47 45 46 29:=⟨by kernel_rfl,{ callee:=.builtin .append,args:=#[.tmp 45,.tmp 46],argTypes:=#[29,29] },by kernel_rfl,rfl,rfl,rfl,by kernel_rfl⟩
theorem n81_0_0:NB Try.f81 81 0 0 3 0:=mkB (t:=59) (by kernel_rfl) (by kernel_rfl) (by kernel_rfl) (by kernel_rfl)
theorem n81_0_1:NB Try.f81 81 0 1 4 1:=mkB (t:=59) (by kernel_rfl) (by kernel_rfl) (by kernel_rfl) (by kernel_rfl)
theorem n82_0_0:NB Try.f82 82 0 0 2 0:=mkB (t:=26) (by kernel_rfl) (by kernel_rfl) (by kernel_rfl) (by kernel_rfl)
theorem n82_0_1:NB Try.f82 82 0 1 3 1:=mkB (t:=26) (by kernel_rfl) (by kernel_rfl) (by kernel_rfl) (by kernel_rfl)
theorem m85_1_3:M1 Try.f85 85 1 3 11:=mk1d (by kernel_rfl)
theorem n85_5_1:NC Try.f85 85 5 1 .u64 20:=mkC (d:=21) (s:=86) (t:=80) (by kernel_rfl) (by kernel_rfl) U86 U80
theorem n85_6_5:NC Try.f85 85 6 5 .u32 28:=mkC (d:=29) (s:=80) (t:=86) (by kernel_rfl) (by kernel_rfl) U80 U86
theorem m85_6_8:M2 Try.f85 85 6 8 31 30:=mk2 (by kernel_rfl) (by decide)
theorem w85_6_8 {r off n:Nat} {d:List Nat} {h:Hp} (hr:h.rows[r]? = some (.cells false (nl .u32 d))) (ho:off<d.length) (c:CallF) (t:Tm) (l:Lo) (j:V→Lo→Hp→R):go2 Try.f85 85 6 8 31 30 (.ptr (.glob r) off) (.int .u32 (.ofNat n)) c t l h j=j (.tuple []) l (hset h r (.cells false (nl .u32 (d.set off n)))):=gen_store_glob (C:=Cg) (gl:=Cg.glob 85) (call:=c) (o:=opA Try.f85 6 8) (t:=86) (by kernel_rfl) (by kernel_rfl) (by decide) (by kernel_rfl) hr ho
theorem n85_7_5:NC Try.f85 85 7 5 .u32 36:=mkC (d:=37) (s:=80) (t:=86) (by kernel_rfl) (by kernel_rfl) U80 U86
theorem m85_7_7:M2 Try.f85 85 7 7 38 37:=mk2 (by kernel_rfl) (by decide)
theorem w85_7_7 {r off n:Nat} {d:List Nat} {h:Hp} (hr:h.rows[r]? = some (.cells false (nl .u32 d))) (ho:off<d.length) (c:CallF) (t:Tm) (l:Lo) (j:V→Lo→Hp→R):go2 Try.f85 85 7 7 38 37 (.ptr (.glob r) off) (.int .u32 (.ofNat n)) c t l h j=j (.tuple []) l (hset h r (.cells false (nl .u32 (d.set off n)))):=gen_store_glob (C:=Cg) (gl:=Cg.glob 85) (call:=c) (o:=opA Try.f85 7 7) (t:=86) (by kernel_rfl) (by kernel_rfl) (by decide) (by kernel_rfl) hr ho
theorem m86_7_2:M2 Try.f86 86 7 2 28 29:=mk2 (by kernel_rfl) (by decide)
theorem m87_1_2:M1 Try.f87 87 1 2 10:=mk1d (by kernel_rfl)
theorem q87_1_2:∀ (c:CallF) (t:Tm) (l:Lo) (h:Hp) (j:V→Lo→Hp→R) (k:IntKind) (n:Nat),n≤1000000000→go1 Try.f87 87 1 2 10 (.int k (.ofNat n)) c t l h j=j (.arr (.loc 11 ((lg l 11).1+1)) 0 n (some n) 1 false) (lp l 11 ((lg l 11).1+1,.cells false (nl .u32 (List.replicate n 0)))) h:=fun c t l h j k n hn=>gen_make (C:=Cg) (gl:=Cg.glob 87) (call:=c) (tm:=t) (loc:=l) (hp:=h) (j:=j) (t':=pt .lf 10 (.int k (.ofNat n))) (k1:=k) (n:=n) (o:=opA Try.f87 1 2) (d:=11) (x:=10) (t:=24) (e:=86) (b:=4) (by kernel_rfl) (by kernel_rfl) (by kernel_rfl) (by kernel_rfl) (by kernel_rfl) (by kernel_rfl) (by kernel_rfl) (by rw [gt_pt,if_pos rfl]) (by omega) (by omega)
theorem n87_5_1:NC Try.f87 87 5 1 .u64 19:=mkC (d:=20) (s:=86) (t:=80) (by kernel_rfl) (by kernel_rfl) U86 U80
theorem n87_6_6:NC Try.f87 87 6 6 .u32 29:=mkC (d:=30) (s:=80) (t:=86) (by kernel_rfl) (by kernel_rfl) U80 U86
theorem m87_6_9:M2 Try.f87 87 6 9 32 31:=mk2 (by kernel_rfl) (by decide)
theorem n87_8_6:NC Try.f87 87 8 6 .u32 40:=mkC (d:=41) (s:=80) (t:=86) (by kernel_rfl) (by kernel_rfl) U80 U86
theorem m87_8_9:M2 Try.f87 87 8 9 43 42:=mk2 (by kernel_rfl) (by decide)
theorem m88_8_4:M2 Try.f88 88 8 4 30 33:=mk2 (by kernel_rfl) (by decide)
theorem i88_8_4:ApI Pg (opA Try.f88 8 4) 34 30 33 29:=⟨by kernel_rfl,{ callee:=.builtin .append,args:=#[.tmp 30,.tmp 33],argTypes:=#[29,29] },by kernel_rfl,rfl,rfl,rfl,by kernel_rfl⟩
theorem a88_8_4:APT Try.f88 88 8 4 30 33 34:=mkPT i88_8_4 (by kernel_rfl) (by kernel_rfl) (e:=3) (by kernel_rfl) (by kernel_rfl) (b:=8) (by kernel_rfl) (by decide) (by decide)
theorem n89_7_2:NC Try.f89 89 7 2 .u8 14:=mkC (d:=15) (s:=86) (t:=5) (by kernel_rfl) (by kernel_rfl) U86 U5
theorem n89_7_4:NC Try.f89 89 7 4 .i64 16:=mkC (d:=17) (s:=5) (t:=3) (by kernel_rfl) (by kernel_rfl) U5 U3
def r_ld_iptr_L2:=ld_iptr L2
def r_ldc_fst_L2:=ldc_fst L2
def r_ldc_snd_L2:=ldc_snd L2
def r_ldc_nl_L2:=ldc_nl L2
def r_ldg_cells_L2:=ldg_cells L2
def r_stc_nl_N2:=stc_nl N2
def r_ld_iptr_L3:=ld_iptr L3
def r_ldc_fst_L3:=ldc_fst L3
def r_ldc_snd_L3:=ldc_snd L3
def r_ldc_nl_L3:=ldc_nl L3
def r_ldg_cells_L3:=ldg_cells L3
def r_stc_nl_N3:=stc_nl N3
def r_ld_iptr_L4:=ld_iptr L4
def r_ldc_fst_L4:=ldc_fst L4
def r_ldc_snd_L4:=ldc_snd L4
def r_ldc_nl_L4:=ldc_nl L4
def r_ldg_cells_L4:=ldg_cells L4
def r_stc_nl_N4:=stc_nl N4
def r_ld_iptr_L5:=ld_iptr L5
def r_ldc_fst_L5:=ldc_fst L5
def r_ldc_snd_L5:=ldc_snd L5
def r_ldc_nl_L5:=ldc_nl L5
def r_ldg_cells_L5:=ldg_cells L5
def r_stc_nl_N5:=stc_nl N5
def r_ld_iptr_L9:=ld_iptr L9
def r_ldc_fst_L9:=ldc_fst L9
def r_ldc_snd_L9:=ldc_snd L9
def r_ldc_nl_L9:=ldc_nl L9
def r_ldg_cells_L9:=ldg_cells L9
def r_stc_nl_N9:=stc_nl N9
def r_ld_iptr_L21:=ld_iptr L21
def r_ldc_fst_L21:=ldc_fst L21
def r_ldc_snd_L21:=ldc_snd L21
def r_ldc_nl_L21:=ldc_nl L21
def r_ldg_cells_L21:=ldg_cells L21
def r_stc_nl_N21:=stc_nl N21
def r_ia_slice_E24_L86:=ia_slice E24 L86
def r_ia_arr_E24_L86:=ia_arr E24 L86
def r_slc_init_E24_L86:=slc_init E24 L86
def r_slc_arr_E24_L86:=slc_arr E24 L86
def r_ld_iptr_L24:=ld_iptr L24
def r_ldc_fst_L24:=ldc_fst L24
def r_ldc_snd_L24:=ldc_snd L24
def r_ldc_nl_L24:=ldc_nl L24
def r_ldg_cells_L24:=ldg_cells L24
def r_stc_nl_N24:=stc_nl N24
def r_ldc_two_L26:=ldc_two L26
def r_stc_two_N26:=stc_two N26
def r_al_eq_Z26_S26_rfl_rfl:=al_eq Z26 S26 rfl rfl
def r_ia_slice_E29_L3:=ia_slice E29 L3
def r_ia_arr_E29_L3:=ia_arr E29 L3
def r_slc_init_E29_L3:=slc_init E29 L3
def r_slc_arr_E29_L3:=slc_arr E29 L3
def r_ld_iptr_L29:=ld_iptr L29
def r_ldc_fst_L29:=ldc_fst L29
def r_ldc_snd_L29:=ldc_snd L29
def r_ldc_nl_L29:=ldc_nl L29
def r_ldg_cells_L29:=ldg_cells L29
def r_stc_nl_N29:=stc_nl N29
def r_ldc_two_L31:=ldc_two L31
def r_stc_two_N31:=stc_two N31
def r_al_eq_Z31_S31_rfl_rfl:=al_eq Z31 S31 rfl rfl
def r_ia_slice_E51_L5:=ia_slice E51 L5
def r_ia_arr_E51_L5:=ia_arr E51 L5
def r_slc_init_E51_L5:=slc_init E51 L5
def r_slc_arr_E51_L5:=slc_arr E51 L5
def r_ld_iptr_L51:=ld_iptr L51
def r_ldc_fst_L51:=ldc_fst L51
def r_ldc_snd_L51:=ldc_snd L51
def r_ldc_nl_L51:=ldc_nl L51
def r_ldg_cells_L51:=ldg_cells L51
def r_stc_nl_N51:=stc_nl N51
def r_al_eq_Z59_S59_rfl_rfl:=al_eq Z59 S59 rfl rfl
def r_al_eq_Z63_S63_rfl_rfl:=al_eq Z63 S63 rfl rfl
def r_ia_slice_E79_L9:=ia_slice E79 L9
def r_ia_arr_E79_L9:=ia_arr E79 L9
def r_slc_init_E79_L9:=slc_init E79 L9
def r_slc_arr_E79_L9:=slc_arr E79 L9
def r_ld_iptr_L79:=ld_iptr L79
def r_ldc_fst_L79:=ldc_fst L79
def r_ldc_snd_L79:=ldc_snd L79
def r_ldc_nl_L79:=ldc_nl L79
def r_ldg_cells_L79:=ldg_cells L79
def r_stc_nl_N79:=stc_nl N79
def r_ld_iptr_L80:=ld_iptr L80
def r_ldc_fst_L80:=ldc_fst L80
def r_ldc_snd_L80:=ldc_snd L80
def r_ldc_nl_L80:=ldc_nl L80
def r_ldg_cells_L80:=ldg_cells L80
def r_stc_nl_N80:=stc_nl N80
def r_ld_iptr_L86:=ld_iptr L86
def r_ldc_fst_L86:=ldc_fst L86
def r_ldc_snd_L86:=ldc_snd L86
def r_ldc_nl_L86:=ldc_nl L86
def r_ldg_cells_L86:=ldg_cells L86
def r_stc_nl_N86:=stc_nl N86
def r_ld_iptr_L87:=ld_iptr L87
def r_ldc_fst_L87:=ldc_fst L87
def r_ldc_snd_L87:=ldc_snd L87
def r_ldc_nl_L87:=ldc_nl L87
def r_ldg_cells_L87:=ldg_cells L87
def r_stc_nl_N87:=stc_nl N87
theorem dd10_8_10:DS Try.f10 10 8 10 19 52 59:=mkS (by kernel_rfl) (by kernel_rfl) (by decide)
theorem dd10_8_11:DS Try.f10 10 8 11 20 57 59:=mkS (by kernel_rfl) (by kernel_rfl) (by decide)
theorem dd25_2_8:DS Try.f25 25 2 8 4 18 26:=mkS (by kernel_rfl) (by kernel_rfl) (by decide)
theorem dd25_4_8:DS Try.f25 25 4 8 4 33 26:=mkS (by kernel_rfl) (by kernel_rfl) (by decide)
theorem dd25_5_8:DS Try.f25 25 5 8 4 41 26:=mkS (by kernel_rfl) (by kernel_rfl) (by decide)
theorem dd26_2_8:DS Try.f26 26 2 8 4 17 31:=mkS (by kernel_rfl) (by kernel_rfl) (by decide)
theorem dd26_4_8:DS Try.f26 26 4 8 4 31 31:=mkS (by kernel_rfl) (by kernel_rfl) (by decide)
theorem dd26_5_8:DS Try.f26 26 5 8 4 39 31:=mkS (by kernel_rfl) (by kernel_rfl) (by decide)
theorem dd27_1_4:DS Try.f27 27 1 4 4 8 26:=mkS (by kernel_rfl) (by kernel_rfl) (by decide)
theorem dd28_1_4:DS Try.f28 28 1 4 4 8 31:=mkS (by kernel_rfl) (by kernel_rfl) (by decide)
theorem dd37_2_2:DS Try.f37 37 2 2 4 15 26:=mkS (by kernel_rfl) (by kernel_rfl) (by decide)
theorem dd37_2_3:DS Try.f37 37 2 3 5 16 26:=mkS (by kernel_rfl) (by kernel_rfl) (by decide)
theorem dd37_8_5:DS Try.f37 37 8 5 7 56 26:=mkS (by kernel_rfl) (by kernel_rfl) (by decide)
theorem dd37_13_2:DS Try.f37 37 13 2 4 64 26:=mkS (by kernel_rfl) (by kernel_rfl) (by decide)
theorem dd37_13_3:DS Try.f37 37 13 3 5 65 26:=mkS (by kernel_rfl) (by kernel_rfl) (by decide)
theorem dd38_2_2:DS Try.f38 38 2 2 4 14 31:=mkS (by kernel_rfl) (by kernel_rfl) (by decide)
theorem dd38_2_3:DS Try.f38 38 2 3 5 15 31:=mkS (by kernel_rfl) (by kernel_rfl) (by decide)
theorem dd38_4_13:DS Try.f38 38 4 13 8 30 31:=mkS (by kernel_rfl) (by kernel_rfl) (by decide)
theorem dd38_4_14:DS Try.f38 38 4 14 9 34 31:=mkS (by kernel_rfl) (by kernel_rfl) (by decide)
theorem dd38_8_3:DS Try.f38 38 8 3 8 46 31:=mkS (by kernel_rfl) (by kernel_rfl) (by decide)
theorem dd38_9_3:DS Try.f38 38 9 3 8 49 31:=mkS (by kernel_rfl) (by kernel_rfl) (by decide)
theorem dd38_10_2:DS Try.f38 38 10 2 4 50 31:=mkS (by kernel_rfl) (by kernel_rfl) (by decide)
theorem dd38_10_3:DS Try.f38 38 10 3 5 51 31:=mkS (by kernel_rfl) (by kernel_rfl) (by decide)
theorem dd39_1_6:DS Try.f39 39 1 6 2 9 26:=mkS (by kernel_rfl) (by kernel_rfl) (by decide)
theorem dd39_1_7:DS Try.f39 39 1 7 3 12 26:=mkS (by kernel_rfl) (by kernel_rfl) (by decide)
theorem dd39_4_2:DS Try.f39 39 4 2 2 23 26:=mkS (by kernel_rfl) (by kernel_rfl) (by decide)
theorem dd39_4_3:DS Try.f39 39 4 3 3 24 26:=mkS (by kernel_rfl) (by kernel_rfl) (by decide)
theorem dd40_1_8:DS Try.f40 40 1 8 5 11 31:=mkS (by kernel_rfl) (by kernel_rfl) (by decide)
theorem dd40_1_9:DS Try.f40 40 1 9 6 14 31:=mkS (by kernel_rfl) (by kernel_rfl) (by decide)
theorem dd40_4_2:DS Try.f40 40 4 2 5 25 31:=mkS (by kernel_rfl) (by kernel_rfl) (by decide)
theorem dd40_4_3:DS Try.f40 40 4 3 6 26 31:=mkS (by kernel_rfl) (by kernel_rfl) (by decide)
theorem dd43_2_3:DS Try.f43 43 2 3 2 11 26:=mkS (by kernel_rfl) (by kernel_rfl) (by decide)
theorem dd43_2_4:DS Try.f43 43 2 4 3 13 31:=mkS (by kernel_rfl) (by kernel_rfl) (by decide)
theorem dd44_4_4:DS Try.f44 44 4 4 2 15 26:=mkS (by kernel_rfl) (by kernel_rfl) (by decide)
theorem dd44_4_5:DS Try.f44 44 4 5 3 17 26:=mkS (by kernel_rfl) (by kernel_rfl) (by decide)
theorem dd44_8_5:DS Try.f44 44 8 5 4 37 59:=mkS (by kernel_rfl) (by kernel_rfl) (by decide)
theorem dd45_4_4:DS Try.f45 45 4 4 2 20 31:=mkS (by kernel_rfl) (by kernel_rfl) (by decide)
theorem dd45_4_5:DS Try.f45 45 4 5 3 22 31:=mkS (by kernel_rfl) (by kernel_rfl) (by decide)
theorem dd48_1_4:DS Try.f48 48 1 4 2 6 26:=mkS (by kernel_rfl) (by kernel_rfl) (by decide)
theorem dd51_7_2:DS Try.f51 51 7 2 4 41 59:=mkS (by kernel_rfl) (by kernel_rfl) (by decide)
theorem dd51_7_3:DS Try.f51 51 7 3 5 42 63:=mkS (by kernel_rfl) (by kernel_rfl) (by decide)
theorem dd52_1_10:DS Try.f52 52 1 10 3 11 26:=mkS (by kernel_rfl) (by kernel_rfl) (by decide)
theorem dd52_1_11:DS Try.f52 52 1 11 4 12 26:=mkS (by kernel_rfl) (by kernel_rfl) (by decide)
theorem dd53_1_9:DS Try.f53 53 1 9 4 13 59:=mkS (by kernel_rfl) (by kernel_rfl) (by decide)
theorem dd55_1_11:DS Try.f55 55 1 11 4 15 59:=mkS (by kernel_rfl) (by kernel_rfl) (by decide)
theorem dd56_1_9:DS Try.f56 56 1 9 4 13 59:=mkS (by kernel_rfl) (by kernel_rfl) (by decide)
theorem dd81_1_13:DS Try.f81 81 1 13 6 19 59:=mkS (by kernel_rfl) (by kernel_rfl) (by decide)
attribute [go_sem] g0_ g1_ g2_ g3_ g4_ g5_ g6_ g7_ g8_ g9_ g10_ g11_ g12_ g13_ g14_ g15_ g17_ g19_ g20_ g21_ g22_ g28_ g29_ g30_ g41_ g42_ g70_ g71_ p0_ p1_ p2_ p3_ p4_ p5_ p6_ p7_ p8_ p9_ p10_ p11_ p12_ p13_ p14_ p15_ p16_ p17_ p18_ p19_ p20_ p21_ p22_ p23_ p24_ p25_ p26_ p27_ p28_ p29_ p30_ p31_ p32_ p33_ p34_ p35_ p36_ p37_ p38_ p39_ p40_ p41_ p42_ p43_ p44_ p45_ p46_ p47_ p48_ p49_ p50_ p51_ p52_ p54_ p55_ p56_ p57_ p59_ p60_ p63_ p64_ p65_ p66_ p67_ p68_ p69_ p70_ p71_ p72_ p76_ p77_ p82_ p88_ p97_ p105_ p112_ p126_ p131_ p132_ p133_ U2 U3 U4 U5 U9 U21 U24 U29 U51 U79 U80 U86 U87 r_ld_iptr_L2 r_ldc_fst_L2 r_ldc_snd_L2 r_ldc_nl_L2 r_ldg_cells_L2 r_stc_nl_N2 r_ld_iptr_L3 r_ldc_fst_L3 r_ldc_snd_L3 r_ldc_nl_L3 r_ldg_cells_L3 r_stc_nl_N3 r_ld_iptr_L4 r_ldc_fst_L4 r_ldc_snd_L4 r_ldc_nl_L4 r_ldg_cells_L4 r_stc_nl_N4 r_ld_iptr_L5 r_ldc_fst_L5 r_ldc_snd_L5 r_ldc_nl_L5 r_ldg_cells_L5 r_stc_nl_N5 r_ld_iptr_L9 r_ldc_fst_L9 r_ldc_snd_L9 r_ldc_nl_L9 r_ldg_cells_L9 r_stc_nl_N9 r_ld_iptr_L21 r_ldc_fst_L21 r_ldc_snd_L21 r_ldc_nl_L21 r_ldg_cells_L21 r_stc_nl_N21 r_ia_slice_E24_L86 r_ia_arr_E24_L86 r_slc_init_E24_L86 r_slc_arr_E24_L86 r_ld_iptr_L24 r_ldc_fst_L24 r_ldc_snd_L24 r_ldc_nl_L24 r_ldg_cells_L24 r_stc_nl_N24 r_ldc_two_L26 r_stc_two_N26 r_al_eq_Z26_S26_rfl_rfl r_ia_slice_E29_L3 r_ia_arr_E29_L3 r_slc_init_E29_L3 r_slc_arr_E29_L3 r_ld_iptr_L29 r_ldc_fst_L29 r_ldc_snd_L29 r_ldc_nl_L29 r_ldg_cells_L29 r_stc_nl_N29 r_ldc_two_L31 r_stc_two_N31 r_al_eq_Z31_S31_rfl_rfl r_ia_slice_E51_L5 r_ia_arr_E51_L5 r_slc_init_E51_L5 r_slc_arr_E51_L5 r_ld_iptr_L51 r_ldc_fst_L51 r_ldc_snd_L51 r_ldc_nl_L51 r_ldg_cells_L51 r_stc_nl_N51 r_al_eq_Z59_S59_rfl_rfl r_al_eq_Z63_S63_rfl_rfl r_ia_slice_E79_L9 r_ia_arr_E79_L9 r_slc_init_E79_L9 r_slc_arr_E79_L9 r_ld_iptr_L79 r_ldc_fst_L79 r_ldc_snd_L79 r_ldc_nl_L79 r_ldg_cells_L79 r_stc_nl_N79 r_ld_iptr_L80 r_ldc_fst_L80 r_ldc_snd_L80 r_ldc_nl_L80 r_ldg_cells_L80 r_stc_nl_N80 r_ld_iptr_L86 r_ldc_fst_L86 r_ldc_snd_L86 r_ldc_nl_L86 r_ldg_cells_L86 r_stc_nl_N86 r_ld_iptr_L87 r_ldc_fst_L87 r_ldc_snd_L87 r_ldc_nl_L87 r_ldg_cells_L87 r_stc_nl_N87 FA26_0 FA26_1 FA31_0 FA31_1 FA59_0 FA59_1 q15_6_0 m15_9_1 m15_10_0 q15_13_0 n15_14_4 q16_2_0 n16_14_6 m16_15_3 n21_1_1 n21_4_1 n21_4_4 m21_4_5 n22_2_1 n22_7_3 m22_7_5 m22_9_2 n25_0_0 n25_0_1 n26_0_0 n26_0_1 n27_0_0 n27_0_1 n28_0_0 n28_0_1 n29_0_0 n29_0_1 m29_1_7 q29_1_7 n29_9_2 n29_9_4 n29_9_12 n29_10_5 m29_10_7 n29_13_7 m29_13_9 n31_0_0 n32_0_0 m32_1_11 n33_0_0 n33_0_1 n35_0_0 q35_1_1 n36_0_0 n37_0_0 n37_0_1 q37_3_0 n38_0_0 n38_0_1 n39_0_0 n39_0_1 n40_0_0 n40_0_1 n44_0_0 n44_0_1 q44_2_0 n45_0_0 n45_0_1 m45_2_1 m45_8_2 n48_0_0 n50_0_0 m50_1_1 n52_0_0 n53_0_0 n53_0_1 n54_0_0 n54_0_1 n55_0_0 n55_0_1 n56_0_0 n56_0_1 n64_4_2 n64_5_3 m64_5_5 n64_9_2 m64_9_3 q64_9_3 m64_9_4 m65_3_7 m67_3_7 m68_3_2 n71_7_5 n71_9_5 n71_10_2 m71_10_3 q71_10_3 m71_10_4 m73_10_2 q73_10_2 m73_10_3 m74_10_4 m76_12_3 m78_2_2 q78_2_2 n78_6_6 n78_7_6 n78_7_8 m78_7_10 n78_8_4 n78_9_2 m78_9_3 q78_9_3 n78_10_7 m78_13_2 q78_13_2 n78_19_5 n78_22_3 m78_22_5 m79_5_6 m79_12_3 n81_0_0 n81_0_1 n82_0_0 n82_0_1 m85_1_3 n85_5_1 n85_6_5 m85_6_8 n85_7_5 m85_7_7 m86_7_2 m87_1_2 q87_1_2 n87_5_1 n87_6_6 m87_6_9 n87_8_6 m87_8_9 m88_8_4 n89_7_2 n89_7_4 dd10_8_10 dd10_8_11 dd25_2_8 dd25_4_8 dd25_5_8 dd26_2_8 dd26_4_8 dd26_5_8 dd27_1_4 dd28_1_4 dd37_2_2 dd37_2_3 dd37_8_5 dd37_13_2 dd37_13_3 dd38_2_2 dd38_2_3 dd38_4_13 dd38_4_14 dd38_8_3 dd38_9_3 dd38_10_2 dd38_10_3 dd39_1_6 dd39_1_7 dd39_4_2 dd39_4_3 dd40_1_8 dd40_1_9 dd40_4_2 dd40_4_3 dd43_2_3 dd43_2_4 dd44_4_4 dd44_4_5 dd44_8_5 dd45_4_4 dd45_4_5 dd48_1_4 dd51_7_2 dd51_7_3 dd52_1_10 dd52_1_11 dd53_1_9 dd55_1_11 dd56_1_9 dd81_1_13
end Go.AM.S
end
section
namespace NumL
def vl (B:Nat):List Nat→Nat
 | []=>0
 | x::l=>x+B*vl B l
def Dg (B:Nat) (l:List Nat):Prop:=∀ x ∈ l,x<B
theorem vl_append (B:Nat) (a b:List Nat):vl B (a++b)=vl B a+B ^ a.length*vl B b:=by
 induction a with
 | nil=>simp [vl]
 | cons x a ih =>
  simp only [List.cons_append,vl,ih,List.length_cons,Nat.pow_succ,Nat.mul_add]
  have:B*(B ^ a.length*vl B b)=B ^ a.length*B*vl B b:=by rw [←Nat.mul_assoc,Nat.mul_comm B]
  omega
theorem vl_one (B x:Nat):vl B [x]=x:=by simp [vl]
theorem vl_lt {B:Nat} (hB:0<B) {l:List Nat} (h:Dg B l):vl B l<B ^ l.length:=by
 induction l with
 | nil=>simp [vl]
 | cons x l ih =>
  have h1:x<B:=h x (by simp)
  have h2:=ih (fun y hy=>h y (by simp [hy]))
  simp only [vl,List.length_cons,Nat.pow_succ]
  have h3:B*vl B l+B≤B*B ^ l.length:=by
   have:=Nat.mul_le_mul_left B (Nat.succ_le_of_lt h2)
   rw [Nat.mul_succ] at this;exact this
  rw [Nat.mul_comm (B ^ l.length)]
  omega
theorem vl_take_succ (B:Nat) (l:List Nat) (i:Nat) (h:i<l.length):vl B (l.take (i+1))=vl B (l.take i)+B ^ i*l.getD i 0:=by
 have e:l.take (i+1)=l.take i++[l.getD i 0]:=by
  rw [List.take_add_one,List.getD_eq_getElem?_getD,List.getElem?_eq_getElem h];simp
 rw [e,vl_append,vl_one,List.length_take,Nat.min_eq_left (Nat.le_of_lt h)]
theorem Dg.nil (B:Nat):Dg B []:=fun x hx=>by simp at hx
theorem Dg.snoc {B:Nat} {l:List Nat} (h:Dg B l) {x:Nat} (hx:x<B):Dg B (l++[x]):=by
 intro y hy
 rcases List.mem_append.1 hy with h1 | h1
 ·exact h y h1
 ·rw [List.mem_singleton.1 h1];exact hx
theorem Dg.get {B:Nat} (hB:0<B) {l:List Nat} (h:Dg B l) (i:Nat):l.getD i 0<B:=by
 rw [List.getD_eq_getElem?_getD]
 cases he:l[i]? with
 | none=>exact hB
 | some x=>exact h x (List.mem_of_getElem? he)
theorem Dg.take {B:Nat} {l:List Nat} (h:Dg B l) (n:Nat):Dg B (l.take n):=fun x hx=>h x (List.mem_of_mem_take hx)
theorem Dg.drop {B:Nat} {l:List Nat} (h:Dg B l) (n:Nat):Dg B (l.drop n):=fun x hx=>h x (List.mem_of_mem_drop hx)
theorem Dg.set {B:Nat} {l:List Nat} (h:Dg B l) (i:Nat) {x:Nat} (hx:x<B):Dg B (l.set i x):=by
 intro y hy
 rcases List.mem_or_eq_of_mem_set hy with h1 | h1
 ·exact h y h1
 ·rw [h1];exact hx
theorem vl_take_ge (B:Nat) (l:List Nat) (i:Nat) (h:l.length≤i):vl B (l.take i)=vl B l:=by rw [List.take_of_length_le h]
theorem getD_ge {a:List Nat} {i:Nat} (h:¬i<a.length):a.getD i 0=0:=by rw [List.getD_eq_getElem?_getD,List.getElem?_eq_none (by omega)];rfl
theorem vl_take_next (B:Nat) (a:List Nat) (i:Nat):vl B (a.take (i+1))=vl B (a.take i)+B ^ i*a.getD i 0:=by
 by_cases h:i<a.length
 ·exact vl_take_succ B a i h
 ·rw [List.take_of_length_le (by omega),List.take_of_length_le (by omega),getD_ge h];simp
theorem plus_step {B:Nat} (hB:0<B) {out:List Nat} {i n x y p q:Nat} (hl:out.length=i) (hv:vl B out+B ^ i*n=p+q):vl B (out++[(n+x+y) % B])+B ^ (i+1)*((n+x+y) / B)=(p+B ^ i*x)+(q+B ^ i*y):=by
 rw [vl_append,vl_one,hl,Nat.pow_succ,Nat.mul_assoc,Nat.add_assoc,←Nat.mul_add,Nat.mod_add_div,Nat.mul_add,Nat.mul_add]
 omega
theorem top_none {B:Nat} {v w k n i:Nat} (hi:i=k+1) (hB:2≤B) (h1:v<B ^ k) (h2:w<B ^ k) {u:Nat} (h:u+B ^ i*n=v+w):n=0:=by
 rcases Nat.eq_zero_or_pos n with h0 | h0
 ·exact h0
 ·exfalso
  subst hi
  have h3:B ^ (k+1)*1≤B ^ (k+1)*n:=Nat.mul_le_mul_left _ h0
  rw [Nat.mul_one,Nat.pow_succ] at h3
  have h4:B ^ k*2≤B ^ k*B:=Nat.mul_le_mul_left _ hB
  rw [Nat.pow_succ] at h
  omega
theorem vl_lt_of {B:Nat} (hB:0<B) {l:List Nat} (h:Dg B l) {k:Nat} (hk:l.length≤k):vl B l<B ^ k:=Nat.lt_of_lt_of_le (vl_lt hB h) (Nat.pow_le_pow_right hB hk)
end NumL
end
section
namespace Go.AM.S
open Go Go.AM Go.Proofs NumL
open _root_.Go.AM.G (R)
noncomputable abbrev kn0:Kn:=fun _=>none
abbrev B:Nat:=4294967296
def Gives (f:FuncId) (args:List V) (p:V→Prop):Prop:=∀ h:Hp,∃ v,Runs Pg kn0 tbl f args h (.val v h)∧p v
theorem back_id (h h':Hp) (vs:List V) (h1:h'.dirty=none) (h2:V.noRefsL vs=true):backHp h h' vs=h:=by
 unfold backHp cleanB
 rw [h1,h2];rfl
theorem gives_of {f:FuncId} {rc:RC} {res:List ResultVar} {args:List V} {p:V→Prop} (ht:tbl f=some ⟨rc,res⟩)
  (hw:∀ (h:Hp) (Q:St→Prop),(∀ s v,fin Pg h res s=some (.val v h)→p v→Q s)→WW Pg kn0 tbl rc ⟨startTm args,.lf,⟨h.rows,none,h.mods⟩⟩ (fun _=>False) (fun _ _=>False) Q):Gives f args p:=by
 intro h
 obtain ⟨o,h1,v,rfl,h2⟩:=runs_ex (Post:=fun o=>∃ v,o=.val v h∧p v) (kn:=kn0) rfl ht (ww_mono (hw h (fun s=>∃ v,fin Pg h res s=some (.val v h)∧p v) (fun s v a b=>⟨v,a,b⟩)) (fun s hs=>hs.elim) (fun _ _ h=>h) (fun s ⟨v,h1,h2⟩=>⟨_,h1,v,rfl,h2⟩))
 exact ⟨v,h1,h2⟩
theorem ww_if {t:Nat} {a b:RC} {s:St} {N:St→Prop} {X:Nat→St→Prop} {Q:St→Prop} {p:Prop} [Decidable p] (hx:gt s.tm t=.bool (decide p)) (h1:p→WW Pg kn0 tbl a s N X Q) (h2:¬p→WW Pg kn0 tbl b s N X Q):WW Pg kn0 tbl (.cond (.tmp t) a b) s N X Q:=by
 by_cases h:p
 ·exact ww_true (by rw [hx,decide_eq_true h]) (h1 h)
 ·exact ww_false (by rw [hx,decide_eq_false h]) (h2 h)
theorem ww_for {c:RC} {id:Nat} {s:St} {N:St→Prop} {X:Nat→St→Prop} {Q:St→Prop} (I:Nat→St→Prop) (m:Nat) (hi:I m s)
  (hb:∀ m s,I m s→WW Pg kn0 tbl c s (fun s'=>∃ m',m'<m∧I m' s') (fun i s=>if i=id then N s else X i s) Q):WW Pg kn0 tbl (.block id (.loop c)) s N X Q :=
 ww_block (ww_loop I hb m hi)
theorem fin_tmp {h:Hp} {t:Nat} {s:St} {v v':V} {st:St} (hv:gt s.tm t=v) (he:AM.exp false s v=some (v',st)) (hh:st.hp.dirty=none) (hr:v'.noRefs=true):fin Pg h [.tmp t] s=some (.val v' h):=by
 unfold fin
 simp only [resV,rho_gt,hv,Option.map_some,exps,he]
 rw [back_id h st.hp [v'] hh (by simp [V.noRefsL,hr])]
theorem Sl.noRefs {k:IntKind} {v:V} {d:List Nat} (h:Sl k v d):v.noRefs=true:=by
 rcases h with ⟨f,rfl⟩ | ⟨rfl,_⟩<;>rfl
end Go.AM.S
end
section
namespace Go.AM.S
open Go Go.AM Go.Proofs NumL
open _root_.Go.AM.G (R)
set_option maxRecDepth 100000
theorem tbl65:tbl 65=some ⟨rc65,[.cell 4 26]⟩:=by kernel_rfl
def Cn (d:List Nat):Prop:=∀ i,d.length=i+1→d.getD i 0≠0
def Tr0 (a d:List Nat):Prop:=∃ n,a=d++List.replicate n 0
theorem Tr0.refl (a:List Nat):Tr0 a a:=⟨0,by simp⟩
theorem Tr0.next {a d:List Nat} (h:Tr0 a d) (h0:0<d.length) (hz:d.getD (d.length - 1) 0=0):Tr0 a (d.take (d.length - 1)):=by
 obtain ⟨n,rfl⟩:=h
 refine ⟨n+1,?_⟩
 have e:d=d.take (d.length - 1)++[0]:=by
  conv=>lhs;rw [←List.take_append_drop (d.length - 1) d]
  congr 1
  have e2:(d.drop (d.length - 1)).length=1:=by simp;omega
  obtain ⟨x,hx⟩:=List.length_eq_one_iff.1 e2
  rw [hx]
  have e3:d[d.length - 1]? = some x:=by
   have:=congrArg (fun l=>l[0]?) hx
   simpa using this
  rw [List.getD_eq_getElem?_getD,e3] at hz
  simp at hz
  rw [hz]
 conv=>lhs;rw [e]
 rw [List.append_assoc];rfl
theorem vl_zeros (B n:Nat):vl B (List.replicate n 0)=0:=by
 induction n with
 | zero=>rfl
 | succ n ih=>simp only [List.replicate_succ,vl,ih,Nat.mul_zero,Nat.add_zero]
theorem Tr0.vl {a d:List Nat} (h:Tr0 a d) (B:Nat):NumL.vl B d=NumL.vl B a:=by
 obtain ⟨n,rfl⟩:=h
 rw [vl_append,vl_zeros];simp
theorem Tr0.dg {a d:List Nat} (h:Tr0 a d) {B:Nat} (hd:Dg B a):Dg B d:=by
 obtain ⟨n,rfl⟩:=h
 exact fun x hx=>hd x (by simp [hx])
theorem Tr0.len {a d:List Nat} (h:Tr0 a d):d.length≤a.length:=by
 obtain ⟨n,rfl⟩:=h
 simp
def NI (v:V) (d:List Nat) (b:Bool):Prop:=(∃ s,v=.agg [s,.bool b]∧Sl .u32 s d)∧Dg B d∧Cn d∧(d=[]→b=false)
theorem made_spec {va:V} {a:List Nat} (ha:Sl .u32 va a) (da:Dg B a) (la:a.length≤1000000000) (ng:Bool) :
  Gives 65 [va,.bool ng] fun r=>∃ d,NI r d (ng && !d.isEmpty)∧Tr0 a d:=by
 refine gives_of tbl65 fun h Q hQ=>?_
 unfold rc65
 refine sR ?_
 refine ww_seq (ww_for (fun m s=>∃ d v,m=d.length∧gt s.tm 0=v∧Sl .u32 v d∧Tr0 a d∧gt s.tm 1=.bool ng∧gt s.tm 4=.ptr (.loc 4 1) 0∧lg s.loc 4=(1,.cells false [.nils,.bool false])∧s.hp=⟨h.rows,none,h.mods⟩) a.length ⟨a,va,rfl,(by simp -implicitDefEqProofs (disch:=omega) only [go_sem,reduceIte,Nat.reduceEqDiff,gt_start,List.getD_cons_zero]),ha,Tr0.refl a,sSG,sS,sS,rfl⟩ ?_)
 intro m s ⟨d,v,hm,h0,hv,ht,h1,h4,hl4,hhp⟩
 have hln:=ht.len
 have stop:Cn d→gt (pt s.tm 16 (.bool false)) 16=.bool false→WW Pg kn0 tbl (.seq (.reg fun c t l h k=>jn (fun v0 l0 h0=>jn (fun v1 l1 h1=>jn (fun v2 l2 h2=>bO (pick (g1 t) v2 (.bool false)) fun v3=>gn Try.f65 65 3 7 c (p28 (p22 t (g0 t)) v3) t l2 h2 (fun v4 l4 h4=>jn (fun v5 l5 h5=>k t l5 h5) fun j5=>sto 26 (g4 t) v4 l4 h4 j5 (gn Try.f65 65 3 8 c (p29 (p4 t (g4 t)) v4) t l4 h4 j5))) fun j2=>brB (wv (g1 t) true) (j2 (.tuple []) l1 h1) (bO (bin Pg .gtr 3 true v1 (I 0)) fun v3=>j2 v3 l1 h1)) fun j1=>brB (wv (g1 t) true) (j1 (.tuple []) l0 h0) (bO (len (Pg.underlying 24) v0) fun v2=>j1 v2 l0 h0)) fun j0=>brB (wv (g1 t) true) (j0 (.tuple []) l h) (j0 (g0 t) l h))
 .ret) ⟨pt s.tm 16 (.bool false),s.loc,s.hp⟩ (fun _=>False) (fun _ _=>False) Q:=by
  intro hcn _
  have key:∀ b:Bool,b=(ng && !d.isEmpty)→NI (.agg [v,.bool b]) d (ng && !d.isEmpty):=by
   intro b hb
   subst hb
   exact ⟨⟨v,rfl,hv⟩,ht.dg da,hcn,fun e=>by subst e;simp⟩
  cases ng with
  | false =>
   refine ww_seq (ww_reg (fun n k=>by simp -implicitDefEqProofs (disch:=omega) only [go_sem,reduceIte,Nat.reduceEqDiff,h0,h1,h4,hl4,b65_3_7 hv.pl (Pl.bool false),stc_two N26 1 v (.bool false) .nils (.bool false) _ hv.pl.ok rfl];rfl) ?_)
   exact ww_ret (hQ _ _ (fin_cell (x:=v) (y:=.bool false) (f:=false) (d:=4) (g:=1) (by kernel_rfl) (sS1 h4) (sS1 hl4) hv.pl (Pl.bool _) (by rw [hhp])) ⟨d,key false (by simp),ht⟩)
  | true =>
   refine ww_seq (ww_reg (fun n k=>by simp -implicitDefEqProofs (disch:=omega) only [go_sem,reduceIte,Nat.reduceEqDiff,h0,h1,h4,hl4,len_sl hv,b65_3_7 hv.pl (Pl.bool _),stc_two N26 1 v (.bool (decide (0<d.length))) .nils (.bool false) _ hv.pl.ok rfl];rfl) ?_)
   refine ww_ret (hQ _ _ (fin_cell (x:=v) (y:=.bool (decide (0<d.length))) (f:=false) (d:=4) (g:=1) (by kernel_rfl) (sS1 h4) (sS1 hl4) hv.pl (Pl.bool _) (by rw [hhp])) ⟨d,key _ ?_,ht⟩)
   cases d with
   | nil=>rfl
   | cons x l=>simp
 rcases Nat.eq_zero_or_pos d.length with hd | hd
 ·refine ww_seq (ww_seq (ww_reg (fun n k=>by simp -implicitDefEqProofs (disch:=omega) only [go_sem,reduceIte,Nat.reduceEqDiff,h0,len_sl hv,d_false];rfl) ?_))
  refine ww_false sS (ww_exit ?_)
  rw [if_pos rfl]
  exact stop (fun i hi=>by omega) sS
 ·have hx:d.getD (d.length - 1) 0<4294967296:=(ht.dg da).get (by decide) _
  by_cases hz:d.getD (d.length - 1) 0=0
  ·refine ww_seq (ww_seq (ww_reg (fun n k=>by simp -implicitDefEqProofs (disch:=omega) only [go_sem,reduceIte,Nat.reduceEqDiff,h0,len_sl hv,d_true,ia24 hv,hz];rfl) ?_))
   refine ww_true sS (ww_skip (ww_block ?_))
   refine ww_reg (fun n k=>by simp -implicitDefEqProofs (disch:=omega) only [go_sem,reduceIte,Nat.reduceEqDiff,h0,len_sl hv,sl24 hv];rfl) ?_
   exact ⟨d.length - 1,by omega,d.take (d.length - 1),_,by simp,sS,.inl ⟨false,rfl⟩,ht.next hd hz,(sS1 h1),(sS1 h4),(sS1 hl4),hhp⟩
  ·refine ww_seq (ww_seq (ww_reg (fun n k=>by simp -implicitDefEqProofs (disch:=omega) only [go_sem,reduceIte,Nat.reduceEqDiff,h0,len_sl hv,d_true,ia24 hv,d_false];rfl) ?_))
   refine ww_false sS (ww_exit ?_)
   rw [if_pos rfl]
   exact stop (fun i hi=>by rw [show i=d.length - 1 by omega];exact hz) sS
end Go.AM.S
end
section
namespace Go.AM.S
open Go Go.AM Go.Proofs NumL
open _root_.Go.AM.G (R)
set_option maxRecDepth 100000
theorem tbl83:tbl 83=some ⟨rc83,[.tmp 6,.tmp 7]⟩:=by kernel_rfl
theorem top_bit {n:Nat} (h:n<4294967296):n / 2 ^ 31=(n.testBit 31).toNat:=by
 rw [Nat.testBit_eq_decide_div_mod_eq]
 have:n / 2 ^ 31<2:=by omega
 rcases Nat.lt_or_ge (n / 2 ^ 31) 1 with h1 | h1
 ·have e:n / 2 ^ 31=0:=by omega
  rw [e];rfl
 ·have e:n / 2 ^ 31=1:=by omega
  rw [e];rfl
theorem bit_of {n:Nat} (h:n<4294967296):n.testBit 31=decide (2147483648≤n):=by
 rw [Nat.testBit_eq_decide_div_mod_eq]
 congr 1
 apply propext
 omega
theorem borrow {x y w:Nat} (hx:x<4294967296) (hy:y<4294967296) (hw:w≤1) :
  ((((4294967295 ^^^ x) &&& y) ||| ((4294967295 ^^^ (x ^^^ y)) &&& (((x+4294967296 - y) % 4294967296+4294967296 - w) % 4294967296))) / 2 ^ 31)=if x<y+w then 1 else 0:=by
 have hd:((x+4294967296 - y) % 4294967296+4294967296 - w) % 4294967296<4294967296:=Nat.mod_lt _ (by decide)
 have h1:(4294967295 ^^^ x)<4294967296:=Nat.xor_lt_two_pow (n:=32) (by decide) hx
 have h2:(4294967295 ^^^ (x ^^^ y))<4294967296:=Nat.xor_lt_two_pow (n:=32) (by decide) (Nat.xor_lt_two_pow (n:=32) hx hy)
 rw [top_bit (Nat.or_lt_two_pow (n:=32) (Nat.lt_of_le_of_lt Nat.and_le_left h1) (Nat.lt_of_le_of_lt Nat.and_le_left h2))]
 simp only [Nat.testBit_or,Nat.testBit_and,Nat.testBit_xor,bit_of hx,bit_of hy,bit_of hd]
 have e31:Nat.testBit 4294967295 31=true:=by decide
 rw [e31]
 by_cases a:2147483648≤x<;>by_cases b:2147483648≤y<;>by_cases c:2147483648≤((x+4294967296 - y) % 4294967296+4294967296 - w) % 4294967296<;>simp only [a,b,c,decide_true,decide_false]<;>split<;>first | rfl | (exfalso;omega)
theorem sub32_spec {x y w:Nat} (hx:x<4294967296) (hy:y<4294967296) (hw:w≤1) :
  Gives 83 [.int .u32 (.ofNat x),.int .u32 (.ofNat y),.int .u32 (.ofNat w)] fun r=>∃ d c,r=.tuple [.int .u32 (.ofNat d),.int .u32 (.ofNat c)]∧d<4294967296∧c≤1∧x+4294967296*c=d+y+w:=by
 refine gives_of tbl83 fun h Q hQ=>?_
 unfold rc83
 have h1:(4294967295 ^^^ x)<4294967296:=Nat.xor_lt_two_pow (n:=32) (by decide) hx
 have h0:(x ^^^ y)<4294967296:=Nat.xor_lt_two_pow (n:=32) hx hy
 have h2:(4294967295 ^^^ (x ^^^ y))<4294967296:=Nat.xor_lt_two_pow (n:=32) (by decide) h0
 have hd:((x+4294967296 - y) % 4294967296+4294967296 - w) % 4294967296<4294967296:=Nat.mod_lt _ (by decide)
 have h3:((4294967295 ^^^ x) &&& y)<4294967296:=Nat.lt_of_le_of_lt Nat.and_le_left h1
 have h4:((4294967295 ^^^ (x ^^^ y)) &&& (((x+4294967296 - y) % 4294967296+4294967296 - w) % 4294967296))<4294967296:=Nat.lt_of_le_of_lt Nat.and_le_left h2
 refine sR ?_
 refine sRG ?_
 refine ww_seq (ww_reg (fun n k=>by simp -implicitDefEqProofs (disch:=omega) only [go_sem,reduceIte,Nat.reduceEqDiff,gt_start,List.getD_cons_zero,List.getD_cons_succ,i_and32 h1 hy,i_and32 h2 hd,i_or32 h3 h4,borrow hx hy hw];rfl) ?_)
 refine ww_ret (hQ _ _ (fin_two (a:=6) (b:=7) (v:=.int .u32 (.ofNat (((x+4294967296 - y) % 4294967296+4294967296 - w) % 4294967296))) (w:=.int .u32 (.ofNat (if x<y+w then 1 else 0))) sS sS (Ex1.int _ _) (Ex1.int _ _) rfl rfl rfl) ⟨_,_,rfl,hd,?_,?_⟩)
 ·split<;>omega
 ·split<;>omega
end Go.AM.S
end
section
namespace Go.AM.S
open Go Go.AM Go.Proofs NumL
open _root_.Go.AM.G (R)
set_option maxRecDepth 100000
theorem tbl72:tbl 72=some ⟨rc72,[.tmp 4]⟩:=by kernel_rfl
theorem vl_split (B:Nat) (a:List Nat) (i:Nat):vl B a=vl B (a.take i)+B ^ (min i a.length)*vl B (a.drop i):=by
 conv=>lhs;rw [←List.take_append_drop i a]
 rw [vl_append,List.length_take]
theorem vl_drop_cons (B:Nat) (a:List Nat) (i:Nat) (h:i<a.length):vl B (a.drop i)=a.getD i 0+B*vl B (a.drop (i+1)):=by
 rw [List.drop_eq_getElem_cons h]
 simp only [vl]
 congr 1
 rw [List.getD_eq_getElem?_getD,List.getElem?_eq_getElem h];rfl
theorem vl_at (B:Nat) (a:List Nat) (i:Nat) (h:i<a.length):vl B a=vl B (a.take i)+B ^ i*(a.getD i 0+B*vl B (a.drop (i+1))):=by
 rw [vl_split B a i,vl_drop_cons B a i h,Nat.min_eq_left (Nat.le_of_lt h)]
theorem vl_lt_at {B:Nat} (hB:0<B) {a b:List Nat} (da:Dg B a) {i:Nat} (ha:i<a.length) (hb:i<b.length) (he:a.drop (i+1)=b.drop (i+1)) (h:a.getD i 0<b.getD i 0):vl B a<vl B b:=by
 rw [vl_at B a i ha,vl_at B b i hb,he]
 have h1:vl B (a.take i)<B ^ i:=vl_lt_of hB (da.take i) (by simp;omega)
 have h2:B ^ i*(a.getD i 0+B*vl B (b.drop (i+1))+1)≤B ^ i*(b.getD i 0+B*vl B (b.drop (i+1))):=Nat.mul_le_mul_left _ (by omega)
 rw [Nat.mul_add,Nat.mul_one] at h2
 omega
theorem vl_ge {B:Nat} {d:List Nat} (hc:Cn d) (hd:d≠[]):B ^ (d.length - 1)≤vl B d:=by
 have hp:0<d.length:=List.length_pos_iff.2 hd
 rw [vl_at B d (d.length - 1) (by omega)]
 have h1:=hc (d.length - 1) (by omega)
 have h2:B ^ (d.length - 1)*1≤B ^ (d.length - 1)*(d.getD (d.length - 1) 0+B*vl B (d.drop (d.length - 1+1))):=Nat.mul_le_mul_left _ (by omega)
 omega
theorem vl_lt_len {B:Nat} (hB:0<B) {a b:List Nat} (da:Dg B a) (cb:Cn b) (h:a.length<b.length):vl B a<vl B b:=by
 have h1:=vl_lt_of hB da (k:=b.length - 1) (by omega)
 have h2:=vl_ge (B:=B) cb (by intro e;subst e;simp at h)
 omega
def cmpI (x y:Nat):Int:=if x<y then .negSucc 0 else if y<x then .ofNat 1 else .ofNat 0
theorem getD_drop (a:List Nat) (i:Nat):a.drop i=if i<a.length then a.getD i 0::a.drop (i+1) else []:=by
 split
 ·rename_i h
  rw [List.drop_eq_getElem_cons h,List.getD_eq_getElem?_getD,List.getElem?_eq_getElem h];rfl
 ·exact List.drop_eq_nil_of_le (by omega)
theorem compare_spec {va vb:V} {a b:List Nat} (ha:Sl .u32 va a) (hb:Sl .u32 vb b) (da:Dg B a) (db:Dg B b) (ca:Cn a) (cb:Cn b) (la:a.length≤1000000000) (lb:b.length≤1000000000) :
  Gives 72 [va,vb] fun r=>r=.int .i64 (cmpI (vl B a) (vl B b)):=by
 refine gives_of tbl72 fun h Q hQ=>?_
 unfold rc72
 refine sR ?_
 rcases Nat.lt_trichotomy a.length b.length with hl | hl | hl
 ·refine ww_seq (ww_seq (ww_reg (fun n k=>by simp -implicitDefEqProofs (disch:=omega) only [go_sem,reduceIte,Nat.reduceEqDiff,gt_start,List.getD_cons_zero,List.getD_cons_succ,len_sl ha,len_sl hb,d_true];rfl) ?_))
  refine ww_true sS ?_
  refine ww_seq (ww_reg (fun n k=>by simp -implicitDefEqProofs (disch:=omega) only [go_sem,reduceIte,Nat.reduceEqDiff,gt_start,List.getD_cons_zero,List.getD_cons_succ,len_sl ha,len_sl hb,i_sub_neg];rfl) ?_)
  refine ww_ret (hQ _ _ (fin_tmp (v:=.int .i64 (.negSucc 0)) sS (Ex1.int _ _ _) rfl rfl) ?_)
  unfold cmpI
  rw [if_pos (vl_lt_len (by decide) da cb hl)]
 ·refine ww_seq (ww_seq (ww_reg (fun n k=>by simp -implicitDefEqProofs (disch:=omega) only [go_sem,reduceIte,Nat.reduceEqDiff,gt_start,List.getD_cons_zero,List.getD_cons_succ,len_sl ha,len_sl hb,d_false];rfl) ?_))
  refine ww_false sS (ww_skip ?_)
  refine ww_seq (ww_seq (ww_reg (fun n k=>by simp -implicitDefEqProofs (disch:=omega) only [go_sem,reduceIte,Nat.reduceEqDiff,gt_start,List.getD_cons_zero,List.getD_cons_succ,len_sl ha,i_dec];rfl) ?_))
  refine ww_for (fun m s=>m≤a.length∧gt s.tm 5=.int .i64 (dn m)∧a.drop m=b.drop m∧gt s.tm 0=va∧gt s.tm 1=vb∧s.hp=⟨h.rows,none,h.mods⟩) a.length ⟨Nat.le_refl _,sS,?_,(by simp -implicitDefEqProofs (disch:=omega) only [go_sem,reduceIte,Nat.reduceEqDiff,gt_start,List.getD_cons_zero]),sSG,rfl⟩ ?_
  ·rw [List.drop_eq_nil_of_le (Nat.le_refl _),List.drop_eq_nil_of_le (by omega)]
  intro m s ⟨hm,h5,he,h0,h1,hhp⟩
  cases m with
  | zero =>
   refine ww_seq (ww_seq (ww_reg (fun n k=>by simp -implicitDefEqProofs (disch:=omega) only [go_sem,reduceIte,Nat.reduceEqDiff,h5,dn];rfl) ?_))
   refine ww_false sS (ww_exit ?_)
   rw [if_pos rfl]
   refine sR ?_
   refine ww_ret (hQ _ _ (fin_tmp (v:=.int .i64 (.ofNat 0)) sS (Ex1.int _ _ _) (by rw [hhp]) rfl) ?_)
   have e:a=b:=by simpa using he
   subst e
   simp [cmpI]
  | succ i =>
   have h5':gt s.tm 5=.int .i64 (.ofNat i):=h5
   refine ww_seq (ww_seq (ww_reg (fun n k=>by simp -implicitDefEqProofs (disch:=omega) only [go_sem,reduceIte,Nat.reduceEqDiff,h5',d_true];rfl) ?_))
   refine ww_true sS (ww_skip ?_)
   refine ww_seq (ww_block (ww_block ?_))
   refine ww_seq (ww_reg (fun n k=>by simp -implicitDefEqProofs (disch:=omega) only [go_sem,reduceIte,Nat.reduceEqDiff,h0,h1,h5',ia24 ha,ia24 hb];rfl) ?_)
   refine ww_if (by simp only [gt_pt,reduceIte];rfl) (fun hx=>?_) (fun hx=>?_)
   ·refine sR ?_
    refine ww_ret (hQ _ _ (fin_tmp (v:=.int .i64 (.negSucc 0)) sS (Ex1.int _ _ _) (by rw [hhp]) rfl) ?_)
    unfold cmpI
    rw [if_pos (vl_lt_at (by decide) da (by omega) (by omega) he hx)]
   ·refine ww_seq (ww_reg (fun n k=>by simp -implicitDefEqProofs (disch:=omega) only [go_sem,reduceIte,Nat.reduceEqDiff,h0,h1,h5',ia24 ha,ia24 hb];rfl) ?_)
    refine ww_if (by simp only [gt_pt,reduceIte];rfl) (fun hy=>?_) (fun hy=>ww_skip ?_)
    ·refine sR ?_
     refine ww_ret (hQ _ _ (fin_tmp (v:=.int .i64 (.ofNat 1)) sS (Ex1.int _ _ _) (by rw [hhp]) rfl) ?_)
     have hlt:=vl_lt_at (B:=B) (by decide) db (by omega) (by omega) he.symm hy
     unfold cmpI
     rw [if_neg (by omega),if_pos hlt]
    ·refine ww_reg (fun n k=>by simp -implicitDefEqProofs (disch:=omega) only [go_sem,reduceIte,Nat.reduceEqDiff,h5',i_dec];rfl) ?_
     refine ⟨i,by omega,by omega,sS,?_,(sS1 h0),(sS1 h1),hhp⟩
     rw [getD_drop a i,getD_drop b i,if_pos (by omega),if_pos (by omega),he]
     congr 1
     omega
 ·refine ww_seq (ww_seq (ww_reg (fun n k=>by simp -implicitDefEqProofs (disch:=omega) only [go_sem,reduceIte,Nat.reduceEqDiff,gt_start,List.getD_cons_zero,List.getD_cons_succ,len_sl ha,len_sl hb,d_true];rfl) ?_))
  refine ww_true sS ?_
  have hmin:min (a.length - b.length) 1=1:=by omega
  refine ww_seq (ww_reg (fun n k=>by simp -implicitDefEqProofs (disch:=omega) only [go_sem,reduceIte,Nat.reduceEqDiff,gt_start,List.getD_cons_zero,List.getD_cons_succ,len_sl ha,len_sl hb,hmin];rfl) ?_)
  refine ww_ret (hQ _ _ (fin_tmp (v:=.int .i64 (.ofNat 1)) sS (Ex1.int _ _ _) rfl rfl) ?_)
  have hlt:=vl_lt_len (B:=B) (by decide) db ca hl
  unfold cmpI
  rw [if_neg (by omega),if_pos hlt]
end Go.AM.S
end
section
namespace Go.AM.S
open Go Go.AM Go.Proofs NumL
open _root_.Go.AM.G (R)
set_option maxRecDepth 100000
theorem tbl73:tbl 73=some ⟨rc73,[.tmp 4]⟩:=by kernel_rfl
structure I73 (va vb:V) (a b:List Nat) (h:Hp) (m:Nat) (s:St) (i n:Nat) (out:List Nat):Prop where
 m:m+i=a.length
 h1:gt s.tm 1=vb
 h10:gt s.tm 10=va
 h11:gt s.tm 11=.int .i64 (.ofNat a.length)
 h12:gt s.tm 12=.int .i64 (.ofNat i)
 h6:gt s.tm 6=.int .u32 (.ofNat n)
 hp:s.hp=h
 h5:Ar s.loc 35 (gt s.tm 5) .u32 out
 len:out.length=i
 dg:Dg B out
 n1:n≤1
 v:vl B (a.take i)+B ^ i*n=vl B out+vl B (b.take i)
theorem minus_step {B:Nat} {out:List Nat} {i n x y d c p q:Nat} (hl:out.length=i) (hv:p+B ^ i*n=vl B out+q) (he:x+B*c=d+y+n):(p+B ^ i*x)+B ^ (i+1)*c=vl B (out++[d])+(q+B ^ i*y):=by
 rw [vl_append,vl_one,hl,Nat.pow_succ,Nat.mul_assoc]
 have h1:B ^ i*(x+B*c)=B ^ i*(d+y+n):=by rw [he]
 simp only [Nat.mul_add] at h1
 omega
theorem minus_spec {va vb:V} {a b:List Nat} (ha:Sl .u32 va a) (hb:Sl .u32 vb b) (da:Dg B a) (db:Dg B b) (la:a.length≤1000000) (lb:b.length≤a.length) (hle:vl B b≤vl B a) :
  Gives 73 [va,vb] fun r=>∃ c,Sl .u32 r c∧Dg B c∧vl B c+vl B b=vl B a∧c.length=a.length:=by
 refine gives_of tbl73 fun h Q hQ=>?_
 unfold rc73
 refine sR ?_
 refine sR ?_
 refine sR ?_
 refine ww_seq (ww_seq (ww_reg (fun n k=>by simp -implicitDefEqProofs (disch:=omega) only [go_sem,reduceIte,Nat.reduceEqDiff,gt_start,List.getD_cons_zero,List.getD_cons_succ,len_sl ha];rfl) ?_))
 refine ww_for (fun m s=>∃ i n out,I73 va vb a b ⟨h.rows,none,h.mods⟩ m s i n out) a.length ⟨0,0,[],rfl,sSG,(by simp -implicitDefEqProofs (disch:=omega) only [go_sem,reduceIte,Nat.reduceEqDiff,gt_start,List.getD_cons_zero]),sS,sS,sS,rfl,.inl ⟨rfl,sS⟩,rfl,Dg.nil B,by decide,by simp [vl]⟩ ?_
 intro m s ⟨i,n,out,hm,h1,h10,h11,h12,h6,hhp,h5,hlen,hdg,hn,hv⟩
 refine sR2 h11 h12 ?_
 refine ww_seq (ww_if (by simp only [gt_pt,reduceIte];rfl) (fun hi=>ww_skip ?_) (fun hi=>ww_exit ?_))
 ·have da1:a.getD i 0<4294967296:=da.get (by decide) i
  have db1:b.getD i 0<4294967296:=db.get (by decide) i
  refine ww_seq (ww_block ?_)
  refine ww_seq (ww_reg (fun n k=>by simp -implicitDefEqProofs (disch:=omega) only [go_sem,reduceIte,Nat.reduceEqDiff,h10,h12,ia24 ha];rfl) ?_)
  refine sR ?_
  refine ww_join (M:=fun s1=>gt s1.tm 9=.int .u32 (.ofNat (b.getD i 0))∧gt s1.tm 8=.int .u32 (.ofNat (a.getD i 0))∧Kp [1,5,6,10,11,12] s.tm s1.tm∧s1.loc=s.loc∧s1.hp=s.hp) ?_ (fun s1 ⟨a9,a8,ak,al,ah⟩=>?_)
  ·refine ww_seq (ww_reg (fun n k=>by simp -implicitDefEqProofs (disch:=omega) only [go_sem,reduceIte,Nat.reduceEqDiff,h1,len_sl hb];rfl) ?_)
   refine ww_if (by simp only [gt_pt,reduceIte];rfl) (fun hia=>?_) (fun hia=>ww_skip ?_)
   ·refine ww_reg (fun n k=>by simp -implicitDefEqProofs (disch:=omega) only [go_sem,reduceIte,Nat.reduceEqDiff,h1,ia24 hb];rfl) ?_
    exact ⟨sS,sS,(by (try dsimp only);repeat (first | with_reducible exact Kp_refl _ _ | with_reducible refine Kp_pt (by decide) ?_)),rfl,rfl⟩
   ·exact ⟨(by simp -implicitDefEqProofs (disch:=omega) only [go_sem,reduceIte,Nat.reduceEqDiff,getD_ge hia]),sS,(by (try dsimp only);repeat (first | with_reducible exact Kp_refl _ _ | with_reducible refine Kp_pt (by decide) ?_)),rfl,rfl⟩
  have k5:=ak 5 (by decide);have k6:=(ak 6 (by decide)).trans h6;have k12:=(ak 12 (by decide)).trans h12
  obtain ⟨r,hr,d,c,hrr,hd,hc,he⟩:=sub32_spec da1 db1 hn s1.hp
  subst hrr
  obtain ⟨v5,l5,happ,hAr,hfr⟩:=a73_10_3 d h5 (by omega)
  refine ww_seq (ww_call (hr) (fun n hn k=>by simp -implicitDefEqProofs (disch:=omega) only [go_sem,reduceIte,Nat.reduceEqDiff,a8,a9,k6,clc3 hn (Ex1.int _ _) (Ex1.int _ _) (Ex1.int _ _)];rfl) ?_)
  refine ww_reg (fun n k=>by simp -implicitDefEqProofs (disch:=omega) only [go_sem,reduceIte,Nat.reduceEqDiff,k5,al,happ];rfl) ?_
  refine sE1 k12 ?_
  refine ⟨m - 1,by omega,i+1,c,out++[d],by omega,?_,?_,?_,sS,sS,ah.trans hhp,?_,by simp [hlen],hdg.snoc hd,hc,?_⟩
  ·exact (by simp -implicitDefEqProofs (disch:=omega) only [go_sem,reduceIte,Nat.reduceEqDiff,ak 1 (by decide),h1])
  ·exact (by simp -implicitDefEqProofs (disch:=omega) only [go_sem,reduceIte,Nat.reduceEqDiff,ak 10 (by decide),h10])
  ·exact (by simp -implicitDefEqProofs (disch:=omega) only [go_sem,reduceIte,Nat.reduceEqDiff,ak 11 (by decide),h11])
  ·dsimp only
   rw [show ∀ t,gt (pt (pt t 5 v5) 12 (.int .i64 (.ofNat (i+1)))) 5=v5 from fun t=>sS]
   exact hAr
  ·rw [vl_take_next,vl_take_next]
   exact minus_step hlen hv he
 ·rw [if_pos rfl]
  refine sR ?_
  obtain ⟨r,l',hex,hsl,_⟩:=exp_Ar h5
  rw [vl_take_ge _ _ _ (by omega),vl_take_ge _ _ _ (by omega)] at hv
  have hlt:=vl_lt_of (B:=B) (by decide) hdg (k:=i) (by omega)
  have hn0:n=0:=by
   rcases Nat.eq_zero_or_pos n with h0 | h0
   ·exact h0
   ·exfalso
    have:B ^ i*1≤B ^ i*n:=Nat.mul_le_mul_left _ h0
    omega
  subst hn0
  exact ww_ret (hQ _ r (fin_tmp (v:=gt s.tm 5) sS (hex _ _) (by rw [hhp]) hsl.noRefs) ⟨out,hsl,hdg,by simpa using hv.symm,by omega⟩)
end Go.AM.S
end
section
namespace Go.AM.S
open Go Go.AM Go.Proofs NumL
open _root_.Go.AM.G (R)
set_option maxRecDepth 100000
def zv (d:List Nat) (b:Bool):Int:=bif b then -(vl B d:Int) else (vl B d:Int)
def IsI (k:Nat) (v:V) (z:Int):Prop:=∃ d b,NI v d b∧z=zv d b∧d.length≤k
theorem IsI.mono {k l:Nat} {v:V} {z:Int} (h:IsI k v z) (hl:k≤l):IsI l v z:=by
 obtain ⟨d,b,h1,h2,h3⟩:=h
 exact ⟨d,b,h1,h2,by omega⟩
theorem NI.quiet {v:V} {d:List Nat} {b:Bool} (h:NI v d b):AM.quiet v=true:=by
 obtain ⟨⟨s,rfl,hs⟩,_⟩:=h
 rcases hs with ⟨f,rfl⟩ | ⟨rfl,_⟩<;>rfl
theorem NI.ex {v:V} {d:List Nat} {b:Bool} (h:NI v d b):Ex1 v:=by
 obtain ⟨⟨s,rfl,hs⟩,_⟩:=h
 exact fun st=>exp_agg (by intro u hu;simp at hu;rcases hu with rfl | rfl;exact hs.pl;exact Pl.bool _) st
theorem Sl.quiet {k:IntKind} {v:V} {d:List Nat} (h:Sl k v d):AM.quiet v=true:=by
 rcases h with ⟨f,rfl⟩ | ⟨rfl,_⟩<;>rfl
theorem vl_zero {d:List Nat} (hc:Cn d):vl B d=0↔d=[]:=by
 constructor
 ·intro h
  rcases Classical.em (d=[]) with e | e
  ·exact e
  ·have h1:=vl_ge (B:=B) hc e
   have h2:0<B ^ (d.length - 1):=Nat.pow_pos (by decide)
   omega
 ·intro h;subst h;rfl
theorem zv_neg_iff {d:List Nat} {b:Bool} (hc:Cn d) (h0:d=[]→b=false):zv d b<0↔b=true:=by
 cases b with
 | false=>simp only [zv,cond_false,Bool.false_eq_true,iff_false];omega
 | true =>
  have:d≠[]:=fun e=>by have:=h0 e;cases this
  have h1:vl B d≠0:=fun e=>this ((vl_zero hc).1 e)
  simp only [zv,cond_true,iff_true];omega
theorem tbl31:tbl 31=some ⟨rc31,[.cell 2 26]⟩:=by kernel_rfl
theorem exI {s:V} {d:List Nat} (hs:Sl .u32 s d) (b:Bool):Ex1 (.agg [s,.bool b]):=fun st=>exp_agg (by intro u hu;simp at hu;rcases hu with rfl | rfl;exact hs.pl;exact Pl.bool _) st
theorem neg_spec {k:Nat} {va:V} {x:Int} (ha:IsI k va x) (hk:k≤1000000):Gives 31 [va] fun r=>IsI k r (-x):=by
 obtain ⟨d,b,⟨⟨s,rfl,hs⟩,dd,cd,h0⟩,hx,hl⟩:=ha
 refine gives_of tbl31 fun h Q hQ=>?_
 unfold rc31
 refine sRG ?_
 obtain ⟨r,hr,e,⟨⟨s2,rfl,hs2⟩,de,ce,he0⟩,ht⟩:=made_spec hs dd (by omega) (!b) ⟨h.rows,none,h.mods⟩
 have hlen:=ht.len
 refine ww_seq (ww_call (hr) (fun n hn k=>by simp -implicitDefEqProofs (disch:=omega) only [go_sem,reduceIte,Nat.reduceEqDiff,gt_start,List.getD_cons_zero,List.getD_cons_succ,ldc_fst L24,ldc_snd L4,clc2 hn hs.ex (Ex1.bool _),stc_two N26 1 s2 (.bool (!b && !e.isEmpty)) .nils (.bool false) _ hs2.pl.ok rfl];rfl) ?_)
 refine ww_ret (hQ _ _ (fin_cell (x:=s2) (y:=.bool (!b && !e.isEmpty)) (f:=false) (d:=2) (g:=1) (by kernel_rfl) sS sS hs2.pl (Pl.bool _) rfl) ⟨e,_,⟨⟨s2,rfl,hs2⟩,de,ce,he0⟩,?_,by omega⟩)
 subst hx
 have hv:=ht.vl B
 unfold zv
 cases b with
 | true=>simp [hv]
 | false =>
  cases e with
  | nil=>simp [←hv,vl]
  | cons y l=>simp [hv]
end Go.AM.S
end
section
namespace Go.AM.S
open Go Go.AM Go.Proofs NumL
open _root_.Go.AM.G (R)
set_option maxRecDepth 100000
theorem tbl77:tbl 77=some ⟨rc77,[.tmp 2]⟩:=by kernel_rfl
theorem truth_spec (b:Bool):Gives 77 [.bool b] fun r=>r=.int .i64 (.ofNat (bif b then 1 else 0)):=by
 refine gives_of tbl77 fun h Q hQ=>?_
 unfold rc77
 refine sR ?_
 cases b with
 | true =>
  refine sQG ?_
  refine ww_true sS ?_
  refine sR ?_
  exact ww_ret (hQ _ _ (fin_tmp (v:=.int .i64 (.ofNat 1)) sS (Ex1.int _ _ _) rfl rfl) rfl)
 | false =>
  refine sQG ?_
  refine ww_false sS (ww_skip ?_)
  refine sR ?_
  exact ww_ret (hQ _ _ (fin_tmp (v:=.int .i64 (.ofNat 0)) sS (Ex1.int _ _ _) rfl rfl) rfl)
def cmpZ (x y:Int):Int:=if x<y then .negSucc 0 else if y<x then .ofNat 1 else .ofNat 0
theorem tbl33:tbl 33=some ⟨rc33,[.tmp 4]⟩:=by kernel_rfl
theorem bin_eqb (t:TypeId) (cn:Bool) (a b:Bool) (h:Pg.underlying t=some .bool):bin Pg .eql t cn (.bool a) (.bool b)=some (.bool (a == b)):=by
 show F.eqV .eql (Pg.underlying t) cn (.bool a) (.bool b)=_
 rw [h];rfl
theorem bin_neb (t:TypeId) (cn:Bool) (a b:Bool) (h:Pg.underlying t=some .bool):bin Pg .neq t cn (.bool a) (.bool b)=some (.bool (!(a == b))):=by
 show F.eqV .neq (Pg.underlying t) cn (.bool a) (.bool b)=_
 rw [h];rfl
theorem cmp_spec {k l:Nat} {va vb:V} {x y:Int} (ha:IsI k va x) (hb:IsI l vb y) (hk:k≤1000000) (hl:l≤1000000):Gives 33 [va,vb] fun r=>r=.int .i64 (cmpZ x y):=by
 obtain ⟨d,b,⟨⟨s,rfl,hs⟩,dd,cd,h0⟩,rfl,hdl⟩:=ha
 obtain ⟨e,c,⟨⟨u,rfl,hu⟩,de,ce,he0⟩,rfl,hel⟩:=hb
 have n1:=zv_neg_iff cd h0
 have n2:=zv_neg_iff ce he0
 refine gives_of tbl33 fun h Q hQ=>?_
 unfold rc33
 refine sRG ?_
 have done:∀ (t:Tm) (lo:Lo) (z:Int),z=cmpZ (zv d b) (zv e c)→Q ⟨pt t 4 (.int .i64 z),lo,⟨h.rows,none,h.mods⟩⟩:=fun t lo z hz=>by
  subst hz
  exact hQ _ _ (fin_tmp (v:=.int .i64 (cmpZ (zv d b) (zv e c))) sS (Ex1.int _ _ _) rfl rfl) rfl
 cases b with
 | true =>
  cases c with
  | true =>
   have neb:bin Pg .neq 4 false (.bool true) (.bool true)=some (.bool false):=bin_neb 4 false true true U4
   refine ww_seq (ww_block ?_)
   refine ww_seq (ww_reg (fun n k=>by simp -implicitDefEqProofs (disch:=omega) only [go_sem,reduceIte,Nat.reduceEqDiff,gt_start,List.getD_cons_zero,List.getD_cons_succ,ldc_snd L4,neb];rfl) ?_)
   refine ww_false sS ?_
   refine ww_seq (ww_reg (fun n k=>by simp -implicitDefEqProofs (disch:=omega) only [go_sem,reduceIte,Nat.reduceEqDiff,gt_start,List.getD_cons_zero,List.getD_cons_succ,ldc_snd L4];rfl) ?_)
   refine ww_true sS ?_
   obtain ⟨r,hr,rfl⟩:=compare_spec hu hs de dd ce cd (by omega) (by omega) ⟨h.rows,none,h.mods⟩
   refine ww_seq (ww_call (hr) (fun n hn k=>by simp -implicitDefEqProofs (disch:=omega) only [go_sem,reduceIte,Nat.reduceEqDiff,gt_start,List.getD_cons_zero,List.getD_cons_succ,ldc_fst L24,clc2 hn hu.ex hs.ex];rfl) ?_)
   refine ww_ret (done _ _ _ ?_)
   unfold cmpI cmpZ zv
   simp only [cond_true]
   split<;>split<;>first | rfl | omega | (split<;>first | rfl | omega)
  | false =>
   have neb:bin Pg .neq 4 false (.bool true) (.bool false)=some (.bool true):=bin_neb 4 false true false U4
   refine ww_seq (ww_block ?_)
   refine ww_seq (ww_reg (fun n k=>by simp -implicitDefEqProofs (disch:=omega) only [go_sem,reduceIte,Nat.reduceEqDiff,gt_start,List.getD_cons_zero,List.getD_cons_succ,ldc_snd L4,neb];rfl) ?_)
   refine ww_true sS ?_
   obtain ⟨r,hr,rfl⟩:=truth_spec true ⟨h.rows,none,h.mods⟩
   refine ww_seq (ww_call (hr) (fun n hn k=>by simp -implicitDefEqProofs (disch:=omega) only [go_sem,reduceIte,Nat.reduceEqDiff,gt_start,List.getD_cons_zero,List.getD_cons_succ,ldc_snd L4,clc1 hn (Ex1.bool _),cond_true,Nat.mul_one,i_sub_neg,Nat.reduceSub];rfl) ?_)
   refine ww_ret (done _ _ _ ?_)
   have h1:=n1.2 rfl
   have h2:¬zv e false<0:=fun h=>by have:=n2.1 h;cases this
   unfold cmpZ
   rw [if_pos (by omega)]
 | false =>
  cases c with
  | true =>
   have neb:bin Pg .neq 4 false (.bool false) (.bool true)=some (.bool true):=bin_neb 4 false false true U4
   refine ww_seq (ww_block ?_)
   refine ww_seq (ww_reg (fun n k=>by simp -implicitDefEqProofs (disch:=omega) only [go_sem,reduceIte,Nat.reduceEqDiff,gt_start,List.getD_cons_zero,List.getD_cons_succ,ldc_snd L4,neb];rfl) ?_)
   refine ww_true sS ?_
   obtain ⟨r,hr,rfl⟩:=truth_spec false ⟨h.rows,none,h.mods⟩
   refine ww_seq (ww_call (hr) (fun n hn k=>by simp -implicitDefEqProofs (disch:=omega) only [go_sem,reduceIte,Nat.reduceEqDiff,gt_start,List.getD_cons_zero,List.getD_cons_succ,ldc_snd L4,clc1 hn (Ex1.bool _),cond_false,Nat.mul_zero,Nat.reduceSub];rfl) ?_)
   refine ww_ret (done _ _ _ ?_)
   have h1:=n2.2 rfl
   have h2:¬zv d false<0:=fun h=>by have:=n1.1 h;cases this
   unfold cmpZ
   rw [if_neg (by omega),if_pos (by omega)]
  | false =>
   have neb:bin Pg .neq 4 false (.bool false) (.bool false)=some (.bool false):=bin_neb 4 false false false U4
   refine ww_seq (ww_block ?_)
   refine ww_seq (ww_reg (fun n k=>by simp -implicitDefEqProofs (disch:=omega) only [go_sem,reduceIte,Nat.reduceEqDiff,gt_start,List.getD_cons_zero,List.getD_cons_succ,ldc_snd L4,neb];rfl) ?_)
   refine ww_false sS ?_
   refine ww_seq (ww_reg (fun n k=>by simp -implicitDefEqProofs (disch:=omega) only [go_sem,reduceIte,Nat.reduceEqDiff,gt_start,List.getD_cons_zero,List.getD_cons_succ,ldc_snd L4];rfl) ?_)
   refine ww_false sS (ww_skip ?_)
   obtain ⟨r,hr,rfl⟩:=compare_spec hs hu dd de cd ce (by omega) (by omega) ⟨h.rows,none,h.mods⟩
   refine ww_seq (ww_call (hr) (fun n hn k=>by simp -implicitDefEqProofs (disch:=omega) only [go_sem,reduceIte,Nat.reduceEqDiff,gt_start,List.getD_cons_zero,List.getD_cons_succ,ldc_fst L24,clc2 hn hs.ex hu.ex];rfl) ?_)
   refine ww_ret (done _ _ _ ?_)
   unfold cmpI cmpZ zv
   simp only [cond_false]
   split<;>split<;>first | rfl | omega | (split<;>first | rfl | omega)
end Go.AM.S
end
section
namespace Go.AM.S
open Go Go.AM Go.Proofs NumL
open _root_.Go.AM.G (R)
set_option maxRecDepth 100000
theorem tbl71:tbl 71=some ⟨rc71,[.tmp 4]⟩:=by kernel_rfl
structure I71 (va vb:V) (a b:List Nat) (h:Hp) (m:Nat) (s:St) (i n:Nat) (out:List Nat):Prop where
 m:m+i=max a.length b.length+1
 h0:gt s.tm 0=va
 h1:gt s.tm 1=vb
 h14:gt s.tm 14=.int .i64 (.ofNat i)
 h13:gt s.tm 13=.int .i64 (.ofNat (max a.length b.length+1))
 h6:gt s.tm 6=.int .u64 (.ofNat n)
 hp:s.hp=h
 h5:Ar s.loc 43 (gt s.tm 5) .u32 out
 len:out.length=i
 dg:Dg B out
 n1:n≤1
 v:vl B out+B ^ i*n=vl B (a.take i)+vl B (b.take i)
theorem plus_spec {va vb:V} {a b:List Nat} (ha:Sl .u32 va a) (hb:Sl .u32 vb b) (da:Dg B a) (db:Dg B b) (la:a.length≤1000000) (lb:b.length≤1000000) :
  Gives 71 [va,vb] fun r=>∃ c,Sl .u32 r c∧Dg B c∧vl B c=vl B a+vl B b∧c.length=max a.length b.length+1:=by
 refine gives_of tbl71 fun h Q hQ=>?_
 unfold rc71
 refine sR ?_
 refine sR ?_
 refine sR ?_
 refine ww_seq (ww_seq (ww_reg (fun n k=>by simp -implicitDefEqProofs (disch:=omega) only [go_sem,reduceIte,Nat.reduceEqDiff,gt_start,List.getD_cons_zero,List.getD_cons_succ,len_sl ha,len_sl hb];rfl) ?_))
 refine ww_for (fun m s=>∃ i n out,I71 va vb a b ⟨h.rows,none,h.mods⟩ m s i n out) (max a.length b.length+1) ⟨0,0,[],rfl,(by simp -implicitDefEqProofs (disch:=omega) only [go_sem,reduceIte,Nat.reduceEqDiff,gt_start,List.getD_cons_zero]),sSG,sS,sS,sS,rfl,.inl ⟨rfl,sS⟩,rfl,Dg.nil B,by decide,by simp [vl]⟩ ?_
 intro m s ⟨i,n,out,hm,h0,h1,h14,h13,h6,hhp,h5,hlen,hdg,hn,hv⟩
 refine sR2 h14 h13 ?_
 refine ww_seq (ww_if (by simp only [gt_pt,reduceIte];rfl) (fun hi=>ww_skip ?_) (fun hi=>ww_exit ?_))
 ·have da1:a.getD i 0<4294967296:=da.get (by decide) i
  have db1:b.getD i 0<4294967296:=db.get (by decide) i
  obtain ⟨v5,l5,happ,hAr,hfr⟩:=a71_10_4 ((n+a.getD i 0+b.getD i 0) % 4294967296) h5 (by omega)
  refine ww_seq (ww_block ?_)
  refine sR1 h14 ?_
  refine ww_join (M:=fun s1=>gt s1.tm 6=.int .u64 (.ofNat (n+a.getD i 0))∧gt s1.tm 7=.int .i64 (.ofNat i)∧Kp [0,1,5,13,14] s.tm s1.tm∧s1.loc=s.loc∧s1.hp=s.hp) ?_ (fun s1 ⟨a6,a7,ak,al,ah⟩=>?_)
  ·refine ww_seq (ww_reg (fun n k=>by simp -implicitDefEqProofs (disch:=omega) only [go_sem,reduceIte,Nat.reduceEqDiff,h0,len_sl ha];rfl) ?_)
   refine ww_if (by simp only [gt_pt,reduceIte];rfl) (fun hia=>?_) (fun hia=>ww_skip ?_)
   ·refine ww_reg (fun n k=>by simp -implicitDefEqProofs (disch:=omega) only [go_sem,reduceIte,Nat.reduceEqDiff,h0,h6,ia24 ha];rfl) ?_
    exact ⟨sS,sS,(by (try dsimp only);repeat (first | with_reducible exact Kp_refl _ _ | with_reducible refine Kp_pt (by decide) ?_)),rfl,rfl⟩
   ·exact ⟨(by simp -implicitDefEqProofs (disch:=omega) only [go_sem,reduceIte,Nat.reduceEqDiff,h6,getD_ge hia,Nat.add_zero]),sS,(by (try dsimp only);repeat (first | with_reducible exact Kp_refl _ _ | with_reducible refine Kp_pt (by decide) ?_)),rfl,rfl⟩
  have k5:=ak 5 (by decide);have k1:=ak 1 (by decide);have k14:=ak 14 (by decide)
  refine ww_join (M:=fun s2=>gt s2.tm 6=.int .u64 (.ofNat (n+a.getD i 0+b.getD i 0))∧Kp [0,1,5,13,14] s1.tm s2.tm∧s2.loc=s.loc∧s2.hp=s.hp) ?_ (fun s2 ⟨b6,bk,bl,bh⟩=>?_)
  ·refine ww_seq (ww_reg (fun n k=>by simp -implicitDefEqProofs (disch:=omega) only [go_sem,reduceIte,Nat.reduceEqDiff,k1,h1,a7,len_sl hb];rfl) ?_)
   refine ww_if (by simp only [gt_pt,reduceIte];rfl) (fun hia=>?_) (fun hia=>ww_skip ?_)
   ·refine ww_reg (fun n k=>by simp -implicitDefEqProofs (disch:=omega) only [go_sem,reduceIte,Nat.reduceEqDiff,k1,h1,a6,a7,ia24 hb];rfl) ?_
    exact ⟨sS,(by (try dsimp only);repeat (first | with_reducible exact Kp_refl _ _ | with_reducible refine Kp_pt (by decide) ?_)),al,ah⟩
   ·exact ⟨(by simp -implicitDefEqProofs (disch:=omega) only [go_sem,reduceIte,Nat.reduceEqDiff,a6,getD_ge hia,Nat.add_zero]),(by (try dsimp only);repeat (first | with_reducible exact Kp_refl _ _ | with_reducible refine Kp_pt (by decide) ?_)),al,ah⟩
  have j5:=(bk 5 (by decide)).trans k5;have j14:=(bk 14 (by decide)).trans (k14.trans h14)
  refine ww_seq (ww_reg (fun n k=>by simp -implicitDefEqProofs (disch:=omega) only [go_sem,reduceIte,Nat.reduceEqDiff,b6,j5,bl,wrap_u32_mod,happ];rfl) ?_)
  refine ww_reg (fun n k=>by simp -implicitDefEqProofs (disch:=omega) only [go_sem,reduceIte,Nat.reduceEqDiff,b6,Nat.reducePow];rfl) ?_
  refine sE1 j14 ?_
  refine ⟨m - 1,by omega,i+1,(n+a.getD i 0+b.getD i 0) / 4294967296,out++[(n+a.getD i 0+b.getD i 0) % 4294967296],by omega,?_,?_,sS,?_,sS,bh.trans hhp,?_,by simp [hlen],hdg.snoc (Nat.mod_lt _ (by decide)),by omega,?_⟩
  ·exact (by simp -implicitDefEqProofs (disch:=omega) only [go_sem,reduceIte,Nat.reduceEqDiff,bk 0 (by decide),ak 0 (by decide),h0])
  ·exact (by simp -implicitDefEqProofs (disch:=omega) only [go_sem,reduceIte,Nat.reduceEqDiff,bk 1 (by decide),k1,h1])
  ·exact (by simp -implicitDefEqProofs (disch:=omega) only [go_sem,reduceIte,Nat.reduceEqDiff,bk 13 (by decide),ak 13 (by decide),h13])
  ·have e:gt (pt (pt (pt s2.tm 5 v5) 6 (V.int IntKind.u64 (Int.ofNat ((n+a.getD i 0+b.getD i 0) / 4294967296)))) 14 (V.int IntKind.i64 (Int.ofNat (i+1)))) 5=v5:=sS
   rw [e];exact hAr
  ·rw [vl_take_next,vl_take_next]
   exact plus_step (by decide) hlen hv
 ·rw [if_pos rfl]
  refine sR ?_
  obtain ⟨r,l',hex,hsl,_⟩:=exp_Ar h5
  rw [vl_take_ge _ _ _ (by omega),vl_take_ge _ _ _ (by omega)] at hv
  have hn0:=top_none (k:=max a.length b.length) (by omega) (by decide) (vl_lt_of (by decide) da (by omega)) (vl_lt_of (by decide) db (by omega)) hv
  refine ww_ret (hQ _ r (fin_tmp (v:=gt s.tm 5) sS (hex _ _) (by rw [hhp]) hsl.noRefs) ⟨out,hsl,hdg,by rw [hn0] at hv;simpa using hv,by omega⟩)
end Go.AM.S
end
section
namespace Go.AM.S
open Go Go.AM Go.Proofs NumL
open _root_.Go.AM.G (R)
set_option maxRecDepth 100000
theorem tbl35:tbl 35=some ⟨rc35,[.tmp 2]⟩:=by kernel_rfl
theorem tbl25:tbl 25=some ⟨rc25,[.cell 4 26]⟩:=by kernel_rfl
theorem tbl27:tbl 27=some ⟨rc27,[.cell 4 26]⟩:=by kernel_rfl
theorem zeroI:IsI 0 (.agg [.nils,.bool false]) 0:=⟨[],false,⟨⟨.nils,rfl,.inr ⟨rfl,rfl⟩⟩,Dg.nil B,fun i h=>by simp at h,fun _=>rfl⟩,rfl,Nat.le_refl _⟩
def sgn (x:Int):Int:=cmpZ x 0
theorem sign_spec {k:Nat} {va:V} {x:Int} (ha:IsI k va x) (hk:k≤1000000):Gives 35 [va] fun r=>r=.int .i64 (sgn x):=by
 have ha0:=ha
 obtain ⟨d,b,⟨⟨s,rfl,hs⟩,dd,cd,h0⟩,hx,hdl⟩:=ha
 refine gives_of tbl35 fun h Q hQ=>?_
 unfold rc35
 refine sRG ?_
 obtain ⟨r,hr,rfl⟩:=cmp_spec ha0 zeroI hk (by omega) ⟨h.rows,none,h.mods⟩
 refine ww_seq (ww_call (hr) (fun n hn k=>by simp -implicitDefEqProofs (disch:=omega) only [go_sem,reduceIte,Nat.reduceEqDiff,gt_start,List.getD_cons_zero,List.getD_cons_succ,ldc_two L26,clc2 hn (exI hs b) (exI (.inr ⟨rfl,rfl⟩) false)];rfl) ?_)
 exact ww_ret (hQ _ _ (fin_tmp (v:=.int .i64 (cmpZ x 0)) sS (Ex1.int _ _ _) rfl rfl) rfl)
theorem zv_same {d e f:List Nat} {b:Bool} (hf:vl B f=vl B d+vl B e):zv f (b && !f.isEmpty)=zv d b+zv e b:=by
 cases b with
 | false=>simp only [zv,Bool.false_and,cond_false];omega
 | true =>
  cases f with
  | nil=>simp only [vl] at hf;simp only [zv,Bool.true_and,List.isEmpty_nil,Bool.not_true,cond_false,cond_true,vl];omega
  | cons x l=>simp only [zv,Bool.true_and,List.isEmpty_cons,Bool.not_false,cond_true];omega
theorem zv_diff {d e f:List Nat} {b:Bool} (hf:vl B f+vl B e=vl B d):zv f (b && !f.isEmpty)=zv d b+zv e (!b):=by
 cases b with
 | false=>simp only [zv,Bool.false_and,cond_false,Bool.not_false,cond_true];omega
 | true =>
  cases f with
  | nil=>simp only [vl] at hf;simp only [zv,Bool.true_and,List.isEmpty_nil,Bool.not_true,cond_false,cond_true,vl];omega
  | cons x l=>simp only [zv,Bool.true_and,List.isEmpty_cons,Bool.not_false,cond_true,Bool.not_true,cond_false];omega
theorem add_spec {k l:Nat} {va vb:V} {x y:Int} (ha:IsI k va x) (hb:IsI l vb y) (hk:k≤1000000) (hl:l≤1000000):Gives 25 [va,vb] fun r=>IsI (max k l+1) r (x+y):=by
 obtain ⟨d,b,⟨⟨s,rfl,hs⟩,dd,cd,h0⟩,rfl,hdl⟩:=ha
 obtain ⟨e,c,⟨⟨u,rfl,hu⟩,de,ce,he0⟩,rfl,hel⟩:=hb
 refine gives_of tbl25 fun h Q hQ=>?_
 unfold rc25
 refine sRG ?_
 refine ww_seq (ww_block ?_)
 have fin:∀ (s2:V) (f:List Nat) (g:Bool) (st:St),NI (.agg [s2,.bool g]) f g→zv f g=zv d b+zv e c→f.length≤max k l+1→gt st.tm 4=.ptr (.loc 4 1) 0→lg st.loc 4=(1,.cells false [s2,.bool g])→st.hp=⟨h.rows,none,h.mods⟩→Q st:=by
  intro s2 f g st hn hz hf h4 hr hh
  obtain ⟨⟨s3,e3,hs3⟩,q⟩:=hn
  obtain rfl:s2=s3:=by simpa using e3
  exact hQ _ _ (fin_cell (x:=s2) (y:=.bool g) (f:=false) (d:=4) (g:=1) (by kernel_rfl) h4 hr hs3.pl (Pl.bool _) (by rw [hh])) ⟨f,g,⟨⟨s2,rfl,hs3⟩,q⟩,hz.symm,hf⟩
 by_cases hbc:b=c
 ·subst hbc
  have eqb:bin Pg .eql 4 false (.bool b) (.bool b)=some (.bool true):=by rw [bin_eqb 4 false b b U4,beq_self_eq_true]
  refine ww_seq (ww_reg (fun n k=>by simp -implicitDefEqProofs (disch:=omega) only [go_sem,reduceIte,Nat.reduceEqDiff,gt_start,List.getD_cons_zero,List.getD_cons_succ,ldc_snd L4,eqb];rfl) ?_)
  refine ww_true sS ?_
  obtain ⟨p,hp,m,hm,dm,hvm,hlm⟩:=plus_spec hs hu dd de (by omega) (by omega) ⟨h.rows,none,h.mods⟩
  obtain ⟨r,hr,f,⟨⟨s2,rfl,hs2⟩,df,cf,hf0⟩,ht⟩:=made_spec hm dm (by omega) b ⟨h.rows,none,h.mods⟩
  have hlen:=ht.len
  refine ww_seq (ww_call (hp.and hr) (fun n hn k=>by
   simp -implicitDefEqProofs (disch:=omega) only [go_sem,reduceIte,Nat.reduceEqDiff,gt_start,List.getD_cons_zero,List.getD_cons_succ,ldc_fst L24,ldc_snd L4,cld2 hn.1 hs.ex hu.ex hs.quiet hu.quiet,cld2 hn.2 hm.ex (Ex1.bool _) hm.quiet rfl,stc_two N26 1 s2 (.bool (b && !f.isEmpty)) .nils (.bool false) _ hs2.pl.ok rfl]
   exact finD_ok (by kernel_rfl)) ?_)
  exact ww_ret (fin s2 f _ _ ⟨⟨s2,rfl,hs2⟩,df,cf,hf0⟩ (zv_same (by rw [ht.vl,hvm])) (by omega) sS sS rfl)
 ·have ec:c = !b:=by cases b<;>cases c<;>first | rfl | exact absurd rfl hbc
  have eqb:bin Pg .eql 4 false (.bool b) (.bool c)=some (.bool false):=by
   rw [bin_eqb 4 false b c U4,ec];cases b<;>rfl
  refine ww_seq (ww_reg (fun n k=>by simp -implicitDefEqProofs (disch:=omega) only [go_sem,reduceIte,Nat.reduceEqDiff,gt_start,List.getD_cons_zero,List.getD_cons_succ,ldc_snd L4,eqb];rfl) ?_)
  refine ww_false sS ?_
  obtain ⟨q,hq,rfl⟩:=compare_spec hs hu dd de cd ce (by omega) (by omega) ⟨h.rows,none,h.mods⟩
  rcases Nat.lt_or_ge (vl B d) (vl B e) with hlt | hge
  ·have hcmp:cmpI (vl B d) (vl B e)=.negSucc 0:=by unfold cmpI;rw [if_pos hlt]
   rw [hcmp] at hq
   refine ww_seq (ww_call (hq) (fun n hn k=>by simp -implicitDefEqProofs (disch:=omega) only [go_sem,reduceIte,Nat.reduceEqDiff,gt_start,List.getD_cons_zero,List.getD_cons_succ,ldc_fst L24,clc2 hn hs.ex hu.ex];rfl) ?_)
   refine ww_false sS (ww_skip ?_)
   have hle:d.length≤e.length:=by
    rcases Nat.lt_or_ge e.length d.length with h1 | h1
    ·have:=vl_lt_len (B:=B) (by decide) de cd h1;omega
    ·exact h1
   obtain ⟨p,hp,m,hm,dm,hvm,hlm⟩:=minus_spec hu hs de dd (by omega) hle (by omega) ⟨h.rows,none,h.mods⟩
   obtain ⟨r,hr,f,⟨⟨s2,rfl,hs2⟩,df,cf,hf0⟩,ht⟩:=made_spec hm dm (by omega) c ⟨h.rows,none,h.mods⟩
   have hlen:=ht.len
   refine ww_seq (ww_call (hp.and hr) (fun n hn k=>by
    simp -implicitDefEqProofs (disch:=omega) only [go_sem,reduceIte,Nat.reduceEqDiff,gt_start,List.getD_cons_zero,List.getD_cons_succ,ldc_fst L24,ldc_snd L4,cld2 hn.1 hu.ex hs.ex hu.quiet hs.quiet,cld2 hn.2 hm.ex (Ex1.bool _) hm.quiet rfl,stc_two N26 1 s2 (.bool (c && !f.isEmpty)) .nils (.bool false) _ hs2.pl.ok rfl]
    exact finD_ok (by kernel_rfl)) ?_)
   refine ww_ret (fin s2 f _ _ ⟨⟨s2,rfl,hs2⟩,df,cf,hf0⟩ ?_ (by omega) sS sS rfl)
   rw [zv_diff (d:=e) (e:=d) (by rw [ht.vl,hvm]),ec,Int.add_comm]
   cases b<;>rfl
  ·have hcmp:∃ n,cmpI (vl B d) (vl B e)=.ofNat n:=by unfold cmpI;rw [if_neg (by omega)];split<;>exact ⟨_,rfl⟩
   obtain ⟨n0,hcmp⟩:=hcmp
   rw [hcmp] at hq
   refine ww_seq (ww_call (hq) (fun n hn k=>by simp -implicitDefEqProofs (disch:=omega) only [go_sem,reduceIte,Nat.reduceEqDiff,gt_start,List.getD_cons_zero,List.getD_cons_succ,ldc_fst L24,clc2 hn hs.ex hu.ex,d_true];rfl) ?_)
   refine ww_true sS ?_
   have hle:e.length≤d.length:=by
    rcases Nat.lt_or_ge d.length e.length with h1 | h1
    ·have:=vl_lt_len (B:=B) (by decide) dd ce h1;omega
    ·exact h1
   obtain ⟨p,hp,m,hm,dm,hvm,hlm⟩:=minus_spec hs hu dd de (by omega) hle (by omega) ⟨h.rows,none,h.mods⟩
   obtain ⟨r,hr,f,⟨⟨s2,rfl,hs2⟩,df,cf,hf0⟩,ht⟩:=made_spec hm dm (by omega) b ⟨h.rows,none,h.mods⟩
   have hlen:=ht.len
   refine ww_seq (ww_call (hp.and hr) (fun n hn k=>by
    simp -implicitDefEqProofs (disch:=omega) only [go_sem,reduceIte,Nat.reduceEqDiff,gt_start,List.getD_cons_zero,List.getD_cons_succ,ldc_fst L24,ldc_snd L4,cld2 hn.1 hs.ex hu.ex hs.quiet hu.quiet,cld2 hn.2 hm.ex (Ex1.bool _) hm.quiet rfl,stc_two N26 1 s2 (.bool (b && !f.isEmpty)) .nils (.bool false) _ hs2.pl.ok rfl]
    exact finD_ok (by kernel_rfl)) ?_)
   refine ww_ret (fin s2 f _ _ ⟨⟨s2,rfl,hs2⟩,df,cf,hf0⟩ ?_ (by omega) sS sS rfl)
   rw [zv_diff (d:=d) (e:=e) (by rw [ht.vl,hvm]),ec]
end Go.AM.S
end
section
namespace Go.AM.S
open Go Go.AM Go.Proofs NumL
open _root_.Go.AM.G (R)
set_option maxRecDepth 100000
theorem IsI.form {k:Nat} {v:V} {x:Int} (h:IsI k v x):∃ s b,v=.agg [s,.bool b]∧Pl s∧Ex1 v∧quiet v=true:=by
 obtain ⟨d,b,hn,_,_⟩:=h
 have h1:=hn.ex;have h2:=hn.quiet
 obtain ⟨⟨s,rfl,hs⟩,_⟩:=hn
 exact ⟨s,b,rfl,hs.pl,h1,h2⟩
theorem sub_spec {k l:Nat} {va vb:V} {x y:Int} (ha:IsI k va x) (hb:IsI l vb y) (hk:k≤1000000) (hl:l≤1000000):Gives 27 [va,vb] fun r=>IsI (max k l+1) r (x - y):=by
 obtain ⟨s,b,rfl,ps,es,qs⟩:=ha.form
 obtain ⟨u,c,rfl,pu,eu,qu⟩:=hb.form
 refine gives_of tbl27 fun h Q hQ=>?_
 unfold rc27
 refine sRG ?_
 obtain ⟨p,hp,hpI⟩:=neg_spec hb hl ⟨h.rows,none,h.mods⟩
 obtain ⟨r,hr,hrI⟩:=add_spec ha hpI hk hl ⟨h.rows,none,h.mods⟩
 obtain ⟨s1,b1,rfl,ps1,es1,qs1⟩:=hpI.form
 obtain ⟨s2,b2,rfl,ps2,es2,qs2⟩:=hrI.form
 refine ww_seq (ww_call (hp.and hr) (fun n hn k=>by
  simp -implicitDefEqProofs (disch:=omega) only [go_sem,reduceIte,Nat.reduceEqDiff,gt_start,List.getD_cons_zero,List.getD_cons_succ,ldc_two L26,cld1 hn.1 eu qu,cld2 hn.2 es es1 qs qs1,stc_two N26 1 s2 (.bool b2) .nils (.bool false) _ ps2.ok rfl]
  exact finD_ok (by kernel_rfl)) ?_)
 exact ww_ret (hQ _ _ (fin_cell (x:=s2) (y:=.bool b2) (f:=false) (d:=4) (g:=1) (by kernel_rfl) sS sS ps2 (Pl.bool _) rfl) (by rw [Int.sub_eq_add_neg];exact hrI))
end Go.AM.S
end
section
namespace Go.AM.S
open Go Go.AM Go.Proofs NumL
open _root_.Go.AM.G (R)
set_option maxRecDepth 100000
theorem tbl29:tbl 29=some ⟨rc29,[.cell 4 26]⟩:=by kernel_rfl
theorem vl_set (B:Nat):∀ (l:List Nat) (i v:Nat),i<l.length→vl B (l.set i v)+B ^ i*l.getD i 0=vl B l+B ^ i*v:=by
 intro l
 induction l with
 | nil=>intro i v h;simp at h
 | cons x l ih =>
  intro i v h
  cases i with
  | zero=>simp only [List.set_cons_zero,vl,List.getD_cons_zero,Nat.pow_zero,Nat.one_mul];omega
  | succ i =>
   have:=ih i v (by simpa using h)
   simp only [List.set_cons_succ,vl,List.getD_cons_succ,Nat.pow_succ]
   have h2:B*(vl B (l.set i v)+B ^ i*l.getD i 0)=B*(vl B l+B ^ i*v):=by rw [this]
   simp only [Nat.mul_add] at h2
   rw [show B ^ i*B*l.getD i 0=B*(B ^ i*l.getD i 0) by rw [Nat.mul_comm (B ^ i) B,Nat.mul_assoc],show B ^ i*B*v=B*(B ^ i*v) by rw [Nat.mul_comm (B ^ i) B,Nat.mul_assoc]]
   omega
structure IMul (s u:V) (b c:Bool) (N:Nat) (h:Hp) (out:List Nat) (st:St):Prop where
 h2:gt st.tm 2=.ptr (.loc 2 1) 0
 h3:gt st.tm 3=.ptr (.loc 3 1) 0
 h4:gt st.tm 4=.ptr (.loc 4 1) 0
 h5:gt st.tm 5=.arr (.loc 18 1) 0 N (some N) 1 false
 l2:lg st.loc 2=(1,.cells false [s,.bool b])
 l3:lg st.loc 3=(1,.cells false [u,.bool c])
 l4:lg st.loc 4=(1,.cells false [.nils,.bool false])
 l18:lg st.loc 18=(1,.cells false (nl .u32 out))
 len:out.length=N
 dg:Dg B out
 hp:st.hp=h
theorem mul_step {B t0 v2 o o' n n' x y i k:Nat} (h1:v2+B ^ (i+k)*o=t0+B ^ (i+k)*o') (h2:n+(x*y+o)=o'+B*n') {q p:Nat} (h3:t0+B ^ (i+k)*n=q+B ^ i*(x*p)) :
  v2+B ^ (i+(k+1))*n'=q+B ^ i*(x*(p+B ^ k*y)):=by
 have e1:B ^ (i+k)*(n+(x*y+o))=B ^ (i+k)*(o'+B*n'):=by rw [h2]
 simp only [Nat.mul_add] at e1
 have e2:B ^ (i+(k+1))*n'=B ^ (i+k)*(B*n'):=by rw [←Nat.add_assoc,Nat.pow_succ,Nat.mul_assoc]
 have e3:B ^ i*(x*(p+B ^ k*y))=B ^ i*(x*p)+B ^ (i+k)*(x*y):=by
  rw [Nat.mul_add,Nat.mul_add,Nat.pow_add,Nat.mul_assoc]
  congr 1
  rw [←Nat.mul_assoc x,Nat.mul_comm x,Nat.mul_assoc]
 rw [e2,e3]
 omega
theorem getD_set_ne (l:List Nat) (i j v:Nat) (h:i≠j):(l.set i v).getD j 0=l.getD j 0:=by
 rw [List.getD_eq_getElem?_getD,List.getD_eq_getElem?_getD,List.getElem?_set_ne h]
theorem mul_bound {x y:Nat} (hx:x<4294967296) (hy:y<4294967296):x*y≤18446744065119617025:=by
 have:=Nat.mul_le_mul (show x≤4294967295 by omega) (show y≤4294967295 by omega)
 omega
theorem mul_spec {k l:Nat} {va vb:V} {x y:Int} (ha:IsI k va x) (hb:IsI l vb y) (hk:k≤1000000) (hl:l≤1000000):Gives 29 [va,vb] fun r=>IsI (k+l) r (x*y):=by
 obtain ⟨d,b,⟨⟨s,rfl,hs⟩,dd,cd,h0⟩,rfl,hdl⟩:=ha
 obtain ⟨e,c,⟨⟨u,rfl,hu⟩,de,ce,he0⟩,rfl,hel⟩:=hb
 refine gives_of tbl29 fun h Q hQ=>?_
 unfold rc29
 refine sRG ?_
 refine ww_seq (ww_reg (fun n k=>by simp -implicitDefEqProofs (disch:=omega) only [go_sem,reduceIte,Nat.reduceEqDiff,gt_start,List.getD_cons_zero,List.getD_cons_succ,ldc_fst L24,len_sl hs,len_sl hu];rfl) ?_)
 refine ww_seq (ww_seq (ww_reg (fun n k=>by simp -implicitDefEqProofs (disch:=omega) only [go_sem,reduceIte,Nat.reduceEqDiff,gt_start,List.getD_cons_zero,List.getD_cons_succ,ldc_fst L24,len_sl hs];rfl) ?_))
 refine ww_for (fun m st=>∃ i out,m+i=d.length∧IMul s u b c (d.length+e.length) ⟨h.rows,none,h.mods⟩ out st∧gt st.tm 20=s∧gt st.tm 21=.int .i64 (.ofNat d.length)∧gt st.tm 22=.int .i64 (.ofNat i)∧vl B out=vl B (d.take i)*vl B e∧∀ j,i+e.length≤j→out.getD j 0=0) d.length ⟨0,List.replicate (d.length+e.length) 0,rfl,⟨sS,sS,sS,sS,sS,sS,sS,sS,by simp,fun x hx=>by rw [List.eq_of_mem_replicate hx];decide,rfl⟩,sS,sS,sS,by rw [vl_zeros];simp [vl],fun j _=>by rw [List.getD_eq_getElem?_getD,List.getElem?_replicate];split<;>rfl⟩ ?_
 intro m st ⟨i,out,hm,H,h20,h21,h22,hv,hz⟩
 obtain ⟨h2,h3,h4,h5,l2,l3,l4,l18,hlen,hdg,hhp⟩:=H
 refine sR2 h21 h22 ?_
 refine ww_seq (ww_if (by simp only [gt_pt,reduceIte];rfl) (fun hi=>ww_skip ?_) (fun hi=>ww_exit ?_))
 ·have hx:d.getD i 0<4294967296:=dd.get (by decide) i
  refine ww_seq (ww_block ?_)
  refine ww_seq (ww_reg (fun n k=>by simp -implicitDefEqProofs (disch:=omega) only [go_sem,reduceIte,Nat.reduceEqDiff,h20,h22,ia24 hs];rfl) ?_)
  refine sR ?_
  refine ww_seq (ww_seq ?_)
  refine ww_reg (fun n k=>by simp -implicitDefEqProofs (disch:=omega) only [go_sem,reduceIte,Nat.reduceEqDiff,h3,l3,ldc_fst L24,len_sl hu];rfl) ?_
  refine ww_for (fun m2 s1=>∃ k o2 n,m2+k=e.length∧IMul s u b c (d.length+e.length) ⟨h.rows,none,h.mods⟩ o2 s1∧gt s1.tm 20=s∧gt s1.tm 21=.int .i64 (.ofNat d.length)∧gt s1.tm 22=.int .i64 (.ofNat i)∧gt s1.tm 6=.int .i64 (.ofNat i)∧gt s1.tm 7=.int .u32 (.ofNat (d.getD i 0))∧gt s1.tm 8=.int .u64 (.ofNat n)∧gt s1.tm 28=u∧gt s1.tm 29=.int .i64 (.ofNat e.length)∧gt s1.tm 30=.int .i64 (.ofNat k)∧n<4294967296∧vl B o2+B ^ (i+k)*n=vl B out+B ^ i*(d.getD i 0*vl B (e.take k))∧∀ j,i+e.length≤j→o2.getD j 0=0) e.length ⟨0,out,0,rfl,⟨(sS1 h2),(sS1 h3),(sS1 h4),(sS1 h5),(sS1 l2),(sS1 l3),(sS1 l4),(sS1 l18),hlen,hdg,hhp⟩,(sS1 h20),(sS1 h21),(sS1 h22),sS,sS,sS,sS,sS,sS,by decide,by simp [vl],hz⟩ ?_
  intro m2 s1 ⟨k,o2,n,hm2,H2,j20,j21,j22,j6,j7,j8,j28,j29,j30,hn,hv2,hz2⟩
  obtain ⟨i2,i3,i4,i5,k2,k3,k4,k18,hlen2,hdg2,hhp2⟩:=H2
  refine sR2 j29 j30 ?_
  refine ww_seq (ww_if (by simp only [gt_pt,reduceIte];rfl) (fun hk2=>ww_skip ?_) (fun hk2=>ww_exit ?_))
  ·have hy:e.getD k 0<4294967296:=de.get (by decide) k
   have ho:o2.getD (i+k) 0<4294967296:=hdg2.get (by decide) _
   have hxy:=mul_bound hx hy
   refine ww_seq (ww_block ?_)
   refine ww_seq (ww_reg (fun n k=>by simp -implicitDefEqProofs (disch:=omega) only [go_sem,reduceIte,Nat.reduceEqDiff,j28,j30,ia24 hu];rfl) ?_)
   refine ww_seq (ww_reg (fun n k=>by simp -implicitDefEqProofs (disch:=omega) only [go_sem,reduceIte,Nat.reduceEqDiff,j6,j7,j8,i5,k18];rfl) ?_)
   refine ww_seq (ww_reg (fun n k=>by simp -implicitDefEqProofs (disch:=omega) only [go_sem,reduceIte,Nat.reduceEqDiff,j6,i5,k18,wrap_u32_mod];rfl) ?_)
   refine ww_reg (fun n k=>by simp -implicitDefEqProofs (disch:=omega) only [go_sem,reduceIte,Nat.reduceEqDiff,Nat.reducePow];rfl) ?_
   refine sE1 j30 ?_
   refine ⟨m2 - 1,by omega,k+1,o2.set (i+k) ((n+(d.getD i 0*e.getD k 0+o2.getD (i+k) 0)) % 4294967296),(n+(d.getD i 0*e.getD k 0+o2.getD (i+k) 0)) / 4294967296,by omega,⟨(sS1 i2),(sS1 i3),(sS1 i4),(sS1 i5),(sS1 k2),(sS1 k3),(sS1 k4),sS,by simp [hlen2],hdg2.set _ (Nat.mod_lt _ (by decide)),hhp2⟩,(sS1 j20),(sS1 j21),(sS1 j22),(sS1 j6),(sS1 j7),sS,(sS1 j28),(sS1 j29),sS,by omega,?_,fun j hj=>by rw [getD_set_ne _ _ _ _ (by omega)];exact hz2 j hj⟩
   rw [vl_take_next]
   exact mul_step (vl_set B o2 (i+k) _ (by omega)) (by show n+(d.getD i 0*e.getD k 0+o2.getD (i+k) 0)=(n+(d.getD i 0*e.getD k 0+o2.getD (i+k) 0)) % 4294967296+4294967296*((n+(d.getD i 0*e.getD k 0+o2.getD (i+k) 0)) / 4294967296);omega) hv2
  ·rw [if_pos rfl]
   refine ww_reg (fun n k=>by simp -implicitDefEqProofs (disch:=omega) only [go_sem,reduceIte,Nat.reduceEqDiff,i3,k3,i5,k18,j6,j8,ldc_fst L24,len_sl hu];rfl) ?_
   refine sE1 j22 ?_
   have ek:k=e.length:=by omega
   refine ⟨m - 1,by omega,i+1,o2.set (i+e.length) n,by omega,⟨(sS1 i2),(sS1 i3),(sS1 i4),(sS1 i5),(sS1 k2),(sS1 k3),(sS1 k4),sS,by simp [hlen2],hdg2.set _ hn,hhp2⟩,(sS1 j20),(sS1 j21),sS,?_,fun j hj=>by rw [getD_set_ne _ _ _ _ (by omega)];exact hz2 j (by omega)⟩
   have e1:=vl_set B o2 (i+e.length) n (by omega)
   rw [hz2 (i+e.length) (Nat.le_refl _),Nat.mul_zero,Nat.add_zero] at e1
   rw [e1,vl_take_next,Nat.add_mul,←hv,Nat.mul_assoc]
   subst ek
   rw [List.take_length] at hv2
   exact hv2
 ·rw [if_pos rfl]
  have hid:i=d.length:=by omega
  subst hid
  rw [List.take_length] at hv
  obtain ⟨r,hr,f,⟨⟨s2,rfl,hs2⟩,df,cf,hf0⟩,ht⟩:=made_spec (a:=out) (.inl ⟨false,rfl⟩) hdg (by omega) (!(b == c)) ⟨h.rows,none,h.mods⟩
  have hlen3:=ht.len
  refine ww_seq (ww_call (hr) (fun n hn k=>by simp -implicitDefEqProofs (disch:=omega) only [go_sem,reduceIte,Nat.reduceEqDiff,h2,h3,h4,h5,l2,l3,l4,hhp,ldc_snd L4,bin_neb 4 false b c U4,cl_arr2 hlen.symm l18 hn (Ex1.bool _),stc_two N26 1 s2 (.bool (!(b == c) && !f.isEmpty)) .nils (.bool false) _ hs2.pl.ok rfl];rfl) ?_)
  refine ww_ret (hQ _ _ (fin_cell (x:=s2) (y:=.bool (!(b == c) && !f.isEmpty)) (f:=false) (d:=4) (g:=1) (by kernel_rfl) (sS1 h4) sS hs2.pl (Pl.bool _) rfl) ⟨f,_,⟨⟨s2,rfl,hs2⟩,df,cf,hf0⟩,?_,by omega⟩)
  have e3:=ht.vl B
  rw [hv] at e3
  have e4:(vl B f:Int)=(vl B d:Int)*(vl B e:Int):=by rw [e3];simp
  cases f with
  | nil =>
   have e5:(vl B d:Int)*(vl B e:Int)=0:=by rw [←e4];rfl
   cases b<;>cases c<;>simp only [zv,vl,cond_true,cond_false,Int.neg_mul,Int.mul_neg,Int.neg_neg,e5]<;>rfl
  | cons x0 l0=>cases b<;>cases c<;>simp only [zv,cond_true,cond_false,Int.neg_mul,Int.mul_neg,Int.neg_neg,e4]<;>simp [e4]
end Go.AM.S
end
section
namespace Go.AM.S
open Go Go.AM Go.Proofs NumL
open _root_.Go.AM.G (R)
set_option maxRecDepth 100000
theorem tbl68:tbl 68=some ⟨rc68,[.tmp 2]⟩:=by kernel_rfl
theorem n68_3_0 (c:CallF) (t' t:Tm) (l:Lo) (h:Hp) (j:V→Lo→Hp→R):gn Try.f68 68 3 0 c t' t l h j=j (.arr (.loc 5 ((lg l 5).1+1)) 0 0 (some 0) 1 false) (lp l 5 ((lg l 5).1+1,.cells false [])) h :=
 gen_empty (C:=Cg) (gl:=Cg.glob 68) (call:=c) (o:=opA Try.f68 3 0) (d:=5) (t:=24) (e:=86) (by kernel_rfl) (by kernel_rfl) (by kernel_rfl) (by kernel_rfl) (by kernel_rfl) (by kernel_rfl) (show zeroV Pg 86=some (.int .u32 (.ofNat 0)) by kernel_rfl) rfl rfl
theorem c68_3_2 {loc:Lo} {hp:Hp} {ys:List Nat} {w:V} {g:Nat} (hs:lg loc 5=(g,.cells false [])) (hit:∀ tm,itemsOf ⟨tm,loc,hp⟩ w=some (nl .u32 ys)) (hys:ys≠[]) (hn:ys.length≤1000000000) (call:CallF) (tm:Tm) (j:V→Lo→Hp→R) :
  go2 Try.f68 68 3 2 5 6 (.arr (.loc 5 g) 0 0 (some 0) 1 false) w call tm loc hp j=j (.arr (.glob hp.rows.length) 0 ys.length none 1 false) loc (hadd hp (.cells false (nl .u32 ys))) :=
 gen_clone (C:=Cg) (gl:=Cg.glob 68) (e:=86) (b:=4) i68_3_2 (by kernel_rfl) (by kernel_rfl) (by kernel_rfl) (by kernel_rfl) (by kernel_rfl) (by decide) hs hit hys (by omega) call tm j
theorem ne_nil {v:V} (h:v≠.nils) (hv:(∃ k d,Sl k v d)∨∃ r o n li,v=.arr r o n li 1 false) (cn:Bool):bin Pg .eql 24 cn v .nils=some (.bool false):=by
 have hu:Pg.underlying 24=some (.slice 86):=U24
 rcases hv with ⟨k,d,⟨f,rfl⟩ | ⟨rfl,_⟩⟩ | ⟨r,o,n,li,rfl⟩
 ·show F.eqV .eql (Pg.underlying 24) cn (.slice none f 1 (nl k d)) .nils=_
  rw [hu];rfl
 ·exact absurd rfl h
 ·show F.eqV .eql (Pg.underlying 24) cn (.arr r o n li 1 false) .nils=_
  rw [hu];rfl
theorem clone_runs {va:V} {ys:List Nat} (h:Hp) (hne:va≠.nils) (hv:(∃ k d,Sl k va d)∨∃ r o n li,va=.arr r o n li 1 false) (hys:ys≠[]) (hn:ys.length≤1000000000)
  (hit:∀ (tm:Tm) (loc:Lo),itemsOf ⟨tm,loc,⟨h.rows,none,h.mods⟩⟩ va=some (nl .u32 ys)) :
  Runs Pg kn0 tbl 68 [va] h (.val (.arr (.glob h.rows.length) 0 ys.length none 1 false) (hadd h (.cells false (nl .u32 ys)))):=by
 suffices hw:WW Pg kn0 tbl rc68 ⟨startTm [va],.lf,⟨h.rows,none,h.mods⟩⟩ (fun s=>∃ o,fin Pg h [.tmp 2] s=some o∧o=.val (.arr (.glob h.rows.length) 0 ys.length none 1 false) (hadd h (.cells false (nl .u32 ys)))) (fun _ _=>False) (fun s=>∃ o,fin Pg h [.tmp 2] s=some o∧o=.val (.arr (.glob h.rows.length) 0 ys.length none 1 false) (hadd h (.cells false (nl .u32 ys)))) by
  obtain ⟨o,h1,h2⟩:=runs_ex (kn:=kn0) (h:=h) rfl tbl68 hw
  subst h2
  exact h1
 unfold rc68
 refine sR ?_
 refine ww_seq (ww_seq (ww_reg (fun n k=>by simp -implicitDefEqProofs (disch:=omega) only [go_sem,reduceIte,Nat.reduceEqDiff,gt_start,List.getD_cons_zero,List.getD_cons_succ,ne_nil hne hv];rfl) ?_))
 refine ww_false sS (ww_skip ?_)
 refine ww_seq (ww_reg (fun n k=>by simp -implicitDefEqProofs (disch:=omega) only [go_sem,reduceIte,Nat.reduceEqDiff,gt_start,List.getD_cons_zero,List.getD_cons_succ,n68_3_0,c68_3_2 (loc:=lp .lf 5 (1,.cells false [])) (g:=1) (by rw [lg_lp,if_pos rfl]) (fun tm=>hit tm _) hys hn];rfl) ?_)
 refine ww_ret ⟨_,?_,rfl⟩
 unfold fin
 simp only [resV,rho_gt,Option.map_some]
 rw [show ∀ t,gt (pt t 2 (.arr (.glob h.rows.length) 0 ys.length none 1 false)) 2=.arr (.glob h.rows.length) 0 ys.length none 1 false from fun t=>sS]
 rfl
end Go.AM.S
end
section
namespace Go.AM.S
open Go Go.AM Go.Proofs NumL
open _root_.Go.AM.G (R)
set_option maxRecDepth 100000
theorem tbl64:tbl 64=some ⟨rc64,[.tmp 6]⟩:=by kernel_rfl
theorem take_set_lt (l:List Nat) (i v:Nat):(l.set i v).take i=l.take i:=by
 rw [List.take_set]
 exact List.set_eq_of_length_le (by simp;omega)
theorem getD_set_eq (l:List Nat) (i v:Nat) (h:i<l.length):(l.set i v).getD i 0=v:=by
 rw [List.getD_eq_getElem?_getD,List.getElem?_set_self h];rfl
structure HG (n:Nat) (h:Hp) (v:V) (l:Nat) (s:Hp):Prop where
 len:h.rows.length≤s.rows.length
 same:∀ i,i<h.rows.length→v≠.arr (.glob i) 0 l none 1 false→s.rows[i]? = h.rows[i]?
 dg:DG n s
theorem nth_rows {h:Hp} {r:Nat} {row:Row} (hr:h.rows[r]? = some row):F.nthR h.rows r=some row:=by rw [F.nthR_eq];exact hr
theorem len_gr {h:Hp} {v:V} {k:IntKind} {d:List Nat} (hv:Gr h v k d) (e:TypeId):len (some (.slice e)) v=some (.int .i64 (.ofNat d.length)):=by
 rcases hv with ⟨rfl,rfl⟩ | ⟨_,r,rfl,_⟩
 ·exact len_nils e
 ·rfl
theorem grown_runs {n:Nat} {h:Hp} {v:V} {d:List Nat} (T M:Nat) (hv:Gr h v .u32 d) (dd:Dg B d) (hl:d.length≤1000000) (hT:T<4294967296) (hM:M<4294967296) (hn:DG n h) (hvn:∀ r,v=.arr (.glob r) 0 d.length none 1 false→n≤r) (hlen:n≤h.rows.length) :
  ∃ v' h' d',Runs Pg kn0 tbl 64 [v,.int .u64 (.ofNat T),.int .u64 (.ofNat M)] h (.val v' h')∧Gr h' v' .u32 d'∧Dg B d'∧vl B d'=vl B d*T+M∧d'.length≤d.length+1∧HG n h v d.length h'∧(∀ r,v'=.arr (.glob r) 0 d'.length none 1 false→n≤r)∧d.length≤d'.length:=by
 let Post:Out→Prop:=fun o=>∃ v' h' d',o=.val v' h'∧Gr h' v' .u32 d'∧Dg B d'∧vl B d'=vl B d*T+M∧d'.length≤d.length+1∧HG n h v d.length h'∧(∀ r,v'=.arr (.glob r) 0 d'.length none 1 false→n≤r)∧d.length≤d'.length
 suffices hw:WW Pg kn0 tbl rc64 ⟨startTm [v,.int .u64 (.ofNat T),.int .u64 (.ofNat M)],.lf,⟨h.rows,none,h.mods⟩⟩ (fun s=>∃ o,fin Pg h [.tmp 6] s=some o∧Post o) (fun _ _=>False) (fun s=>∃ o,fin Pg h [.tmp 6] s=some o∧Post o) by
  obtain ⟨o,h1,v',h',d',rfl,h2⟩:=runs_ex (kn:=kn0) (h:=h) rfl tbl64 hw
  exact ⟨v',h',d',h1,h2⟩
 have fin1:∀ (s:St) (v':V) (d':List Nat),gt s.tm 6=v'→Gr s.hp v' .u32 d'→Dg B d'→vl B d'=vl B d*T+M→d'.length≤d.length+1→HG n h v d.length s.hp→(∀ r,v'=.arr (.glob r) 0 d'.length none 1 false→n≤r)→d.length≤d'.length→(v'=.nils→s.hp.dirty=none)→∃ o,fin Pg h [.tmp 6] s=some o∧Post o:=by
  intro s v' d' h6 hg' hd' hvl hlen' hH hvn' hle' hnil
  have hr6:resV Pg s [.tmp 6]=some [v']:=by simp only [resV,rho_gt,h6,Option.map_some]
  rcases hg' with ⟨rfl,rfl⟩ | ⟨hd0,r,rfl,hrow⟩
  ·refine ⟨.val .nils h,?_,.nils,h,[],rfl,.inl ⟨rfl,rfl⟩,hd',hvl,by simp,⟨Nat.le_refl _,fun _ _ _=>rfl,hn⟩,(fun r e=>by cases e),hle'⟩
   unfold fin
   rw [hr6]
   show some (Out.val .nils (backHp h s.hp [.nils]))=_
   rw [back_id h s.hp [.nils] (hnil rfl) rfl]
  ·refine ⟨.val (.arr (.glob r) 0 d'.length none 1 false) (backHp h s.hp [.arr (.glob r) 0 d'.length none 1 false]),?_,_,_,d',rfl,.inr ⟨hd0,r,rfl,?_⟩,hd',hvl,hlen',⟨?_,?_,hn.back hH.dg _⟩,hvn',hle'⟩
   ·unfold fin
    rw [hr6];rfl
   ·rw [back_rows rfl];exact hrow
   ·rw [back_rows rfl];exact hH.len
   ·rw [back_rows rfl];exact hH.same
 unfold rc64
 refine sR ?_
 refine ww_seq (ww_seq (ww_reg (fun n k=>by simp -implicitDefEqProofs (disch:=omega) only [go_sem,reduceIte,Nat.reduceEqDiff,gt_start,List.getD_cons_zero,List.getD_cons_succ,len_gr hv];rfl) ?_))
 refine ww_mono (N:=fun s=>∃ cur c,gt s.tm 0=v∧gt s.tm 2=.int .u64 (.ofNat c)∧Gr s.hp v .u32 cur∧cur.length=d.length∧Dg B cur∧c<4294967296∧vl B cur+B ^ d.length*c=vl B d*T+M∧HG n h v d.length s.hp∧s.hp.rows.length=h.rows.length∧(d=[]→s.hp.dirty=none)) (X:=fun _ _=>False) (Q:=fun _=>False) ?_ ?_ (fun _ _ h=>h.elim) (fun _ h=>h.elim)
 ·refine ww_for (fun m s=>∃ i cur c,m+i=d.length∧gt s.tm 0=v∧gt s.tm 1=.int .u64 (.ofNat T)∧gt s.tm 2=.int .u64 (.ofNat c)∧gt s.tm 9=v∧gt s.tm 10=.int .i64 (.ofNat d.length)∧gt s.tm 11=.int .i64 (.ofNat i)∧Gr s.hp v .u32 cur∧cur.length=d.length∧Dg B cur∧c<4294967296∧vl B (cur.take i)+B ^ i*c=vl B (d.take i)*T+M∧(∀ j,i≤j→cur.getD j 0=d.getD j 0)∧HG n h v d.length s.hp∧s.hp.rows.length=h.rows.length∧(d=[]→s.hp.dirty=none)) d.length ⟨0,d,M,rfl,sSG,sSG,sSG,sSG,sSG,sS,hv,rfl,dd,hM,by simp [vl],fun _ _=>rfl,⟨Nat.le_refl _,fun _ _ _=>rfl,fun x hx=>by cases hx⟩,rfl,fun _=>rfl⟩ ?_
  intro m s ⟨i,cur,c,hm,h0,h1,h2,h9,h10,h11,hg,hcl,hcd,hc,hvl,hrest,hH,hrl,hnil⟩
  refine sR2 h10 h11 ?_
  refine ww_seq (ww_if (by simp only [gt_pt,reduceIte];rfl) (fun hi=>ww_skip ?_) (fun hi=>ww_exit ?_))
  ·rcases hg with ⟨hcur,_⟩ | ⟨hc0,r,rfl,hrow⟩
   ·exfalso;rw [hcur] at hcl;simp at hcl;omega
   have hnr:=hvn r (by rw [hcl])
   have hx:cur.getD i 0<4294967296:=hcd.get (by decide) i
   have hxT:=mul_bound hx hT
   refine ww_seq (ww_block ?_)
   refine ww_seq (ww_reg (fun n k=>by simp -implicitDefEqProofs (disch:=omega) only [go_sem,reduceIte,Nat.reduceEqDiff,h9,h11,nth_rows hrow,ldg_nl L86];rfl) ?_)
   refine sR2 h1 h2 ?_
   refine ww_seq (ww_reg (fun n k=>by simp -implicitDefEqProofs (disch:=omega) only [go_sem,reduceIte,Nat.reduceEqDiff,h0,nth_rows hrow,wrap_u32_mod,w64_5_5 hrow];rfl) ?_)
   refine ww_reg (fun n k=>by simp -implicitDefEqProofs (disch:=omega) only [go_sem,reduceIte,Nat.reduceEqDiff,Nat.reducePow];rfl) ?_
   refine sE1 h11 ?_
   refine ⟨m - 1,by omega,i+1,cur.set i ((c+cur.getD i 0*T) % 4294967296),(c+cur.getD i 0*T) / 4294967296,by omega,(sS1 h0),(sS1 h1),sS,(sS1 h9),(sS1 h10),sS,.inr ⟨fun e=>hc0 ((List.set_eq_nil_iff _ _).1 e),r,by simp,hset_at _ hrow⟩,by simp [hcl],hcd.set _ (Nat.mod_lt _ (by decide)),by omega,?_,fun j hj=>by rw [getD_set_ne _ _ _ _ (by omega)];exact hrest j (by omega),⟨by rw [hset_len];exact hH.len,fun j hj hne=>by rw [hset_ne _ (fun e=>hne (by rw [e,hcl]))];exact hH.same j hj hne,hH.dg.set hnr _⟩,by rw [hset_len];exact hrl,fun e=>by subst e;simp at hi⟩
   rw [vl_take_next,vl_take_next,take_set_lt,getD_set_eq _ _ _ (by omega),←hrest i (Nat.le_refl _),Nat.pow_succ,Nat.mul_assoc,Nat.add_mul,Nat.mul_assoc]
   have e1:B ^ i*(c+cur.getD i 0*T)=B ^ i*((c+cur.getD i 0*T) % 4294967296+4294967296*((c+cur.getD i 0*T) / 4294967296)):=by rw [Nat.mod_add_div]
   simp only [Nat.mul_add] at e1
   have e2:B ^ i*(B*((c+cur.getD i 0*T) / 4294967296))=B ^ i*(4294967296*((c+cur.getD i 0*T) / 4294967296)):=rfl
   omega
  ·rw [if_pos rfl]
   have ei:i=d.length:=by omega
   subst ei
   rw [List.take_length] at hvl
   rw [List.take_of_length_le (by omega)] at hvl
   exact ⟨cur,c,(sS1 h0),(sS1 h2),hg,hcl,hcd,hc,hvl,hH,hrl,hnil⟩
 ·intro s ⟨cur,c,h0,h2,hg,hcl,hcd,hc,hvl,hH,hrl,hnil⟩
  refine sQ1 h2 ?_
  refine ww_if (by simp only [gt_pt,reduceIte];rfl) (fun hc0=>?_) (fun hc0=>ww_skip ?_)
  ·obtain ⟨h',happ,hrow',hlen',hsame',hform⟩:=a64_9_4 (loc:=lp s.loc 35 ((lg s.loc 35).1+1,.cells false (nl .u32 [c]))) (w:=.arr (.loc 35 ((lg s.loc 35).1+1)) 0 1 (some 1) 1 false) (ys:=[c]) hg (fun tm=>getRow_arr (ys:=[c]) (by rw [lg_lp,if_pos rfl])) (by simp) (by simp;omega)
   have hdg':DG n h':=by
    rcases hform with rfl | ⟨r,hr,rfl⟩
    ·exact hH.dg
    ·exact DG.add (hH.dg.set (hvn r (by rw [hr,hcl])) .gone) (.cells false (nl .u32 (cur++[c])))
   refine sE3 h0 h2 happ ?_
   refine sR ?_
   refine ww_ret (fin1 _ (.arr (.glob s.hp.rows.length) 0 (cur++[c]).length none 1 false) (cur++[c]) (by simp -implicitDefEqProofs (disch:=omega) only [go_sem,reduceIte,Nat.reduceEqDiff,List.length_append,List.length_cons,List.length_nil]) (.inr ⟨by simp,_,rfl,hrow'⟩) (hcd.snoc hc) ?_ (by simp;omega) ⟨by rw [hlen'];have:=hH.len;omega,fun j hj hne=>?_,hdg'⟩ (fun r e=>?_) (by simp;omega) (fun e=>by cases e))
   ·rw [vl_append,vl_one,hcl];exact hvl
   ·rw [hsame' j (by have:=hH.len;omega) (by rw [hcl];exact hne)]
    exact hH.same j hj hne
   ·have:s.hp.rows.length=r:=by cases e;rfl
    omega
  ·have ec:c=0:=by omega
   subst ec
   refine sR1 h0 ?_
   refine ww_ret (fin1 _ v cur sS hg hcd (by simpa using hvl) (by omega) hH (fun r e=>hvn r (by rw [e,hcl])) (by omega) (fun e=>hnil ?_))
   rcases hg with ⟨hcur,_⟩ | ⟨_,r,hr,_⟩
   ·rw [hcur] at hcl;exact List.length_eq_zero_iff.1 hcl.symm
   ·rw [hr] at e;cases e
end Go.AM.S
end
section
namespace Go.AM.S
open Go Go.AM Go.Proofs NumL
open _root_.Go.AM.G (R)
set_option maxRecDepth 100000
theorem made_glob {n:Nat} {h:Hp} {r0:Nat} {a:List Nat} (hr:h.rows[r0]? = some (.cells false (nl .u32 a))) (da:Dg B a) (la:a.length≤1000000000) (ng:Bool) (hn:DG n h) (hnr:n≤r0) :
  ∃ r h' d,Runs Pg kn0 tbl 65 [.arr (.glob r0) 0 a.length none 1 false,.bool ng] h (.val r h')∧NI r d (ng && !d.isEmpty)∧Tr0 a d∧HG n h (.arr (.glob r0) 0 a.length none 1 false) a.length h'∧h'.rows.length=h.rows.length:=by
 let Post:Out→Prop:=fun o=>∃ r h' d,o=.val r h'∧NI r d (ng && !d.isEmpty)∧Tr0 a d∧HG n h (.arr (.glob r0) 0 a.length none 1 false) a.length h'∧h'.rows.length=h.rows.length
 suffices hw:WW Pg kn0 tbl rc65 ⟨startTm [.arr (.glob r0) 0 a.length none 1 false,.bool ng],.lf,⟨h.rows,none,h.mods⟩⟩ (fun s=>∃ o,fin Pg h [.cell 4 26] s=some o∧Post o) (fun _ _=>False) (fun s=>∃ o,fin Pg h [.cell 4 26] s=some o∧Post o) by
  obtain ⟨o,h1,r,h',d,rfl,h2⟩:=runs_ex (kn:=kn0) (h:=h) rfl tbl65 hw
  exact ⟨r,h',d,h1,h2⟩
 unfold rc65
 refine sR ?_
 refine ww_seq (ww_for (fun m s=>∃ d,m=d.length∧gt s.tm 0=.arr (.glob r0) 0 d.length none 1 false∧Tr0 a d∧gt s.tm 1=.bool ng∧gt s.tm 4=.ptr (.loc 4 1) 0∧lg s.loc 4=(1,.cells false [.nils,.bool false])∧s.hp=⟨h.rows,none,h.mods⟩) a.length ⟨a,rfl,sSG,Tr0.refl a,sSG,sS,sS,rfl⟩ ?_)
 intro m s ⟨d,hm,h0,ht,h1,h4,hl4,hhp⟩
 have hln:=ht.len
 have hrr:s.hp.rows[r0]? = some (.cells false (nl .u32 a)):=by rw [hhp];exact hr
 have htake:a.take d.length=d:=by obtain ⟨q,rfl⟩:=ht;simp
 have hget:∀ i,i<d.length→a.getD i 0=d.getD i 0:=by
  intro i hi
  obtain ⟨q,rfl⟩:=ht
  rw [List.getD_eq_getElem?_getD,List.getD_eq_getElem?_getD,List.getElem?_append_left hi]
 have stop:Cn d→WW Pg kn0 tbl (.seq (.reg fun c t l h k=>jn (fun v0 l0 h0=>jn (fun v1 l1 h1=>jn (fun v2 l2 h2=>bO (pick (g1 t) v2 (.bool false)) fun v3=>gn Try.f65 65 3 7 c (p28 (p22 t (g0 t)) v3) t l2 h2 (fun v4 l4 h4=>jn (fun v5 l5 h5=>k t l5 h5) fun j5=>sto 26 (g4 t) v4 l4 h4 j5 (gn Try.f65 65 3 8 c (p29 (p4 t (g4 t)) v4) t l4 h4 j5))) fun j2=>brB (wv (g1 t) true) (j2 (.tuple []) l1 h1) (bO (bin Pg .gtr 3 true v1 (I 0)) fun v3=>j2 v3 l1 h1)) fun j1=>brB (wv (g1 t) true) (j1 (.tuple []) l0 h0) (bO (len (Pg.underlying 24) v0) fun v2=>j1 v2 l0 h0)) fun j0=>brB (wv (g1 t) true) (j0 (.tuple []) l h) (j0 (g0 t) l h))
 .ret) ⟨pt s.tm 16 (.bool false),s.loc,s.hp⟩ (fun s=>∃ o,fin Pg h [.cell 4 26] s=some o∧Post o) (fun _ _=>False) (fun s=>∃ o,fin Pg h [.cell 4 26] s=some o∧Post o):=by
  intro hcn
  have hsl:Sl .u32 (.slice none false 1 (nl .u32 (a.take d.length))) d:=.inl ⟨false,by rw [htake]⟩
  have key:∀ b:Bool,b=(ng && !d.isEmpty)→∃ o,fin Pg h [.cell 4 26] ⟨pt s.tm 16 (.bool false),lp s.loc 4 (1,.cells false [.slice none false 1 (nl .u32 (a.take d.length)),.bool b]),hset s.hp r0 (.cells true (nl .u32 a))⟩ = some o∧Post o:=by
   intro b hb
   refine ⟨_,fin_cellH (x:=.slice none false 1 (nl .u32 (a.take d.length))) (y:=.bool b) (f:=false) (d:=4) (g:=1) (by kernel_rfl) (sS1 h4) sS hsl.pl (Pl.bool _),_,_,d,rfl,?_,ht,?_,?_⟩
   ·subst hb
    exact ⟨⟨_,rfl,hsl⟩,ht.dg da,hcn,fun e=>by subst e;simp⟩
   ·have hc:(hset s.hp r0 (.cells true (nl .u32 a))).rows.length=h.rows.length:=by rw [hset_len,hhp]
    have hd2:DG n (hset s.hp r0 (.cells true (nl .u32 a))):=DG.set (n:=n) (h:=s.hp) (by rw [hhp];exact fun x hx=>by cases hx) hnr _
    refine ⟨?_,?_,hn.back hd2 _⟩
    ·unfold backHp
     cases cleanB h (hset s.hp r0 (.cells true (nl .u32 a))) with
     | true=>cases V.noRefsL [.agg [.slice none false 1 (nl .u32 (a.take d.length)),.bool b]] with
      | true=>exact Nat.le_refl _
      | false=>exact Nat.le_of_eq hc.symm
     | false=>exact Nat.le_of_eq hc.symm
    ·intro i hi hne
     have e1:(hset s.hp r0 (.cells true (nl .u32 a))).rows[i]? = h.rows[i]?:=by
      rw [hset_ne _ (fun e=>hne (by rw [e])),hhp]
     unfold backHp
     cases cleanB h (hset s.hp r0 (.cells true (nl .u32 a))) with
     | true=>cases V.noRefsL [.agg [.slice none false 1 (nl .u32 (a.take d.length)),.bool b]] with
      | true=>rfl
      | false=>exact e1
     | false=>exact e1
   ·have hc:(hset s.hp r0 (.cells true (nl .u32 a))).rows.length=h.rows.length:=by rw [hset_len,hhp]
    unfold backHp
    cases cleanB h (hset s.hp r0 (.cells true (nl .u32 a))) with
    | true=>cases V.noRefsL [.agg [.slice none false 1 (nl .u32 (a.take d.length)),.bool b]] with
     | true=>rfl
     | false=>exact hc
    | false=>exact hc
  cases ng with
  | false =>
   refine ww_seq (ww_reg (fun n k=>by simp -implicitDefEqProofs (disch:=omega) only [go_sem,reduceIte,Nat.reduceEqDiff,h0,h1,h4,hl4,bb65_3_7 hrr hln (Pl.bool false),stc_two N26 1 (.slice none false 1 (nl .u32 (a.take d.length))) (.bool false) .nils (.bool false) _ rfl rfl];rfl) ?_)
   exact ww_ret (key false (by simp))
  | true =>
   refine ww_seq (ww_reg (fun n k=>by simp -implicitDefEqProofs (disch:=omega) only [go_sem,reduceIte,Nat.reduceEqDiff,h0,h1,h4,hl4,bb65_3_7 hrr hln (Pl.bool (decide (0<d.length))),stc_two N26 1 (.slice none false 1 (nl .u32 (a.take d.length))) (.bool (decide (0<d.length))) .nils (.bool false) _ rfl rfl];rfl) ?_)
   refine ww_ret (key _ ?_)
   cases d with
   | nil=>rfl
   | cons x l=>simp
 rcases Nat.eq_zero_or_pos d.length with hd | hd
 ·refine ww_seq (ww_seq (ww_reg (fun n k=>by simp -implicitDefEqProofs (disch:=omega) only [go_sem,reduceIte,Nat.reduceEqDiff,h0,d_false];rfl) ?_))
  refine ww_false sS (ww_exit ?_)
  rw [if_pos rfl]
  exact stop (fun i hi=>by omega)
 ·have hx:d.getD (d.length - 1) 0<4294967296:=(ht.dg da).get (by decide) _
  have hg1:=hget (d.length - 1) (by omega)
  by_cases hz:d.getD (d.length - 1) 0=0
  ·refine ww_seq (ww_seq (ww_reg (fun n k=>by simp -implicitDefEqProofs (disch:=omega) only [go_sem,reduceIte,Nat.reduceEqDiff,h0,d_true,nth_rows hrr,ldg_nl L86,hg1,hz];rfl) ?_))
   refine ww_true sS (ww_skip (ww_block ?_))
   refine sE1 h0 ?_
   exact ⟨d.length - 1,by omega,d.take (d.length - 1),by simp,(by simp -implicitDefEqProofs (disch:=omega) only [go_sem,reduceIte,Nat.reduceEqDiff,List.length_take,Nat.min_eq_left]),ht.next hd hz,(sS1 h1),(sS1 h4),(sS1 hl4),hhp⟩
  ·refine ww_seq (ww_seq (ww_reg (fun n k=>by simp -implicitDefEqProofs (disch:=omega) only [go_sem,reduceIte,Nat.reduceEqDiff,h0,d_true,nth_rows hrr,ldg_nl L86,hg1,d_false];rfl) ?_))
   refine ww_false sS (ww_exit ?_)
   rw [if_pos rfl]
   exact stop (fun i hi=>by rw [show i=d.length - 1 by omega];exact hz)
end Go.AM.S
end
section
namespace Go.AM.S
open Go Go.AM Go.Proofs NumL
open _root_.Go.AM.G (R)
def sl (l:List Nat):Str:=⟨l.length,vl 256 l⟩
theorem p8_pow (n:Nat):AM.p8 n=256 ^ n:=by
 show 2 ^ (8*n)=_
 rw [show (256:Nat)=2 ^ 8 from rfl,←Nat.pow_mul]
theorem vl_div (B:Nat) (hB:0<B) (l:List Nat) (h:Dg B l) (i:Nat):vl B l / B ^ i=vl B (l.drop i):=by
 by_cases hi:i≤l.length
 ·conv=>lhs;rw [←List.take_append_drop i l]
  rw [vl_append,List.length_take,Nat.min_eq_left hi,Nat.add_mul_div_left _ _ (Nat.pow_pos hB),Nat.div_eq_of_lt (vl_lt_of hB (h.take i) (by simp;omega)),Nat.zero_add]
 ·rw [List.drop_eq_nil_of_le (by omega),Nat.div_eq_of_lt (vl_lt_of hB h (by omega))];rfl
theorem vl_mod (B:Nat) (hB:0<B) (l:List Nat) (h:Dg B l) (i:Nat):vl B l % B ^ i=vl B (l.take i):=by
 by_cases hi:i≤l.length
 ·conv=>lhs;rw [←List.take_append_drop i l]
  rw [vl_append,List.length_take,Nat.min_eq_left hi,Nat.add_mul_mod_self_left,Nat.mod_eq_of_lt (vl_lt_of hB (h.take i) (by simp;omega))]
 ·rw [List.take_of_length_le (by omega),Nat.mod_eq_of_lt (vl_lt_of hB h (by omega))]
theorem sl_n (l:List Nat):(sl l).n=l.length:=rfl
theorem sl_get {l:List Nat} (h:Dg 256 l) (i:Nat):(sl l).get i=l.getD i 0:=by
 show Nat.mod (Nat.shiftRight (vl 256 l) (Nat.mul 8 i)) 256=_
 rw [shr8,p8_pow,vl_div 256 (by decide) l h i]
 by_cases hi:i<l.length
 ·rw [List.drop_eq_getElem_cons hi]
  simp only [vl]
  have e:l[i]=l.getD i 0:=by rw [List.getD_eq_getElem?_getD,List.getElem?_eq_getElem hi];rfl
  rw [e]
  have:l.getD i 0<256:=h.get (by decide) i
  show (l.getD i 0+256*vl 256 (l.drop (i+1))) % 256=_
  omega
 ·rw [List.drop_eq_nil_of_le (by omega),List.getD_eq_getElem?_getD,List.getElem?_eq_none (by omega)];rfl
theorem sl_cut {l:List Nat} (h:Dg 256 l) (k m:Nat) (hk:k≤m) (hm:m≤l.length):(sl l).cut k m=sl ((l.take m).drop k):=by
 unfold Str.cut sl
 congr 1
 ·simp;omega
 ·show Nat.mod (Nat.shiftRight (vl 256 l) (Nat.mul 8 k)) (AM.p8 (Nat.sub m k))=_
  rw [shr8,p8_pow,p8_pow,vl_div 256 (by decide) l h k]
  show vl 256 (l.drop k) % 256 ^ (m - k)=_
  rw [vl_mod 256 (by decide) _ (h.drop k),List.drop_take]
theorem vl_inj' (B:Nat):∀ (a b:List Nat),Dg B a→Dg B b→a.length=b.length→vl B a=vl B b→a=b:=by
 intro a
 induction a with
 | nil=>intro b _ _ hl _;exact (List.length_eq_zero_iff.1 hl.symm).symm
 | cons x a ih =>
  intro b da db hl hv
  cases b with
  | nil=>simp at hl
  | cons y b =>
   have hx:x<B:=da x (by simp)
   have hy:y<B:=db y (by simp)
   simp only [vl] at hv
   have e1:x=y:=by
    have h1:(x+B*vl B a) % B=(y+B*vl B b) % B:=by rw [hv]
    rwa [Nat.add_mul_mod_self_left,Nat.add_mul_mod_self_left,Nat.mod_eq_of_lt hx,Nat.mod_eq_of_lt hy] at h1
   subst e1
   have e2:vl B a=vl B b:=by
    have h1:B*vl B a=B*vl B b:=by omega
    exact Nat.eq_of_mul_eq_mul_left (by omega) h1
   rw [ih b (fun z hz=>da z (by simp [hz])) (fun z hz=>db z (by simp [hz])) (by simpa using hl) e2]
theorem sl_same {a b:List Nat} (ha:Dg 256 a) (hb:Dg 256 b):(sl a).same (sl b)=decide (a=b):=by
 rw [Bool.eq_iff_iff,decide_eq_true_iff]
 unfold Str.same sl
 rw [Bool.and_eq_true,Nat.beq_eq,Nat.beq_eq]
 show _∧vl 256 a % AM.p8 a.length=vl 256 b % AM.p8 b.length↔_
 rw [p8_pow,p8_pow,Nat.mod_eq_of_lt (vl_lt (by decide) ha),Nat.mod_eq_of_lt (vl_lt (by decide) hb)]
 constructor
 ·intro ⟨h1,h2⟩;exact vl_inj' 256 a b ha hb h1 h2
 ·intro h;subst h;exact ⟨rfl,rfl⟩
theorem rune_ascii {l:List Nat} (h:Dg 256 l) (i:Nat) (ha:l.getD i 0<128):(sl l).rune i=(l.getD i 0,1):=by
 unfold Str.rune
 rw [sl_get h i,show Nat.blt (l.getD i 0) 128=true from by rw [Nat.blt_eq];exact ha]
 rfl
theorem rune_big {l:List Nat} (h:Dg 256 l) (i:Nat) (hi:i<l.length) (ha:¬l.getD i 0<128):128≤((sl l).rune i).1∧((sl l).rune i).1<2147483648:=by
 have hs:=Str.rune_spec (sl l) (i:=i) hi
 rw [hs]
 obtain ⟨b,h1,h2⟩:=(sl l).get_spec hi
 rw [sl_get h i] at h2
 have h3:((sl l).bytes.get! (i+0)).toNat=l.getD i 0:=by
  have:(sl l).bytes.data[i]? = some b:=by rw [←Array.getElem?_toList];exact h1
  have h4:(sl l).bytes.get! (i+0)=b:=by
   show (sl l).bytes.data[i+0]! = b
   rw [Nat.add_zero,getElem!_def,this]
  rw [h4];exact h2.symm
 unfold Utf8.decode
 simp only [h3]
 rw [if_neg ha]
 have b1:∀ k,((sl l).bytes.get! (i+k)).toNat<256:=fun k=>((sl l).bytes.get! (i+k)).toNat_lt
 have c1:=b1 1;have c2:=b1 2;have c3:=b1 3
 have e:Utf8.runeError=65533:=rfl
 have hl:l.getD i 0<256:=h.get (by decide) i
 split
 ·split
  ·rename_i hc;exact ⟨hc,by show _<2147483648;omega⟩
  ·rw [e];exact ⟨by decide,by decide⟩
 ·split
  ·split
   ·rename_i hc
    simp only [Bool.and_eq_true,decide_eq_true_eq] at hc
    exact ⟨by have:=hc.1;show 128≤_;omega,by show _<2147483648;omega⟩
   ·rw [e];exact ⟨by decide,by decide⟩
  ·split
   ·split
    ·rename_i hc
     simp only [Bool.and_eq_true,decide_eq_true_eq] at hc
     exact ⟨by have:=hc.1;show 128≤_;omega,by show _<2147483648;omega⟩
    ·rw [e];exact ⟨by decide,by decide⟩
   ·rw [e];exact ⟨by decide,by decide⟩
section
variable {P:Program} {C:Cfg} {call:CallF} {gl:Nat→Bool} {o:Oper} {tm:Tm} {loc:Lo} {hp:Hp} {j:V→Lo→Hp→R}
theorem gen_range {d x:Nat} {t:TypeId} {s:Str} (hd:o.dst=some d) (ho:o.op=.range t (.tmp x)) (hu:P.underlying t=some .string) (hg:gl d=false) :
  gen P C call gl o (pt .lf x (.str s)) tm loc hp j=j (.ptr (.loc d ((lg loc d).1+1)) 0) (lp loc d ((lg loc d).1+1,.iter s 0)) hp:=by
 refine gen_val (v:=.ptr (.loc d ((lg loc d).1+1)) 0) (st:=⟨pt .lf x (.str s),lp loc d ((lg loc d).1+1,.iter s 0),hp⟩) hd ?_
 have hx:gt (pt .lf x (.str s)) x=.str s:=by rw [gt_pt,if_pos rfl]
 have hp1:locV P C gl (⟨pt .lf x (.str s),loc,hp⟩:St).ρ (⟨pt .lf x (.str s),loc,hp⟩:St).lc o=some (.ptr (.loc d ((lg loc d).1+1)) 0,some (d,(lg loc d).1+1,.iter s 0)):=by
  unfold locV
  simp only [ho,hu,opd_gt,hx,hd,hg,cond_false,lc_lg]
 unfold stepV
 rw [hp1]
 simp only [applyL,aset_lp]
theorem gen_next {d x s g pos:Nat} {u:Str} (hd:o.dst=some d) (ho:o.op=.next (.tmp x) true) (hr:lg loc s=(g,.iter u pos)) (hlt:pos<u.n) :
  gen P C call gl o (pt .lf x (.ptr (.loc s g) 0)) tm loc hp j=j (.tuple [.bool true,.int .i64 (.ofNat pos),.int .i32 (.ofNat (u.rune pos).1)]) (lp loc s (g,.iter u (pos+(u.rune pos).2))) hp:=by
 have hx:gt (pt .lf x (.ptr (.loc s g) 0)) x=.ptr (.loc s g) 0:=by rw [gt_pt,if_pos rfl]
 refine gen_val (v:=.tuple [.bool true,.int .i64 (.ofNat pos),.int .i32 (.ofNat (u.rune pos).1)]) (st:=⟨pt .lf x (.ptr (.loc s g) 0),lp loc s (g,.iter u (pos+(u.rune pos).2)),hp⟩) hd ?_
 have hp1:locV P C gl (⟨pt .lf x (.ptr (.loc s g) 0),loc,hp⟩:St).ρ (⟨pt .lf x (.ptr (.loc s g) 0),loc,hp⟩:St).lc o=none:=by
  unfold locV
  simp only [ho,pureV,Option.map_none]
 unfold stepV
 rw [hp1]
 unfold stepG
 have hrow:getRow ⟨pt .lf x (.ptr (.loc s g) 0),loc,hp⟩ (.loc s g)=some (.iter u pos):=getRow_loc hr
 simp only [ho,opd_gt,hx,hrow]
 rw [show Nat.blt pos u.n=true from by rw [Nat.blt_eq];exact hlt]
 simp only [cond_true,setRow_loc]
 rfl
theorem gen_next_end {d x s g pos:Nat} {u:Str} (hd:o.dst=some d) (ho:o.op=.next (.tmp x) true) (hr:lg loc s=(g,.iter u pos)) (hlt:¬pos<u.n) :
  gen P C call gl o (pt .lf x (.ptr (.loc s g) 0)) tm loc hp j=j (.tuple [.bool false]) loc hp:=by
 have hx:gt (pt .lf x (.ptr (.loc s g) 0)) x=.ptr (.loc s g) 0:=by rw [gt_pt,if_pos rfl]
 refine gen_val (v:=.tuple [.bool false]) (st:=⟨pt .lf x (.ptr (.loc s g) 0),loc,hp⟩) hd ?_
 have hp1:locV P C gl (⟨pt .lf x (.ptr (.loc s g) 0),loc,hp⟩:St).ρ (⟨pt .lf x (.ptr (.loc s g) 0),loc,hp⟩:St).lc o=none:=by
  unfold locV
  simp only [ho,pureV,Option.map_none]
 unfold stepV
 rw [hp1]
 unfold stepG
 have hrow:getRow ⟨pt .lf x (.ptr (.loc s g) 0),loc,hp⟩ (.loc s g)=some (.iter u pos):=getRow_loc hr
 simp only [ho,opd_gt,hx,hrow]
 rw [show Nat.blt pos u.n=false from by
  cases h:Nat.blt pos u.n with
  | false=>rfl
  | true=>exact absurd (by rwa [Nat.blt_eq] at h) hlt]
 rfl
end
theorem idx_sl {l:List Nat} (h:Dg 256 l) (k:IntKind) (i:Nat) (hi:i<l.length):idx Pg 9 (.str (sl l)) (.int k (.ofNat i))=some (.int .u8 (.ofNat (l.getD i 0))):=by
 have hu:G.isStr (Pg.underlying 9)=true:=by rw [U9];rfl
 show (bif G.isStr (Pg.underlying 9) then (bif Nat.blt i l.length then some (V.int .u8 (.ofNat ((sl l).get i))) else none) else none)=_
 rw [hu,show Nat.blt i l.length=true from by rw [Nat.blt_eq];exact hi,sl_get h i]
 rfl
theorem slc_str' {P:Program} {t:TypeId} (hu:P.underlying t=some .string) {l:List Nat} (h:Dg 256 l) (k:IntKind) (i:Nat) (hi:i≤l.length):slc P t (.str (sl l)) (some (.int k (.ofNat i))) none none=some (.str (sl (l.drop i))):=by
 have e0:slc P t (.str (sl l)) (some (.int k (.ofNat i))) none none=F.sliceV P t (.str (sl l)) (some (.ofNat i)) none none:=rfl
 rw [e0]
 unfold F.sliceV
 simp only [hu]
 unfold F.sliceStr
 simp only [Option.getD_none,Option.getD_some,F.toNatLe,sl_n]
 have e1:Nat.ble l.length l.length=true:=by rw [Nat.ble_eq];exact Nat.le_refl _
 have e2:Nat.ble i l.length=true:=by rw [Nat.ble_eq];exact hi
 show (match (bif Nat.ble l.length l.length then some l.length else none) with
  | none=>none
  | some h=>match (bif Nat.ble i h then some i else none) with
   | none=>none
   | some k=>some (V.str ((sl l).cut k h)))=_
 rw [e1]
 simp only [cond_true,e2]
 rw [sl_cut h i l.length hi (Nat.le_refl _),List.take_length]
theorem slc_str {l:List Nat} (h:Dg 256 l) (k:IntKind) (i:Nat) (hi:i≤l.length):slc Pg 9 (.str (sl l)) (some (.int k (.ofNat i))) none none=some (.str (sl (l.drop i))):=slc_str' U9 h k i hi
theorem eq_str (t:TypeId) (cn:Bool) {a b:List Nat} (ha:Dg 256 a) (hb:Dg 256 b):bin Pg .eql t cn (.str (sl a)) (.str (sl b))=some (.bool (decide (a=b))):=by
 show some (V.bool ((sl a).same (sl b)))=_
 rw [sl_same ha hb]
theorem eq_nil (t:TypeId) (cn:Bool) {a:List Nat} (ha:Dg 256 a):bin Pg .eql t cn (.str (sl a)) (.str ⟨0,0⟩)=some (.bool (decide (a=[]))):=eq_str t cn ha (b:=[]) (Dg.nil 256)
attribute [go_sem] sl_n
end Go.AM.S
end
section
namespace Go.AM.S
open Go Go.AM Go.Proofs NumL
open _root_.Go.AM.G (R)
set_option maxRecDepth 100000
theorem tbl15:tbl 15=some ⟨rc15,[.cell 2 26,.tmp 3]⟩:=by kernel_rfl
theorem clean_dg {h s:Hp} (hd:DG h.rows.length s):cleanB h s=true:=by
 unfold cleanB
 cases hq:s.dirty with
 | none=>rfl
 | some d=>have:=hd d hq;simp only [Nat.ble_eq];exact this
theorem fin_cell_tmp {h:Hp} {a t b d g:Nat} {f:Bool} {s:St} {x y w:V} (hl:layE Pg t=some (2,true)) (hv:gt s.tm a=.ptr (.loc d g) 0) (hr:lg s.loc d=(g,.cells f [x,y])) (hx:Pl x) (hy:Pl y) (hb:gt s.tm b=w) (hw:Pl w) (hc:DG h.rows.length s.hp) :
  fin Pg h [.cell a t,.tmp b] s=some (.val (.tuple [.agg [x,y],w]) h):=by
 unfold fin
 have e1:resV Pg s [.cell a t,.tmp b]=some [.agg [x,y],w]:=by
  simp only [resV,rho_gt,hv,hb,getRow_loc hr,partV,hl,Option.map_some]
  rfl
 rw [e1]
 have e2:=exps_ex [.agg [x,y],w] s ⟨exp_agg (cs:=[x,y]) (by intro v hv;simp at hv;rcases hv with rfl | rfl<;>assumption),hw.ex,trivial⟩
 simp only [e2]
 unfold backHp
 rw [clean_dg hc]
 simp only [V.noRefsL,V.noRefs,hx.refs,hy.refs,hw.refs,Bool.and_self,cond_true]
def dv (l:List Nat):Nat:=l.foldl (fun n b=>10*n+(b - 48)) 0
theorem dv_snoc (l:List Nat) (b:Nat):dv (l++[b])=10*dv l+(b - 48):=by simp [dv]
def ng (l:List Nat):Bool:=decide (l.getD 0 0=45)
def bodyN (l:List Nat):List Nat:=bif ng l then l.drop 1 else l
def badB (l:List Nat):Bool:=(bodyN l).isEmpty || (decide ((bodyN l).getD 0 0=48)&&(decide (1<(bodyN l).length) || ng l))
def Dec (l:List Nat):Prop:=∀ b ∈ l,48≤b∧b≤57
instance (l:List Nat):Decidable (Dec l):=by unfold Dec;infer_instance
def goodB (l:List Nat):Bool:=!badB l&&decide (Dec (bodyN l))
def zOf (l:List Nat):Int:=bif goodB l then (bif ng l then -(dv (bodyN l):Int) else (dv (bodyN l):Int)) else 0
theorem ng_len {l:List Nat} (h:ng l=true):1≤l.length:=by
 cases l with
 | nil=>simp [ng] at h
 | cons x l=>simp
theorem bodyN_dg {l:List Nat} (h:Dg 256 l):Dg 256 (bodyN l):=by
 unfold bodyN
 cases ng l with
 | true=>exact h.drop 1
 | false=>exact h
theorem bodyN_len (l:List Nat):(bodyN l).length≤l.length:=by
 unfold bodyN
 cases ng l<;>simp
theorem take_snoc (r:List Nat) (i:Nat) (h:i<r.length):r.take (i+1)=r.take i++[r.getD i 0]:=by
 rw [List.take_add_one,List.getD_eq_getElem?_getD,List.getElem?_eq_getElem h];simp
theorem Dec.snoc {l:List Nat} (h:Dec l) {b:Nat} (h1:48≤b) (h2:b≤57):Dec (l++[b]):=by
 intro x hx
 rcases List.mem_append.1 hx with hx | hx
 ·exact h x hx
 ·rw [List.mem_singleton.1 hx];exact ⟨h1,h2⟩
theorem rg15 (l:Lo) (h:Hp) (c:CallF) (t:Tm) (j:V→Lo→Hp→R) (s:Str):go1 Try.f15 15 9 1 40 (.str s) c t l h j=j (.ptr (.loc 41 ((lg l 41).1+1)) 0) (lp l 41 ((lg l 41).1+1,.iter s 0)) h :=
 gen_range (C:=Cg) (gl:=Cg.glob 15) (call:=c) (tm:=t) (loc:=l) (hp:=h) (j:=j) (x:=40) (s:=s) (o:=opA Try.f15 9 1) (d:=41) (t:=9) (by kernel_rfl) (by kernel_rfl) U9 (by kernel_rfl)
theorem nx15 {l:Lo} {g pos:Nat} {u:Str} (hr:lg l 41=(g,.iter u pos)) (hlt:pos<u.n) (h:Hp) (c:CallF) (t:Tm) (j:V→Lo→Hp→R):go1 Try.f15 15 10 0 41 (.ptr (.loc 41 g) 0) c t l h j=j (.tuple [.bool true,.int .i64 (.ofNat pos),.int .i32 (.ofNat (u.rune pos).1)]) (lp l 41 (g,.iter u (pos+(u.rune pos).2))) h :=
 gen_next (C:=Cg) (gl:=Cg.glob 15) (call:=c) (tm:=t) (loc:=l) (hp:=h) (j:=j) (x:=41) (o:=opA Try.f15 10 0) (d:=42) (by kernel_rfl) (by kernel_rfl) hr hlt
theorem nz15 {l:Lo} {g pos:Nat} {u:Str} (hr:lg l 41=(g,.iter u pos)) (hlt:¬pos<u.n) (h:Hp) (c:CallF) (t:Tm) (j:V→Lo→Hp→R):go1 Try.f15 15 10 0 41 (.ptr (.loc 41 g) 0) c t l h j=j (.tuple [.bool false]) l h :=
 gen_next_end (C:=Cg) (gl:=Cg.glob 15) (call:=c) (tm:=t) (loc:=l) (hp:=h) (j:=j) (x:=41) (o:=opA Try.f15 10 0) (d:=42) (by kernel_rfl) (by kernel_rfl) hr hlt
theorem Gr.ex {h:Hp} {v:V} {k:IntKind} {l:List Nat} (hv:Gr h v k l):Ex1 v:=by
 rcases hv with ⟨_,rfl⟩ | ⟨_,r,rfl,_⟩
 ·exact Pl.nils.ex
 ·exact Ex1.glob _ _ _ _ _ _
structure IP (l:List Nat) (h:Hp) (s:St) (i c n:Nat) (lv:V) (D:List Nat):Prop where
 h2:gt s.tm 2=.ptr (.loc 2 1) 0
 h4:gt s.tm 4=.bool (ng l)
 h5:gt s.tm 5=.str (sl (bodyN l))
 h6:gt s.tm 6=lv
 h7:gt s.tm 7=.int .u64 (.ofNat n)
 h8:gt s.tm 8=.int .i64 (.ofNat c)
 h41:gt s.tm 41=.ptr (.loc 41 1) 0
 l2:lg s.loc 2=(1,.cells false [.nils,.bool false])
 l41:lg s.loc 41=(1,.iter (sl (bodyN l)) i)
 hi:i≤(bodyN l).length
 gr:Gr s.hp lv .u32 D
 dg:Dg B D
 len:D.length≤i+1
 c9:c<9
 nc:n<10 ^ c
 v:vl B D*10 ^ c+n=dv ((bodyN l).take i)
 dec:Dec ((bodyN l).take i)
 last:i=(bodyN l).length→c=0
 hdg:DG h.rows.length s.hp
 hrl:h.rows.length≤s.hp.rows.length
 lvn:∀ r,lv=.arr (.glob r) 0 D.length none 1 false→h.rows.length≤r
theorem parse_spec {l:List Nat} (hd:Dg 256 l) (hl:l.length≤1000):Gives 15 [.str (sl l)] fun r=>∃ v,r=.tuple [v,.bool (goodB l)]∧IsI 1002 v (zOf l):=by
 have rd:=bodyN_dg hd
 have rl:=bodyN_len l
 refine gives_of tbl15 fun h Q hQ=>?_
 have bad:∀ st:St,goodB l=false→gt st.tm 2=.ptr (.loc 2 1) 0→lg st.loc 2=(1,.cells false [.nils,.bool false])→gt st.tm 3=.bool false→DG h.rows.length st.hp→Q st:=by
  intro st hg h2 l2 h3 hdg
  refine hQ st _ (fin_cell_tmp (x:=.nils) (y:=.bool false) (w:=.bool false) (f:=false) (d:=2) (g:=1) (by kernel_rfl) h2 l2 Pl.nils (Pl.bool _) h3 (Pl.bool _) hdg) ⟨_,by rw [hg],?_⟩
  have e:zOf l=0:=by unfold zOf;rw [hg];rfl
  rw [e]
  exact zeroI.mono (by omega)
 unfold rc15
 refine sRG ?_
 refine ww_join (M:=fun s=>gt s.tm 4=.bool (ng l)∧Kp [0,2,3] (pt (pt (startTm [.str (sl l)]) 2 (.ptr (.loc 2 1) 0)) 3 (.bool false)) s.tm∧s.loc=lp .lf 2 (1,.cells false [.nils,.bool false])∧s.hp=⟨h.rows,none,h.mods⟩) ?_ (fun s ⟨a4,ak,al,ah⟩=>?_)
 ·rcases Nat.eq_zero_or_pos l.length with h0 | h0
  ·have e:l=[]:=List.length_eq_zero_iff.1 h0
   refine ww_reg (fun n k=>by simp -implicitDefEqProofs (disch:=omega) only [go_sem,reduceIte,Nat.reduceEqDiff,gt_start,List.getD_cons_zero,List.getD_cons_succ,d_false];rfl) ?_
   exact ⟨by rw [e,show ng []=false from rfl];exact sS,(by (try dsimp only);repeat (first | with_reducible exact Kp_refl _ _ | with_reducible refine Kp_pt (by decide) ?_)),rfl,rfl⟩
  ·refine ww_reg (fun n k=>by simp -implicitDefEqProofs (disch:=omega) only [go_sem,reduceIte,Nat.reduceEqDiff,gt_start,List.getD_cons_zero,List.getD_cons_succ,d_true,idx_sl hd];rfl) ?_
   exact ⟨(by simp -implicitDefEqProofs (disch:=omega) only [go_sem,reduceIte,Nat.reduceEqDiff,ng]),(by (try dsimp only);repeat (first | with_reducible exact Kp_refl _ _ | with_reducible refine Kp_pt (by decide) ?_)),rfl,rfl⟩
 have a0:gt s.tm 0=.str (sl l):=(ak 0 (by decide)).trans sSG
 have a2:gt s.tm 2=.ptr (.loc 2 1) 0:=(ak 2 (by decide)).trans sS
 have al2:lg s.loc 2=(1,.cells false [.nils,.bool false]):=by rw [al];exact sS
 refine sR1 a0 ?_
 refine ww_join (M:=fun s2=>gt s2.tm 5=.str (sl (bodyN l))∧Kp [2,3,4] s.tm s2.tm∧s2.loc=s.loc∧s2.hp=s.hp) ?_ (fun s2 ⟨b5,bk,bl,bh⟩=>?_)
 ·refine sR1 a4 ?_
  cases hng:ng l with
  | true =>
   have hlen:=ng_len hng
   have eb:bodyN l=l.drop 1:=by unfold bodyN;rw [hng];rfl
   refine ww_true (sS2 a4 hng) ?_
   refine ww_reg (fun n k=>by simp -implicitDefEqProofs (disch:=omega) only [go_sem,reduceIte,Nat.reduceEqDiff,a0,slc_str hd];rfl) ?_
   exact ⟨by rw [eb];exact sS,(by (try dsimp only);repeat (first | with_reducible exact Kp_refl _ _ | with_reducible refine Kp_pt (by decide) ?_)),rfl,rfl⟩
  | false =>
   have eb:bodyN l=l:=by unfold bodyN;rw [hng];rfl
   refine ww_false (sS2 a4 hng) (ww_skip ?_)
   exact ⟨by rw [eb];exact sS,(by (try dsimp only);repeat (first | with_reducible exact Kp_refl _ _ | with_reducible refine Kp_pt (by decide) ?_)),rfl,rfl⟩
 have b4:=(bk 4 (by decide)).trans a4;have b2:=(bk 2 (by decide)).trans a2
 have bl2:lg s2.loc 2=(1,.cells false [.nils,.bool false]):=by rw [bl];exact al2
 have bhd:DG h.rows.length s2.hp:=by rw [bh,ah];exact fun x hx=>by cases hx
 have b3:gt s2.tm 3=.bool false:=(bk 3 (by decide)).trans ((ak 3 (by decide)).trans sS)
 refine ww_joinX (fun s3=>badB l=false∧Kp [2,3,4,5] s2.tm s3.tm∧s3.loc=s2.loc∧s3.hp=s2.hp) ?_ (fun s3 ⟨hbad,ck,cl',ch⟩=>?_)
 ·have quit:∀ tm,Kp [2,3] s2.tm tm→badB l=true→WW Pg kn0 tbl (.seq (.reg fun c t l h k=>gn Try.f15 15 6 0 c t t l h (fun v0 l0 h0=>jn (fun v1 l1 h1=>k (p3 t (.bool false)) l1 h1) fun j1=>sto 26 (g2 t) v0 l0 h0 j1 (gn Try.f15 15 6 1 c (p39 (p2 t (g2 t)) v0) t l0 h0 j1))) .ret) ⟨tm,s2.loc,s2.hp⟩ (fun s3=>badB l=false∧Kp [2,3,4,5] s2.tm s3.tm∧s3.loc=s2.loc∧s3.hp=s2.hp) (fun _ _=>False) Q:=by
   intro tm hk hb
   have q2:=(hk 2 (by decide)).trans b2
   refine ww_seq (ww_reg (fun n k=>by simp -implicitDefEqProofs (disch:=omega) only [go_sem,reduceIte,Nat.reduceEqDiff,q2,bl2,stc_two N26 1 .nils (.bool false) .nils (.bool false) _ rfl rfl];rfl) ?_)
   exact ww_ret (bad _ (by unfold goodB;rw [hb];rfl) (sS1 q2) sS sS bhd)
  by_cases hr:bodyN l=[]
  ·have hb:badB l=true:=by unfold badB;rw [hr];rfl
   refine ww_seq (ww_reg (fun n k=>by simp -implicitDefEqProofs (disch:=omega) only [go_sem,reduceIte,Nat.reduceEqDiff,b5,eq_nil 9 true rd,hr];rfl) ?_)
   refine ww_true sS ?_
   exact quit _ (by (try dsimp only);repeat (first | with_reducible exact Kp_refl _ _ | with_reducible refine Kp_pt (by decide) ?_)) hb
  ·have hdec:decide (bodyN l=[])=false:=decide_eq_false hr
   have hlen:0<(bodyN l).length:=List.length_pos_iff.2 hr
   have hemp:(bodyN l).isEmpty=false:=by cases h:bodyN l with | nil=>exact absurd h hr | cons x t=>rfl
   by_cases h48:(bodyN l).getD 0 0=48
   ·by_cases h1:1<(bodyN l).length
    ·have hb:badB l=true:=by unfold badB;rw [hemp,decide_eq_true h48,decide_eq_true h1];rfl
     refine ww_seq (ww_reg (fun n k=>by simp -implicitDefEqProofs (disch:=omega) only [go_sem,reduceIte,Nat.reduceEqDiff,b4,b5,eq_nil 9 true rd,hdec,Bool.not_false,idx_sl rd,h48,d_true];rfl) ?_)
     refine ww_true sS ?_
     exact quit _ (by (try dsimp only);repeat (first | with_reducible exact Kp_refl _ _ | with_reducible refine Kp_pt (by decide) ?_)) hb
    ·cases hng:ng l with
     | true =>
      have hb:badB l=true:=by unfold badB;rw [hemp,decide_eq_true h48,hng];simp
      refine ww_seq (ww_reg (fun n k=>by simp -implicitDefEqProofs (disch:=omega) only [go_sem,reduceIte,Nat.reduceEqDiff,b4,b5,eq_nil 9 true rd,hdec,Bool.not_false,idx_sl rd,h48,d_false,hng];rfl) ?_)
      refine ww_true sS ?_
      exact quit _ (by (try dsimp only);repeat (first | with_reducible exact Kp_refl _ _ | with_reducible refine Kp_pt (by decide) ?_)) hb
     | false =>
      have hb:badB l=false:=by unfold badB;rw [hemp,decide_eq_true h48,hng,decide_eq_false h1];rfl
      refine ww_seq (ww_reg (fun n k=>by simp -implicitDefEqProofs (disch:=omega) only [go_sem,reduceIte,Nat.reduceEqDiff,b4,b5,eq_nil 9 true rd,hdec,Bool.not_false,idx_sl rd,h48,d_false,hng];rfl) ?_)
      refine ww_false sS (ww_skip ?_)
      exact ⟨hb,(by (try dsimp only);repeat (first | with_reducible exact Kp_refl _ _ | with_reducible refine Kp_pt (by decide) ?_)),rfl,rfl⟩
   ·have hb:badB l=false:=by unfold badB;rw [hemp,decide_eq_false h48];rfl
    have hd48:decide ((bodyN l).getD 0 0=48)=false:=decide_eq_false h48
    refine ww_seq (ww_reg (fun n k=>by simp -implicitDefEqProofs (disch:=omega) only [go_sem,reduceIte,Nat.reduceEqDiff,b4,b5,eq_nil 9 true rd,hdec,Bool.not_false,Bool.not_true,idx_sl rd,hd48];rfl) ?_)
    refine ww_false sS (ww_skip ?_)
    exact ⟨hb,(by (try dsimp only);repeat (first | with_reducible exact Kp_refl _ _ | with_reducible refine Kp_pt (by decide) ?_)),rfl,rfl⟩
 ·have c2:=(ck 2 (by decide)).trans b2;have c3:=(ck 3 (by decide)).trans b3;have c4:=(ck 4 (by decide)).trans b4;have c5:=(ck 5 (by decide)).trans b5
  have cl2:lg s3.loc 2=(1,.cells false [.nils,.bool false]):=by rw [cl'];exact bl2
  have cl41:lg s3.loc 41=(0,.gone):=by rw [cl',bl,al];exact sS
  have chd:DG h.rows.length s3.hp:=by rw [ch];exact bhd
  have hrl0:s3.hp.rows.length=h.rows.length:=by rw [ch,bh,ah]
  have hpos:0<(bodyN l).length:=by
   rcases Nat.eq_zero_or_pos (bodyN l).length with h0 | h0
   ·have e:=List.length_eq_zero_iff.1 h0
    unfold badB at hbad;rw [e] at hbad;simp at hbad
   ·exact h0
  refine sR ?_
  refine sR ?_
  refine sQ3 c5 cl41 rg15 ?_
  refine ww_for (fun m s=>∃ i c n lv D,m+i=(bodyN l).length∧IP l h s i c n lv D∧gt s.tm 3=.bool false) (bodyN l).length ⟨0,0,0,.nils,[],rfl,⟨(sS1 c2),(sS1 c4),(sS1 c5),sS,sS,sS,sS,(sS1 cl2),sS,Nat.zero_le _,.inl ⟨rfl,rfl⟩,Dg.nil B,by simp,by decide,by decide,rfl,fun x hx=>by simp at hx,fun e=>rfl,chd,Nat.le_of_eq hrl0.symm,fun r e=>by cases e⟩,(sS1 c3)⟩ ?_
  intro m s ⟨i,c,n,lv,D,hm,H,h3⟩
  obtain ⟨h2,h4,h5,h6,h7,h8,h41,l2,l41,hi,gr,dg,hDl,c9,nc,hv,dec,last,hdg,hrl,lvn⟩:=H
  by_cases hlt:i<(bodyN l).length
  ·generalize hrn:((sl (bodyN l)).rune i)=rw1 at *
   have nx:=nx15 l41 hlt
   rw [hrn] at nx
   refine ww_seq (ww_reg (fun n k=>by simp -implicitDefEqProofs (disch:=omega) only [go_sem,reduceIte,Nat.reduceEqDiff,h41,nx];rfl) ?_)
   refine ww_seq (ww_true sS (ww_skip ?_))
   refine ww_block ?_
   refine sR ?_
   have hb:(bodyN l).getD i 0<256:=rd.get (by decide) i
   by_cases hdig:48≤(bodyN l).getD i 0∧(bodyN l).getD i 0≤57
   ·have era:rw1=((bodyN l).getD i 0,1):=by rw [←hrn];exact rune_ascii rd i (by omega)
    subst era
    have hn8:n<100000000:=Nat.lt_of_lt_of_le nc (Nat.pow_le_pow_right (by decide) (show c≤8 by omega))
    refine ww_seq (ww_seq (ww_reg (fun n k=>by simp -implicitDefEqProofs (disch:=omega) only [go_sem,reduceIte,Nat.reduceEqDiff,d_false,Bool.not_false];rfl) ?_))
    refine ww_false sS (ww_skip ?_)
    refine sR1 h7 ?_
    refine sR1 h8 ?_
    have hdv:dv ((bodyN l).take (i+1))=10*dv ((bodyN l).take i)+((bodyN l).getD i 0 - 48):=by rw [take_snoc _ _ hlt,dv_snoc]
    have hdec:Dec ((bodyN l).take (i+1)):=by rw [take_snoc _ _ hlt];exact dec.snoc hdig.1 hdig.2
    have hnc:10*n+((bodyN l).getD i 0 - 48)<10 ^ (c+1):=by rw [Nat.pow_succ];omega
    have hvv:vl B D*10 ^ (c+1)+(10*n+((bodyN l).getD i 0 - 48))=dv ((bodyN l).take (i+1)):=by
     rw [hdv,←hv,Nat.pow_succ,←Nat.mul_assoc];omega
    refine ww_joinX (fun s4=>gt s4.tm 69=.bool (decide (c+1=9∨i+1=(bodyN l).length))∧gt s4.tm 7=.int .u64 (.ofNat (10*n+((bodyN l).getD i 0 - 48)))∧gt s4.tm 8=.int .i64 (.ofNat (c+1))∧Kp [2,3,4,5,6,41] s.tm s4.tm∧s4.loc=lp s.loc 41 (1,.iter (sl (bodyN l)) (i+1))∧s4.hp=s.hp) ?_ (fun s4 ⟨e69,e7,e8,ek,el,eh⟩=>?_)
    ·by_cases h9:c+1=9
     ·refine ww_reg (fun n k=>by simp -implicitDefEqProofs (disch:=omega) only [go_sem,reduceIte,Nat.reduceEqDiff,h8,d_true,Bool.not_true];rfl) ?_
      exact ⟨(by simp -implicitDefEqProofs (disch:=omega) only [go_sem,reduceIte,Nat.reduceEqDiff,d_true]),sS,sS,(by (try dsimp only);repeat (first | with_reducible exact Kp_refl _ _ | with_reducible refine Kp_pt (by decide) ?_)),rfl,rfl⟩
     ·have hd9:decide (c=8)=false:=decide_eq_false (by omega)
      refine ww_reg (fun n k=>by simp -implicitDefEqProofs (disch:=omega) only [go_sem,reduceIte,Nat.reduceEqDiff,h5,h8,hd9,Bool.not_false];rfl) ?_
      refine ⟨?_,sS,sS,(by (try dsimp only);repeat (first | with_reducible exact Kp_refl _ _ | with_reducible refine Kp_pt (by decide) ?_)),rfl,rfl⟩
      have e:decide (c+1=9∨i+1=(bodyN l).length)=decide (i=(bodyN l).length - 1):=by
       congr 1;apply propext;omega
      rw [e]
      exact sS
    ·have k2:=(ek 2 (by decide)).trans h2;have k3:=(ek 3 (by decide)).trans h3;have k4:=(ek 4 (by decide)).trans h4;have k5:=(ek 5 (by decide)).trans h5
     have k6:=(ek 6 (by decide)).trans h6;have k41:=(ek 41 (by decide)).trans h41
     have m2:lg s4.loc 2=(1,.cells false [.nils,.bool false]):=by rw [el];exact (sS1 l2)
     have m41:lg s4.loc 41=(1,.iter (sl (bodyN l)) (i+1)):=by rw [el];exact sS
     refine ww_if e69 (fun hf=>?_) (fun hf=>ww_skip ?_)
     ·refine sR ?_
      refine ww_join (M:=fun s5=>gt s5.tm 11=.int .u64 (.ofNat (10 ^ (c+1)))∧Kp [2,3,4,5,6,7,8,41] s4.tm s5.tm∧s5.loc=s4.loc∧s5.hp=s4.hp) ?_ (fun s5 ⟨f11,fk,fl,fh⟩=>?_)
      ·refine sR1 e8 ?_
       refine ww_for (fun m5 s6=>∃ k,m5+k=c+1∧gt s6.tm 11=.int .u64 (.ofNat (10 ^ k))∧gt s6.tm 70=.int .i64 (.ofNat (c+1))∧gt s6.tm 71=.int .i64 (.ofNat k)∧Kp [2,3,4,5,6,7,8,41] s4.tm s6.tm∧s6.loc=s4.loc∧s6.hp=s4.hp) (c+1) ⟨0,rfl,(by simp -implicitDefEqProofs (disch:=omega) only [go_sem,reduceIte,Nat.reduceEqDiff,Nat.pow_zero]),sS,sS,(by (try dsimp only);repeat (first | with_reducible exact Kp_refl _ _ | with_reducible refine Kp_pt (by decide) ?_)),rfl,rfl⟩ ?_
       intro m5 s6 ⟨k,hk,g11,g70,g71,gk,gl,gh⟩
       refine sR2 g70 g71 ?_
       refine ww_seq (ww_if (by simp only [gt_pt,reduceIte];rfl) (fun hkc=>ww_skip ?_) (fun hkc=>ww_exit ?_))
       ·have h10:10 ^ k≤100000000:=Nat.pow_le_pow_right (n:=10) (by decide) (show k≤8 by omega)
        refine ww_seq (ww_block ?_)
        refine sE1 g11 ?_
        refine sE1 g71 ?_
        refine ⟨m5 - 1,by omega,k+1,by omega,?_,(sS1 g70),sS,?_,gl,gh⟩
        ·exact (by simp -implicitDefEqProofs (disch:=omega) only [go_sem,reduceIte,Nat.reduceEqDiff,Nat.pow_succ])
        ·intro j hj
         have:=gk j hj
         rw [gt_pt,if_neg (by intro e;subst e;simp at hj),gt_pt,if_neg (by intro e;subst e;simp at hj),gt_pt,if_neg (by intro e;subst e;simp at hj)]
         exact this
       ·rw [if_pos rfl]
        have ek':k=c+1:=by omega
        subst ek'
        refine ⟨(sS1 g11),?_,gl,gh⟩
        intro j hj
        rw [gt_pt,if_neg (by intro e;subst e;simp at hj)]
        exact gk j hj
      ·have hT:10 ^ (c+1)<4294967296:=Nat.lt_of_le_of_lt (Nat.pow_le_pow_right (n:=10) (by decide) (show c+1≤9 by omega)) (by decide)
       have p6:=(fk 6 (by decide)).trans k6;have p7:=(fk 7 (by decide)).trans e7
       have hp5:s5.hp=s.hp:=fh.trans eh
       obtain ⟨v',h',D',hrun,gr',dg',hv',hl',hH,hvn',hle'⟩:=grown_runs (n:=h.rows.length) (h:=s5.hp) (10 ^ (c+1)) (10*n+((bodyN l).getD i 0 - 48)) (by rw [hp5];exact gr) dg (by omega) hT (by omega) (by rw [hp5];exact hdg) lvn (by rw [hp5];exact hrl)
       refine ww_seq (ww_call (hrun) (fun n hn k=>by simp -implicitDefEqProofs (disch:=omega) only [go_sem,reduceIte,Nat.reduceEqDiff,p6,p7,f11,clc3 hn gr.ex (Ex1.int _ _) (Ex1.int _ _)];rfl) ?_)
       refine sE ?_
       have q:=fun j hj=>fk j hj
       refine ⟨m - 1,by omega,i+1,0,0,v',D',by omega,⟨(by simp -implicitDefEqProofs (disch:=omega) only [go_sem,reduceIte,Nat.reduceEqDiff,q 2 (by decide),k2]),(by simp -implicitDefEqProofs (disch:=omega) only [go_sem,reduceIte,Nat.reduceEqDiff,q 4 (by decide),k4]),(by simp -implicitDefEqProofs (disch:=omega) only [go_sem,reduceIte,Nat.reduceEqDiff,q 5 (by decide),k5]),sS,sS,sS,(by simp -implicitDefEqProofs (disch:=omega) only [go_sem,reduceIte,Nat.reduceEqDiff,q 41 (by decide),k41]),by rw [fl];exact m2,by rw [fl];exact m41,hlt,gr',dg',by omega,by decide,by decide,?_,hdec,fun _=>rfl,hH.dg,by have:=hH.len;rw [hp5] at this;exact Nat.le_trans hrl this,hvn'⟩,(by simp -implicitDefEqProofs (disch:=omega) only [go_sem,reduceIte,Nat.reduceEqDiff,q 3 (by decide),k3])⟩
       rw [Nat.pow_zero,Nat.mul_one,Nat.add_zero,hv']
       exact hvv
     ·have hf':¬(c+1=9)∧¬(i+1=(bodyN l).length):=by omega
      exact ⟨m - 1,by omega,i+1,c+1,_,lv,D,by omega,⟨k2,k4,k5,k6,e7,e8,k41,m2,m41,hlt,by rw [eh];exact gr,dg,by omega,by omega,hnc,hvv,hdec,fun e=>absurd e hf'.2,by rw [eh];exact hdg,by rw [eh];exact hrl,lvn⟩,k3⟩
   ·have hbad2:goodB l=false:=by
     unfold goodB
     rw [decide_eq_false (show ¬Dec (bodyN l) from fun hD=>hdig (hD _ (by rw [List.getD_eq_getElem?_getD,List.getElem?_eq_getElem hlt];exact List.getElem_mem hlt)))]
     simp
    have hcase:rw1.1<48∨57<rw1.1:=by
     by_cases ha:(bodyN l).getD i 0<128
     ·have era:rw1=((bodyN l).getD i 0,1):=by rw [←hrn];exact rune_ascii rd i ha
      subst era
      show (bodyN l).getD i 0<48∨57<(bodyN l).getD i 0
      omega
     ·have:=rune_big rd i hlt ha
      rw [hrn] at this
      omega
    rcases hcase with hc | hc
    ·refine ww_seq (ww_seq (ww_reg (fun n k=>by simp -implicitDefEqProofs (disch:=omega) only [go_sem,reduceIte,Nat.reduceEqDiff,d_true,Bool.not_true];rfl) ?_))
     refine ww_true sS ?_
     refine ww_seq (ww_reg (fun n k=>by simp -implicitDefEqProofs (disch:=omega) only [go_sem,reduceIte,Nat.reduceEqDiff,h2,l2,stc_two N26 1 .nils (.bool false) .nils (.bool false) _ rfl rfl];rfl) ?_)
     exact ww_ret (bad _ hbad2 (sS1 h2) sS sS hdg)
    ·have hf:¬rw1.1<48:=by omega
     refine ww_seq (ww_seq (ww_reg (fun n k=>by simp -implicitDefEqProofs (disch:=omega) only [go_sem,reduceIte,Nat.reduceEqDiff,d_true,d_false,Bool.not_false];rfl) ?_))
     refine ww_true sS ?_
     refine ww_seq (ww_reg (fun n k=>by simp -implicitDefEqProofs (disch:=omega) only [go_sem,reduceIte,Nat.reduceEqDiff,h2,l2,stc_two N26 1 .nils (.bool false) .nils (.bool false) _ rfl rfl];rfl) ?_)
     exact ww_ret (bad _ hbad2 (sS1 h2) sS sS hdg)
  ·refine ww_seq (ww_reg (fun n k=>by simp -implicitDefEqProofs (disch:=omega) only [go_sem,reduceIte,Nat.reduceEqDiff,h41,nz15 l41 hlt];rfl) ?_)
   refine ww_seq (ww_false sS (ww_exit ?_))
   rw [if_pos rfl]
   have ei:i=(bodyN l).length:=by omega
   have ec:=last ei
   subst ec
   have en:n=0:=by rw [Nat.pow_zero] at nc;omega
   subst en
   rw [ei,List.take_length,Nat.pow_zero,Nat.mul_one,Nat.add_zero] at hv
   rw [ei,List.take_length] at dec
   have hgood:goodB l=true:=by unfold goodB;rw [hbad,decide_eq_true dec];rfl
   have fin2:∀ (st:St) (w:V) (d:List Nat),NI w d (ng l && !d.isEmpty)→Tr0 D d→(∃ x y,w=.agg [x,y]∧lg st.loc 2=(1,.cells false [x,y]))→gt st.tm 2=.ptr (.loc 2 1) 0→gt st.tm 3=.bool true→DG h.rows.length st.hp→Q st:=by
    intro st w d hn ht ⟨x,y,e1,e2⟩ j2 j3 jd
    obtain ⟨⟨s1,e3,hs1⟩,q1⟩:=hn
    subst e1
    obtain ⟨e4,e5⟩:x=s1∧y=.bool (ng l && !d.isEmpty):=by simpa using e3
    subst e4;subst e5
    refine hQ st _ (fin_cell_tmp (x:=x) (y:=.bool (ng l && !d.isEmpty)) (w:=.bool true) (f:=false) (d:=2) (g:=1) (by kernel_rfl) j2 e2 hs1.pl (Pl.bool _) j3 (Pl.bool _) jd) ⟨_,by rw [hgood],d,_,⟨⟨x,rfl,hs1⟩,q1⟩,?_,by have:=ht.len;omega⟩
    have e6:=ht.vl B
    rw [hv] at e6
    unfold zOf zv
    rw [hgood]
    cases hng:ng l with
    | false=>simp only [Bool.false_and,cond_false,cond_true,e6]
    | true =>
     cases d with
     | nil=>simp only [vl] at e6;simp only [List.isEmpty_nil,Bool.not_true,Bool.and_false,cond_false,cond_true,vl,←e6];rfl
     | cons x0 l0=>simp only [List.isEmpty_cons,Bool.not_false,Bool.and_self,cond_true,e6]
   rcases gr with ⟨eD,elv⟩ | ⟨hD0,r0,elv,hrow⟩
   ·subst eD;subst elv
    obtain ⟨w,hr,d,hw,ht⟩:=made_spec (va:=.nils) (a:=[]) (.inr ⟨rfl,rfl⟩) (Dg.nil B) (by simp) (ng l) s.hp
    have hw0:=hw
    obtain ⟨⟨x,rfl,hx⟩,_⟩:=hw
    refine ww_seq (ww_call (hr) (fun n hn k=>by simp -implicitDefEqProofs (disch:=omega) only [go_sem,reduceIte,Nat.reduceEqDiff,h2,h4,h6,l2,clc2 hn Pl.nils.ex (Ex1.bool _),stc_two N26 1 x (.bool (ng l && !d.isEmpty)) .nils (.bool false) _ hx.pl.ok rfl];rfl) ?_)
    exact ww_ret (fin2 _ _ d hw0 ht ⟨_,_,rfl,sS⟩ (sS1 h2) sS hdg)
   ·subst elv
    have hnr:=lvn r0 rfl
    obtain ⟨w,h',d,hr,hw,ht,hH,_⟩:=made_glob (n:=h.rows.length) hrow dg (by omega) (ng l) hdg hnr
    have hw0:=hw
    obtain ⟨⟨x,rfl,hx⟩,_⟩:=hw
    refine ww_seq (ww_call (hr) (fun n hn k=>by simp -implicitDefEqProofs (disch:=omega) only [go_sem,reduceIte,Nat.reduceEqDiff,h2,h4,h6,l2,clc2 hn (Ex1.glob _ _ _ _ _ _) (Ex1.bool _),stc_two N26 1 x (.bool (ng l && !d.isEmpty)) .nils (.bool false) _ hx.pl.ok rfl];rfl) ?_)
    exact ww_ret (fin2 _ _ d hw0 ht ⟨_,_,rfl,sS⟩ (sS1 h2) sS hH.dg)
end Go.AM.S
end
section
namespace Go.AM.S
open Go Go.AM Go.Proofs NumL
open _root_.Go.AM.G (R)
set_option maxRecDepth 100000
theorem getD_take (l:List Nat) (n i:Nat) (h:i<n):(l.take n).getD i 0=l.getD i 0:=by
 rw [List.getD_eq_getElem?_getD,List.getD_eq_getElem?_getD,List.getElem?_take,if_pos h]
end Go.AM.S
end
section
namespace Go.AM.S
open Go Go.AM Go.Proofs NumL
open _root_.Go.AM.G (R)
def lv:List Nat→Nat
 | []=>0
 | b::l=>(b - 48)+10*lv l
theorem lv_app:∀ (a b:List Nat),lv (a++b)=lv a+10 ^ a.length*lv b:=by
 intro a
 induction a with
 | nil=>intro b;simp [lv]
 | cons x a ih=>intro b;simp only [List.cons_append,lv,ih,List.length_cons,Nat.pow_succ,Nat.mul_add];rw [Nat.mul_comm (10 ^ a.length) 10,Nat.mul_assoc];omega
theorem dv_rev:∀ l:List Nat,dv l.reverse=lv l:=by
 intro l
 induction l with
 | nil=>rfl
 | cons b l ih=>rw [List.reverse_cons,dv_snoc,ih];simp only [lv];omega
theorem Dec.rev {l:List Nat} (h:Dec l):Dec l.reverse:=fun x hx=>h x (by simpa using hx)
theorem fin_tmpD {h:Hp} {t:Nat} {s:St} {v:V} (hv:gt s.tm t=v) (he:Ex1 v) (hc:DG h.rows.length s.hp) (hr:v.noRefs=true):fin Pg h [.tmp t] s=some (.val v h):=by
 unfold fin
 have e1:resV Pg s [.tmp t]=some [v]:=by simp only [resV,rho_gt,hv,Option.map_some]
 rw [e1]
 have e2:=exps_ex [v] s ⟨he,trivial⟩
 simp only [e2]
 unfold backHp
 rw [clean_dg hc]
 simp only [V.noRefsL,hr,Bool.and_self,cond_true]
theorem pow_lt_inv {a b c:Nat} (hc:1<c) (h:c ^ a<c ^ b):a<b:=by
 rcases Nat.lt_or_ge a b with q | q
 ·exact q
 ·have:=Nat.pow_le_pow_right (n:=c) (by omega) q;omega
theorem or_shl {c x:Nat} (hx:x<4294967296):c*4294967296 ||| x=c*4294967296+x:=by
 have:=Nat.two_pow_add_eq_or_of_lt (i:=32) hx c
 rw [show (2:Nat) ^ 32=4294967296 from rfl] at this
 rw [Nat.mul_comm,this]
end Go.AM.S
end
section
namespace Go.AM.S
open Go Go.AM Go.Proofs NumL
open _root_.Go.AM.G (R)
set_option maxRecDepth 100000
theorem drop_set_ge (l:List Nat) (i v:Nat):(l.set i v).drop (i+1)=l.drop (i+1):=by
 rw [List.drop_set]
 split
 ·rfl
 ·rw [List.set_eq_of_length_le];omega
end Go.AM.S
end
section
namespace Go.AM.S
open Go Go.AM Go.Proofs NumL
open _root_.Go.AM.G (R)
@[congr] theorem bO_congr {x y:Option V} {f:V→R} (h:x=y):bO x f=bO y f:=by rw [h]
@[congr] theorem brB_congr {x y:Option Bool} {a b:R} (h:x=y):brB x a b=brB y a b:=by rw [h]
attribute [go_sem ↓] jn_eq bO_some brB_true brB_false
attribute [go_sem] Bool.not_true Bool.not_false
end Go.AM.S
end
section
namespace Go.AM.S
open Go Go.AM Go.Proofs NumL
open _root_.Go.AM.G (R)
set_option maxRecDepth 100000
theorem tbl66:tbl 66=some ⟨rc66,[.tmp 2]⟩:=by kernel_rfl
def p0N (l:List Nat):Nat:=bif ng l then 1 else 0
theorem body_drop (l:List Nat):bodyN l=l.drop (p0N l):=by
 unfold bodyN p0N
 cases ng l<;>rfl
theorem p0_le (l:List Nat):p0N l≤l.length:=by
 unfold p0N
 cases h:ng l with
 | true=>exact ng_len h
 | false=>exact Nat.zero_le _
theorem p0_one (l:List Nat):decide (p0N l=1)=ng l:=by
 unfold p0N
 cases ng l<;>rfl
theorem getD_drop' (l:List Nat) (p i:Nat):(l.drop p).getD i 0=l.getD (p+i) 0:=by
 rw [List.getD_eq_getElem?_getD,List.getD_eq_getElem?_getD,List.getElem?_drop]
theorem right_spec {l:List Nat} (hd:Dg 256 l) (hl:l.length≤1000000):Gives 66 [.str (sl l)] fun r=>r=.bool (goodB l):=by
 have p1:=p0_one l
 have ple:=p0_le l
 have hb:=body_drop l
 have ple1:p0N l≤1:=by unfold p0N;cases ng l<;>decide
 refine gives_of tbl66 fun h Q hQ=>?_
 have done:∀ (st:St) (b:Bool),b=goodB l→gt st.tm 2=.bool b→st.hp=⟨h.rows,none,h.mods⟩→Q st:=by
  intro st b e h2 hh
  exact hQ st _ (fin_tmpD h2 (Ex1.bool _) (by rw [hh];exact fun x hx=>by cases hx) rfl) (by rw [e])
 unfold rc66
 refine sR ?_
 refine sR ?_
 refine ww_join (M:=fun s=>gt s.tm 0=.str (sl l)∧gt s.tm 3=.int .i64 (.ofNat (p0N l))∧s.hp=⟨h.rows,none,h.mods⟩) ?_ (fun s ⟨a0,a3,ah⟩=>?_)
 ·rcases Nat.eq_zero_or_pos l.length with h0 | h0
  ·have e:ng l=false:=by rw [List.length_eq_zero_iff.1 h0];rfl
   refine ww_seq (ww_reg (fun n k=>by simp -implicitDefEqProofs (disch:=omega) only [go_sem,reduceIte,Nat.reduceEqDiff,gt_start,List.getD_cons_zero,List.getD_cons_succ,d_false];rfl) ?_)
   refine ww_false sS (ww_skip ?_)
   exact ⟨sSG,by unfold p0N;rw [e];exact (by simp -implicitDefEqProofs (disch:=omega) only [go_sem,reduceIte,Nat.reduceEqDiff,cond_false]),rfl⟩
  ·refine ww_seq (ww_reg (fun n k=>by simp -implicitDefEqProofs (disch:=omega) only [go_sem,reduceIte,Nat.reduceEqDiff,gt_start,List.getD_cons_zero,List.getD_cons_succ,d_true,idx_sl hd];rfl) ?_)
   cases e:ng l with
   | true =>
    refine ww_true (by rw [show decide (l.getD 0 0=45)=ng l from rfl,e];exact sS) ?_
    refine sE ?_
    exact ⟨sSG,by unfold p0N;rw [e];exact (by simp -implicitDefEqProofs (disch:=omega) only [go_sem,reduceIte,Nat.reduceEqDiff,cond_true]),rfl⟩
   | false =>
    refine ww_false (by rw [show decide (l.getD 0 0=45)=ng l from rfl,e];exact sS) (ww_skip ?_)
    exact ⟨sSG,by unfold p0N;rw [e];exact (by simp -implicitDefEqProofs (disch:=omega) only [go_sem,reduceIte,Nat.reduceEqDiff,cond_false]),rfl⟩
 have hlenB:(bodyN l).length=l.length - p0N l:=by rw [hb,List.length_drop]
 have hget0:(bodyN l).getD 0 0=l.getD (p0N l) 0:=by rw [hb,getD_drop',Nat.add_zero]
 have hemp:(bodyN l).isEmpty=decide (p0N l=l.length):=by
  cases hbb:bodyN l with
  | nil=>rw [hbb] at hlenB;simp at hlenB;exact (decide_eq_true (by omega)).symm
  | cons x t=>rw [hbb] at hlenB;simp at hlenB;exact (decide_eq_false (by omega)).symm
 have hbad:badB l=(decide (p0N l=l.length) || (decide (l.getD (p0N l) 0=48)&&(decide (p0N l+1<l.length) || decide (p0N l=1)))):=by
  unfold badB
  rw [hemp,hget0,p1,hlenB]
  congr 3
  rw [show decide (1<l.length - p0N l)=decide (p0N l+1<l.length) by congr 1;apply propext;omega]
 refine ww_joinX (fun s2=>badB l=false∧gt s2.tm 0=.str (sl l)∧gt s2.tm 3=.int .i64 (.ofNat (p0N l))∧s2.hp=⟨h.rows,none,h.mods⟩) ?_ (fun s2 ⟨hbf,b0,b3,bh⟩=>?_)
 ·have quit:∀ tm,badB l=true→WW Pg kn0 tbl (.seq (.reg fun c t l h k=>k (p2 t (.bool false)) l h) .ret) ⟨tm,s.loc,s.hp⟩ (fun s2=>badB l=false∧gt s2.tm 0=.str (sl l)∧gt s2.tm 3=.int .i64 (.ofNat (p0N l))∧s2.hp=⟨h.rows,none,h.mods⟩) (fun _ _=>False) Q:=by
   intro tm hq
   refine sR ?_
   exact ww_ret (done _ false (by unfold goodB;rw [hq];rfl) sS ah)
  by_cases h1:p0N l=l.length
  ·have hq:badB l=true:=by rw [hbad,decide_eq_true h1];rfl
   refine ww_seq (ww_reg (fun n k=>by simp -implicitDefEqProofs (disch:=omega) only [go_sem,reduceIte,Nat.reduceEqDiff,a0,a3,h1,d_true];rfl) ?_)
   refine ww_true sS ?_
   exact quit _ hq
  ·have d1:decide (p0N l=l.length)=false:=decide_eq_false h1
   by_cases h2:l.getD (p0N l) 0=48
   ·by_cases h3:p0N l+1<l.length
    ·have hq:badB l=true:=by rw [hbad,d1,decide_eq_true h2,decide_eq_true h3];rfl
     refine ww_seq (ww_reg (fun n k=>by simp -implicitDefEqProofs (disch:=omega) only [go_sem,reduceIte,Nat.reduceEqDiff,a0,a3,d1,idx_sl hd,h2,d_true];rfl) ?_)
     refine ww_true sS ?_
     exact quit _ hq
    ·have d3:decide (p0N l+1<l.length)=false:=decide_eq_false h3
     by_cases h4:p0N l=1
     ·have hq:badB l=true:=by rw [hbad,d1,decide_eq_true h2,d3,decide_eq_true h4];rfl
      refine ww_seq (ww_reg (fun n k=>by simp -implicitDefEqProofs (disch:=omega) only [go_sem,reduceIte,Nat.reduceEqDiff,a0,a3,d1,idx_sl hd,h2,d_true,d3,decide_eq_true h4];rfl) ?_)
      refine ww_true sS ?_
      exact quit _ hq
     ·have hq:badB l=false:=by rw [hbad,d1,decide_eq_true h2,d3,decide_eq_false h4];rfl
      refine ww_seq (ww_reg (fun n k=>by simp -implicitDefEqProofs (disch:=omega) only [go_sem,reduceIte,Nat.reduceEqDiff,a0,a3,d1,idx_sl hd,h2,d_true,d3,decide_eq_false h4];rfl) ?_)
      refine ww_false sS (ww_skip ?_)
      exact ⟨hq,(sS1 a0),(sS1 a3),ah⟩
   ·have d2:decide (l.getD (p0N l) 0=48)=false:=decide_eq_false h2
    have hq:badB l=false:=by rw [hbad,d1,d2];rfl
    refine ww_seq (ww_reg (fun n k=>by simp -implicitDefEqProofs (disch:=omega) only [go_sem,reduceIte,Nat.reduceEqDiff,a0,a3,d1,idx_sl hd,d2];rfl) ?_)
    refine ww_false sS (ww_skip ?_)
    exact ⟨hq,(sS1 a0),(sS1 a3),ah⟩
 ·refine ww_seq (ww_for (fun m s=>∃ i,m+i=l.length∧p0N l≤i∧gt s.tm 0=.str (sl l)∧gt s.tm 3=.int .i64 (.ofNat i)∧s.hp=⟨h.rows,none,h.mods⟩∧Dec ((l.drop (p0N l)).take (i - p0N l))) (l.length - p0N l) ⟨p0N l,by omega,Nat.le_refl _,b0,b3,bh,by rw [Nat.sub_self];exact fun x hx=>by simp at hx⟩ ?_)
  intro m s ⟨i,hm,hi,c0,c3,ch,hD⟩
  refine sQ2 c0 c3 ?_
  refine ww_if (by simp only [gt_pt,reduceIte];rfl) (fun hlt=>ww_skip ?_) (fun hlt=>ww_exit ?_)
  ·have hx:l.getD i 0<256:=hd.get (by decide) i
   have hgi:l.getD i 0=(bodyN l).getD (i - p0N l) 0:=by rw [hb,getD_drop'];congr 1;omega
   have notD:¬(48≤l.getD i 0∧l.getD i 0≤57)→goodB l=false:=by
    intro hn
    unfold goodB
    rw [decide_eq_false (show ¬Dec (bodyN l) from fun hq=>hn (by
     have:=hq ((bodyN l).getD (i - p0N l) 0) (by rw [List.getD_eq_getElem?_getD,List.getElem?_eq_getElem (by omega)];exact List.getElem_mem _)
     rw [hgi];exact this))]
    simp
   refine ww_seq (ww_block ?_)
   by_cases h1:l.getD i 0<48
   ·refine ww_seq (ww_reg (fun n k=>by simp -implicitDefEqProofs (disch:=omega) only [go_sem,reduceIte,Nat.reduceEqDiff,c0,c3,idx_sl hd,decide_eq_true h1];rfl) ?_)
    refine ww_true sS ?_
    refine sR ?_
    exact ww_ret (done _ false (notD (by omega)).symm sS ch)
   ·by_cases h2:57<l.getD i 0
    ·refine ww_seq (ww_reg (fun n k=>by simp -implicitDefEqProofs (disch:=omega) only [go_sem,reduceIte,Nat.reduceEqDiff,c0,c3,idx_sl hd,decide_eq_false h1,decide_eq_true h2];rfl) ?_)
     refine ww_true sS ?_
     refine sR ?_
     exact ww_ret (done _ false (notD (by omega)).symm sS ch)
    ·refine ww_seq (ww_reg (fun n k=>by simp -implicitDefEqProofs (disch:=omega) only [go_sem,reduceIte,Nat.reduceEqDiff,c0,c3,idx_sl hd,decide_eq_false h1,decide_eq_false h2];rfl) ?_)
     refine ww_false sS (ww_skip ?_)
     refine sE1 c3 ?_
     refine ⟨m - 1,by omega,i+1,by omega,by omega,(sS1 c0),sS,ch,?_⟩
     rw [show i+1 - p0N l=(i - p0N l)+1 by omega,take_snoc _ _ (by rw [List.length_drop];omega),getD_drop',show p0N l+(i - p0N l)=i by omega]
     exact hD.snoc (by omega) (by omega)
  ·rw [if_pos rfl]
   refine sR ?_
   refine ww_ret (done _ true ?_ sS ch)
   have e:(l.drop (p0N l)).take (i - p0N l)=bodyN l:=by rw [hb,List.take_of_length_le (by rw [List.length_drop];omega)]
   rw [e] at hD
   unfold goodB
   rw [hbf,decide_eq_true hD];rfl
end Go.AM.S
end
section
namespace Go.AM.S
open Go Go.AM Go.Proofs NumL
open _root_.Go.AM.G (R)
set_option maxRecDepth 100000
theorem tbl67:tbl 67=some ⟨rc67,[.cell 4 31]⟩:=by kernel_rfl
def NR (v:V) (d:List Nat) (b:Bool):Prop:=(∃ s,v=.agg [.bool b,s]∧Sl .i64 s d)∧Dg 10000 d∧Cn d∧(d=[]→b=false)
theorem trim_spec {va:V} {a:List Nat} (ha:Sl .i64 va a) (da:Dg 10000 a) (la:a.length≤1000000000) (ng:Bool) :
  Gives 67 [.bool ng,va] fun r=>∃ d,NR r d (ng && !d.isEmpty)∧Tr0 a d:=by
 refine gives_of tbl67 fun h Q hQ=>?_
 unfold rc67
 refine sR ?_
 refine ww_join (M:=fun s=>∃ d v,gt s.tm 1=v∧Sl .i64 v d∧Tr0 a d∧Cn d∧gt s.tm 0=.bool ng∧gt s.tm 4=.ptr (.loc 4 1) 0∧lg s.loc 4=(1,.cells false [.bool false,.nils])∧s.hp=⟨h.rows,none,h.mods⟩) ?_ ?_
 ·refine ww_for (fun m s=>∃ d v,m=d.length∧gt s.tm 1=v∧Sl .i64 v d∧Tr0 a d∧gt s.tm 0=.bool ng∧gt s.tm 4=.ptr (.loc 4 1) 0∧lg s.loc 4=(1,.cells false [.bool false,.nils])∧s.hp=⟨h.rows,none,h.mods⟩) a.length ⟨a,va,rfl,sSG,ha,Tr0.refl a,sSG,sS,sS,rfl⟩ ?_
  intro m s ⟨d,v,hm,h1,hv,ht,h0,h4,hl4,hhp⟩
  have hln:=ht.len
  rcases Nat.eq_zero_or_pos d.length with hd | hd
  ·refine ww_seq (ww_seq (ww_reg (fun n k=>by simp -implicitDefEqProofs (disch:=omega) only [go_sem,reduceIte,Nat.reduceEqDiff,h1,len_sl hv,d_false];rfl) ?_))
   refine ww_false sS (ww_exit ?_)
   rw [if_pos rfl]
   exact ⟨d,v,(sS1 h1),hv,ht,fun i hi=>by omega,(sS1 h0),(sS1 h4),(sS1 hl4),hhp⟩
  ·have hx:d.getD (d.length - 1) 0<10000:=(ht.dg da).get (by decide) _
   by_cases hz:d.getD (d.length - 1) 0=0
   ·refine ww_seq (ww_seq (ww_reg (fun n k=>by simp -implicitDefEqProofs (disch:=omega) only [go_sem,reduceIte,Nat.reduceEqDiff,h1,len_sl hv,d_true,ia29 hv,hz];rfl) ?_))
    refine ww_true sS (ww_skip (ww_block ?_))
    refine ww_reg (fun n k=>by simp -implicitDefEqProofs (disch:=omega) only [go_sem,reduceIte,Nat.reduceEqDiff,h1,len_sl hv,sl29 hv];rfl) ?_
    exact ⟨d.length - 1,by omega,d.take (d.length - 1),_,by simp,sS,.inl ⟨false,rfl⟩,ht.next hd hz,(sS1 h0),(sS1 h4),(sS1 hl4),hhp⟩
   ·refine ww_seq (ww_seq (ww_reg (fun n k=>by simp -implicitDefEqProofs (disch:=omega) only [go_sem,reduceIte,Nat.reduceEqDiff,h1,len_sl hv,d_true,ia29 hv,d_false];rfl) ?_))
    refine ww_false sS (ww_exit ?_)
    rw [if_pos rfl]
    exact ⟨d,v,(sS1 h1),hv,ht,fun i hi=>by rw [show i=d.length - 1 by omega];exact hz,(sS1 h0),(sS1 h4),(sS1 hl4),hhp⟩
 ·intro s ⟨d,v,h1,hv,ht,hcn,h0,h4,hl4,hhp⟩
  have key:∀ b:Bool,b=(ng && !d.isEmpty)→NR (.agg [.bool b,v]) d (ng && !d.isEmpty):=by
   intro b hb
   subst hb
   exact ⟨⟨v,rfl,hv⟩,ht.dg da,hcn,fun e=>by subst e;simp⟩
  cases ng with
  | false =>
   refine ww_seq (ww_reg (fun n k=>by simp -implicitDefEqProofs (disch:=omega) only [go_sem,reduceIte,Nat.reduceEqDiff,h0,h1,h4,hl4,b67_3_7 (Pl.bool false) hv.pl,stc_two N31 1 (.bool false) v (.bool false) .nils _ rfl hv.pl.ok];rfl) ?_)
   exact ww_ret (hQ _ _ (fin_cell (x:=.bool false) (y:=v) (f:=false) (d:=4) (g:=1) (by kernel_rfl) (sS1 h4) (sS1 hl4) (Pl.bool _) hv.pl (by rw [hhp])) ⟨d,key false (by simp),ht⟩)
  | true =>
   refine ww_seq (ww_reg (fun n k=>by simp -implicitDefEqProofs (disch:=omega) only [go_sem,reduceIte,Nat.reduceEqDiff,h0,h1,h4,hl4,len_sl hv,b67_3_7 (Pl.bool _) hv.pl,stc_two N31 1 (.bool (decide (0<d.length))) v (.bool false) .nils _ rfl hv.pl.ok];rfl) ?_)
   refine ww_ret (hQ _ _ (fin_cell (x:=.bool (decide (0<d.length))) (y:=v) (f:=false) (d:=4) (g:=1) (by kernel_rfl) (sS1 h4) (sS1 hl4) (Pl.bool _) hv.pl (by rw [hhp])) ⟨d,key _ ?_,ht⟩)
   cases d with
   | nil=>rfl
   | cons x l=>simp
end Go.AM.S
end
section
namespace Go.AM.S
open Go Go.AM Go.Proofs NumL
open _root_.Go.AM.G (R)
set_option maxRecDepth 100000
theorem tbl16:tbl 16=some ⟨rc16,[.cell 2 31,.tmp 3]⟩:=by kernel_rfl
theorem bs_one {P:Program} {t e:TypeId} {z v:V} (he:F.elemT P t=some e) (hl:F.layE P e=some (1,false)) (hz:F.zeroV P e=some z) (h1:F.noRefsR z=true) (h2:z.live=true) (h3:z.cells=[z]) (hv:v.live=true∧F.noRefsR v=true∧v.cells=[v]) (hf:filE 1 [(0,v)] (F.repR 1 z)=some [v]):bs P t 1 [(0,v)]=some (.slice none true 1 [v]):=by
 unfold bs
 rw [he]
 show G.onSome (F.layE P e) _ none=_
 rw [hl]
 show G.onSome (F.zeroV P e) _ none=_
 rw [hz]
 show (bif Nat.ble (Nat.mul 1 1) 16777216&&F.noRefsR z&&z.live&&Nat.beq (F.lenR z.cells) 1 then G.onSome (filE 1 [(0,v)] (F.repR 1 z)) (fun l=>some (V.slice none true 1 l)) none else none)=_
 rw [h1,h2,h3,hf]
 rfl
theorem bs29 (n:Nat):bs Pg 29 1 [(0,.int .i64 (.ofNat n))]=some (.slice none true 1 (nl .i64 [n])) :=
 bs_one E29 L3 Z3 rfl rfl rfl ⟨rfl,rfl,rfl⟩ rfl
theorem i_gtr_neg (k:IntKind) (m n:Nat):G.int2 .gtr k (.negSucc m) (.ofNat n)=some (.bool false):=rfl
theorem mx_neg0 (k k':IntKind) (m n:Nat):mxV (.int k (.negSucc m)) (.int k' (.ofNat n))=some (.int k (.ofNat n)):=rfl
theorem clx2 {call:CallF} {f:FuncId} {w v v':V} {tm:Tm} {loc:Lo} {hp h':Hp} {j:V→Lo→Hp→R} {r:V} (hw:Ex1 w) (hv:∀ st,AM.exp false st v=some (v',st)) (hc:call f [w,v'] hp=some (.val r h')):cl call f [w,v] tm loc hp j=j r loc h':=by
 refine cl_val (st:=⟨.lf,loc,hp⟩) (l:=[w,v']) ?_ hc
 unfold exps
 rw [hw]
 simp only [exps,hv]
theorem Tk.out {loc:Lo} {d:Nat} {v:V} {k:IntKind} {l:List Nat} (h:Tk loc d v k l):∃ v',Sl k v' l∧∀ st,AM.exp false st v=some (v',st):=by
 rcases h with ⟨rfl,rfl⟩ | ⟨_,g,rfl,_⟩
 ·exact ⟨.nils,.inr ⟨rfl,rfl⟩,Pl.nils.ex⟩
 ·exact ⟨.slice none false 1 (nl k l),.inl ⟨false,rfl⟩,fun _=>rfl⟩
theorem Tk.frame {loc loc':Lo} {d:Nat} {v:V} {k:IntKind} {l:List Nat} (h:Tk loc d v k l) (hf:lg loc' d=lg loc d):Tk loc' d v k l:=by
 rcases h with h | ⟨h0,g,h1,h2⟩
 ·exact .inl h
 ·exact .inr ⟨h0,g,h1,hf.trans h2⟩
def zr (d:List Nat) (b:Bool):Int:=bif b then -(vl 10000 d:Int) else (vl 10000 d:Int)
def IsR (k:Nat) (v:V) (z:Int):Prop:=∃ d b,NR v d b∧z=zr d b∧d.length≤k
theorem IsR.mono {k l:Nat} {v:V} {z:Int} (h:IsR k v z) (hl:k≤l):IsR l v z:=by
 obtain ⟨d,b,h1,h2,h3⟩:=h
 exact ⟨d,b,h1,h2,by omega⟩
theorem zeroR:IsR 0 (.agg [.bool false,.nils]) 0:=⟨[],false,⟨⟨.nils,rfl,.inr ⟨rfl,rfl⟩⟩,Dg.nil _,fun i hi=>by simp at hi,fun _=>rfl⟩,rfl,by simp⟩
theorem dv_eq (l:List Nat):dv l=lv l.reverse:=by rw [←dv_rev,List.reverse_reverse]
theorem dv_app (a b:List Nat):dv (a++b)=dv a*10 ^ b.length+dv b:=by
 rw [dv_eq,dv_eq a,dv_eq b,List.reverse_append,lv_app,List.length_reverse,Nat.mul_comm,Nat.add_comm]
theorem lv_lt:∀ {l:List Nat},Dec l→lv l<10 ^ l.length:=by
 intro l
 induction l with
 | nil=>intro _;simp [lv]
 | cons x l ih =>
  intro h
  have h1:=ih (fun y hy=>h y (by simp [hy]))
  have h2:=h x (by simp)
  simp only [lv,List.length_cons,Nat.pow_succ]
  omega
theorem dv_lt {l:List Nat} (h:Dec l):dv l<10 ^ l.length:=by
 rw [dv_eq]
 have:=lv_lt h.rev
 rwa [List.length_reverse] at this
theorem good_pos {l:List Nat} (h:goodB l=true):0<(bodyN l).length∧Dec (bodyN l)∧badB l=false:=by
 unfold goodB at h
 have h1:badB l=false:=by cases hb:badB l with | false=>rfl | true=>rw [hb] at h;simp at h
 refine ⟨?_,?_,h1⟩
 ·cases hb:bodyN l with
  | nil=>unfold badB at h1;rw [hb] at h1;simp at h1
  | cons x t=>simp
 ·rw [h1] at h;simpa using h
theorem parseR_spec {l:List Nat} (hd:Dg 256 l) (hl:l.length≤1000):Gives 16 [.str (sl l)] fun r=>∃ v,r=.tuple [v,.bool (goodB l)]∧IsR 252 v (zOf l):=by
 have rd:=bodyN_dg hd
 have rl:=bodyN_len l
 refine gives_of tbl16 fun h Q hQ=>?_
 obtain ⟨_,hrt,rfl⟩:=right_spec hd (by omega) ⟨h.rows,none,h.mods⟩
 unfold rc16
 refine sRG ?_
 refine ww_joinX (fun s=>goodB l=true∧gt s.tm 0=.str (sl l)∧gt s.tm 2=.ptr (.loc 2 1) 0∧lg s.loc 2=(1,.cells false [.bool false,.nils])∧s.hp=⟨h.rows,none,h.mods⟩) ?_ (fun s ⟨hg,a0,a2,al,ah⟩=>?_)
 ·refine ww_seq (ww_call (hrt) (fun n hn k=>by simp -implicitDefEqProofs (disch:=omega) only [go_sem,reduceIte,Nat.reduceEqDiff,gt_start,List.getD_cons_zero,List.getD_cons_succ,clc1 hn (Ex1.str _)];rfl) ?_)
  cases hg:goodB l with
  | true =>
   refine ww_false (by simp -implicitDefEqProofs (disch:=omega) only [go_sem,reduceIte,Nat.reduceEqDiff,Bool.not_true]) (ww_skip ?_)
   exact ⟨rfl,sSG,sS,sS,rfl⟩
  | false =>
   refine ww_true (by simp -implicitDefEqProofs (disch:=omega) only [go_sem,reduceIte,Nat.reduceEqDiff,Bool.not_false]) ?_
   refine ww_seq (ww_reg (fun n k=>by simp -implicitDefEqProofs (disch:=omega) only [go_sem,reduceIte,Nat.reduceEqDiff,stc_two N31 1 (.bool false) .nils (.bool false) .nils _ rfl rfl];rfl) ?_)
   refine ww_ret (hQ _ _ (fin_cell_tmp (x:=.bool false) (y:=.nils) (w:=.bool false) (f:=false) (d:=2) (g:=1) (by kernel_rfl) sS sS (Pl.bool _) Pl.nils sS (Pl.bool _) (fun x hx=>by cases hx)) ⟨_,by rw [hg],?_⟩)
   have e:zOf l=0:=by unfold zOf;rw [hg];rfl
   rw [e]
   exact zeroR.mono (by omega)
 obtain ⟨hpos,hdec,hbad⟩:=good_pos hg
 have hl0:0<l.length:=by omega
 refine ww_seq (ww_reg (fun n k=>by simp -implicitDefEqProofs (disch:=omega) only [go_sem,reduceIte,Nat.reduceEqDiff,a0,idx_sl hd];rfl) ?_)
 refine ww_join (M:=fun s2=>gt s2.tm 0=.str (sl (bodyN l))∧gt s2.tm 4=.bool (ng l)∧gt s2.tm 2=.ptr (.loc 2 1) 0∧lg s2.loc 2=(1,.cells false [.bool false,.nils])∧s2.hp=⟨h.rows,none,h.mods⟩) ?_ (fun s2 ⟨b0,b4,b2,bl,bh⟩=>?_)
 ·refine sR ?_
  cases hng:ng l with
  | true =>
   have eb:bodyN l=l.drop 1:=by unfold bodyN;rw [hng];rfl
   refine ww_true (by rw [show decide (l.getD 0 0=45)=ng l from rfl,hng];exact sS) ?_
   refine ww_reg (fun n k=>by simp -implicitDefEqProofs (disch:=omega) only [go_sem,reduceIte,Nat.reduceEqDiff,a0,slc_str hd];rfl) ?_
   exact ⟨by rw [eb];exact sS,by rw [show decide (l.getD 0 0=45)=ng l from rfl,hng];exact sS,(sS1 a2),(by simp -implicitDefEqProofs (disch:=omega) only [go_sem,reduceIte,Nat.reduceEqDiff,al]),ah⟩
  | false =>
   have eb:bodyN l=l:=by unfold bodyN;rw [hng];rfl
   refine ww_false (by rw [show decide (l.getD 0 0=45)=ng l from rfl,hng];exact sS) (ww_skip ?_)
   exact ⟨by rw [eb];exact (sS1 a0),by rw [show decide (l.getD 0 0=45)=ng l from rfl,hng];exact sS,(sS1 a2),(by simp -implicitDefEqProofs (disch:=omega) only [go_sem,reduceIte,Nat.reduceEqDiff,al]),ah⟩
 generalize hr:bodyN l=r at *
 refine sR ?_
 refine ww_join (M:=fun s3=>∃ v5 out,gt s3.tm 5=v5∧Tk s3.loc 44 v5 .i64 out∧Dg 10000 out∧vl 10000 out=dv r∧out.length≤252∧gt s3.tm 4=.bool (ng l)∧gt s3.tm 2=.ptr (.loc 2 1) 0∧lg s3.loc 2=(1,.cells false [.bool false,.nils])∧s3.hp=⟨h.rows,none,h.mods⟩) ?_ (fun s3 ⟨v5,out,c5,ctk,cdg,cvl,clen,c4,c2,cl2,ch⟩=>?_)
 ·refine sR1 b0 ?_
  refine ww_for (fun m s3=>∃ v5 out z,gt s3.tm 0=.str (sl r)∧gt s3.tm 5=v5∧Tk s3.loc 44 v5 .i64 out∧Dg 10000 out∧vl 10000 out=dv (r.drop m)∧m≤r.length∧(0<m→4*out.length=r.length - m)∧4*out.length≤r.length+3∧gt s3.tm 6=.int .i64 z∧(z=.ofNat m∨(m=0∧∃ q,z=.negSucc q))∧gt s3.tm 4=.bool (ng l)∧gt s3.tm 2=.ptr (.loc 2 1) 0∧lg s3.loc 2=(1,.cells false [.bool false,.nils])∧s3.hp=⟨h.rows,none,h.mods⟩) r.length ⟨.nils,[],.ofNat r.length,(sS1 b0),sS,.inl ⟨rfl,rfl⟩,Dg.nil _,by simp [vl,dv],Nat.le_refl _,fun _=>by simp,by simp,sS,.inl rfl,(sS1 b4),(sS1 b2),(by simp -implicitDefEqProofs (disch:=omega) only [go_sem,reduceIte,Nat.reduceEqDiff,bl]),bh⟩ ?_
  intro i s3 ⟨v5,out,z,c0,c5,ctk,cdg,cvl,hi,hfour,hfour2,c6,hz,c4,c2,cl2,ch⟩
  have stop:i=0→∃ v5 out,gt s3.tm 5=v5∧Tk s3.loc 44 v5 .i64 out∧Dg 10000 out∧vl 10000 out=dv r∧out.length≤252∧gt s3.tm 4=.bool (ng l)∧gt s3.tm 2=.ptr (.loc 2 1) 0∧lg s3.loc 2=(1,.cells false [.bool false,.nils])∧s3.hp=⟨h.rows,none,h.mods⟩:=by
   intro e
   subst e
   exact ⟨v5,out,c5,ctk,cdg,by simpa using cvl,by omega,c4,c2,cl2,ch⟩
  rcases hz with rfl | ⟨e0,q,rfl⟩
  ·refine sQ1 c6 ?_
   refine ww_if (by simp only [gt_pt,reduceIte];rfl) (fun hi0=>ww_skip ?_) (fun hi0=>ww_exit ?_)
   ·refine ww_seq (ww_block ?_)
    refine sR ?_
    refine ww_join (M:=fun s4=>gt s4.tm 7=.int .i64 (.ofNat (dv ((r.take i).drop (i - 4))))∧Kp [0,2,4,5,6] s3.tm s4.tm∧s4.loc=s3.loc∧s4.hp=s3.hp) ?_ (fun s4 ⟨d7,dk,dl,dh⟩=>?_)
    ·refine ww_join (M:=fun s4=>gt s4.tm 8=.int .i64 (.ofNat (i - 4))∧gt s4.tm 7=.int .i64 (.ofNat 0)∧Kp [0,2,4,5,6] s3.tm s4.tm∧s4.loc=s3.loc∧s4.hp=s3.hp) ?_ (fun s4 ⟨d8,d7,dk,dl,dh⟩=>?_)
     ·by_cases h4:4≤i
      ·refine sE1 c6 ?_
       exact ⟨(by simp -implicitDefEqProofs (disch:=omega) only [go_sem,reduceIte,Nat.reduceEqDiff,Nat.max_eq_left]),sS,(by (try dsimp only);repeat (first | with_reducible exact Kp_refl _ _ | with_reducible refine Kp_pt (by decide) ?_)),rfl,rfl⟩
      ·refine ww_reg (fun n k=>by simp -implicitDefEqProofs (disch:=omega) only [go_sem,reduceIte,Nat.reduceEqDiff,c6,i_sub_neg,mx_neg0];rfl) ?_
       exact ⟨by rw [show i - 4=0 by omega];exact sS,sS,(by (try dsimp only);repeat (first | with_reducible exact Kp_refl _ _ | with_reducible refine Kp_pt (by decide) ?_)),rfl,rfl⟩
     ·refine ww_for (fun m s5=>∃ k,m+k=i∧i - 4≤k∧gt s5.tm 8=.int .i64 (.ofNat k)∧gt s5.tm 7=.int .i64 (.ofNat (dv ((r.take k).drop (i - 4))))∧Kp [0,2,4,5,6] s3.tm s5.tm∧s5.loc=s3.loc∧s5.hp=s3.hp) (i - (i - 4)) ⟨i - 4,by omega,Nat.le_refl _,d8,by rw [List.drop_eq_nil_of_le (by simp;omega)];exact d7,dk,dl,dh⟩ ?_
      intro m s5 ⟨k,hk,hik,e8,e7,ek,el,eh⟩
      have e6:=(ek 6 (by decide)).trans c6;have e0:=(ek 0 (by decide)).trans c0
      refine sQ2 e8 e6 ?_
      refine ww_if (by simp only [gt_pt,reduceIte];rfl) (fun hlt=>ww_skip ?_) (fun hlt=>ww_exit ?_)
      ·have hkr:k<r.length:=by omega
       have hx:=hdec (r.getD k 0) (by rw [List.getD_eq_getElem?_getD,List.getElem?_eq_getElem hkr];exact List.getElem_mem _)
       have hdk:Dec ((r.take k).drop (i - 4)):=fun x hx=>hdec x (List.mem_of_mem_take (List.mem_of_mem_drop hx))
       have hlt4:=dv_lt hdk
       have hlen4:((r.take k).drop (i - 4)).length≤3:=by simp;omega
       have hp4:10 ^ ((r.take k).drop (i - 4)).length≤10 ^ 3:=Nat.pow_le_pow_right (by decide) hlen4
       have hp4':dv ((r.take k).drop (i - 4))<1000:=Nat.lt_of_lt_of_le hlt4 hp4
       refine ww_seq (ww_block ?_)
       refine ww_reg (fun n k=>by simp -implicitDefEqProofs (disch:=omega) only [go_sem,reduceIte,Nat.reduceEqDiff,e7,e8,e0,idx_sl rd];rfl) ?_
       refine sE1 e8 ?_
       refine ⟨m - 1,by omega,k+1,by omega,by omega,sS,?_,?_,el,eh⟩
       ·rw [take_snoc r k hkr,List.drop_append_of_le_length (by simp;omega),dv_snoc]
        exact sS
       ·intro j hj
        rw [gt_pt,if_neg (by intro e;subst e;simp at hj),gt_pt,if_neg (by intro e;subst e;simp at hj),gt_pt,if_neg (by intro e;subst e;simp at hj)]
        exact ek j hj
      ·rw [if_pos rfl]
       have e:k=i:=by omega
       subst e
       refine ⟨(sS1 e7),?_,el,eh⟩
       intro j hj
       rw [gt_pt,if_neg (by intro e;subst e;simp at hj)]
       exact ek j hj
    ·have hdk:Dec ((r.take i).drop (i - 4)):=fun x hx=>hdec x (List.mem_of_mem_take (List.mem_of_mem_drop hx))
     have hlt4:=dv_lt hdk
     have hlen4:((r.take i).drop (i - 4)).length≤4:=by simp;omega
     have hp4:dv ((r.take i).drop (i - 4))<10000:=Nat.lt_of_lt_of_le hlt4 (Nat.pow_le_pow_right (n:=10) (by decide) hlen4)
     obtain ⟨v6,l6,happ,htk6,hfr6⟩:=a16_15_3 [dv ((r.take i).drop (i - 4))] none true (ctk.frame (loc':=s4.loc) (by rw [dl])) (by simp) (by simp;omega)
     have f5:=(dk 5 (by decide)).trans c5;have f6:=(dk 6 (by decide)).trans c6;have f0:=(dk 0 (by decide)).trans c0;have f4:=(dk 4 (by decide)).trans c4;have f2:=(dk 2 (by decide)).trans c2
     refine ww_reg (fun n k=>by simp -implicitDefEqProofs (disch:=omega) only [go_sem,reduceIte,Nat.reduceEqDiff,d7,f5,bs29,happ];rfl) ?_
     have hvl6:vl 10000 (out++[dv ((r.take i).drop (i - 4))])=dv (r.drop (i - 4)):=by
      rw [vl_append,vl_one,cvl]
      have e1:r.drop (i - 4)=(r.take i).drop (i - 4)++r.drop i:=by
       conv=>lhs;rw [←List.take_append_drop i r]
       rw [List.drop_append_of_le_length (by simp;omega)]
      rw [e1,dv_app,List.length_drop,←hfour hi0,Nat.pow_mul,Nat.mul_comm,Nat.add_comm]
     have hl2:lg l6 2=(1,.cells false [.bool false,.nils]):=by rw [hfr6 2 (by decide),dl];exact cl2
     have h4:=hfour hi0
     by_cases hi4:4≤i
     ·refine sE1 f6 ?_
      exact ⟨i - 4,by omega,v6,_,.ofNat (i - 4),(sS1 f0),sS,htk6,cdg.snoc hp4,hvl6,by omega,fun _=>by simp;omega,by simp;omega,sS,.inl rfl,(sS1 f4),(sS1 f2),hl2,dh.trans ch⟩
     ·refine ww_reg (fun n k=>by simp -implicitDefEqProofs (disch:=omega) only [go_sem,reduceIte,Nat.reduceEqDiff,f6,i_sub_neg];rfl) ?_
      exact ⟨i - 4,by omega,v6,_,.negSucc (4 - i - 1),(sS1 f0),sS,htk6,cdg.snoc hp4,hvl6,by omega,fun q=>by omega,by simp;omega,sS,.inr ⟨by omega,_,rfl⟩,(sS1 f4),(sS1 f2),hl2,dh.trans ch⟩
   ·rw [if_pos rfl]
    obtain ⟨v,o,q⟩:=stop (by omega)
    exact ⟨v,o,(by simp -implicitDefEqProofs (disch:=omega) only [go_sem,reduceIte,Nat.reduceEqDiff,q.1]),q.2.1,q.2.2.1,q.2.2.2.1,q.2.2.2.2.1,(by simp -implicitDefEqProofs (disch:=omega) only [go_sem,reduceIte,Nat.reduceEqDiff,q.2.2.2.2.2.1]),(by simp -implicitDefEqProofs (disch:=omega) only [go_sem,reduceIte,Nat.reduceEqDiff,q.2.2.2.2.2.2.1]),q.2.2.2.2.2.2.2⟩
  ·refine ww_seq (ww_seq (ww_reg (fun n k=>by simp -implicitDefEqProofs (disch:=omega) only [go_sem,reduceIte,Nat.reduceEqDiff,c6,i_gtr_neg];rfl) ?_))
   refine ww_false sS (ww_exit ?_)
   rw [if_pos rfl]
   obtain ⟨v,o,q⟩:=stop e0
   exact ⟨v,o,(by simp -implicitDefEqProofs (disch:=omega) only [go_sem,reduceIte,Nat.reduceEqDiff,q.1]),q.2.1,q.2.2.1,q.2.2.2.1,q.2.2.2.2.1,(by simp -implicitDefEqProofs (disch:=omega) only [go_sem,reduceIte,Nat.reduceEqDiff,q.2.2.2.2.2.1]),(by simp -implicitDefEqProofs (disch:=omega) only [go_sem,reduceIte,Nat.reduceEqDiff,q.2.2.2.2.2.2.1]),q.2.2.2.2.2.2.2⟩
 ·obtain ⟨v6,hsl,hex⟩:=ctk.out
  obtain ⟨w,hrun,d,hw,ht⟩:=trim_spec hsl cdg (by omega) (ng l) ⟨h.rows,none,h.mods⟩
  have hw0:=hw
  obtain ⟨⟨x,rfl,hx⟩,_⟩:=hw
  refine ww_seq (ww_call (hrun) (fun n hn k=>by simp -implicitDefEqProofs (disch:=omega) only [go_sem,reduceIte,Nat.reduceEqDiff,c2,c4,c5,ch,cl2,clx2 (Ex1.bool _) hex hn,stc_two N31 1 (.bool (ng l && !d.isEmpty)) x (.bool false) .nils _ rfl hx.pl.ok];rfl) ?_)
  refine ww_ret (hQ _ _ (fin_cell_tmp (x:=.bool (ng l && !d.isEmpty)) (y:=x) (w:=.bool true) (f:=false) (d:=2) (g:=1) (by kernel_rfl) (sS1 c2) sS (Pl.bool _) hx.pl sS (Pl.bool _) (fun x hx=>by cases hx)) ⟨_,by rw [hg],d,_,hw0,?_,by have:=ht.len;omega⟩)
  have e6:=ht.vl 10000
  rw [cvl] at e6
  unfold zOf zr
  rw [hg,hr]
  cases hng:ng l with
  | false=>simp only [Bool.false_and,cond_false,cond_true,e6]
  | true =>
   cases d with
   | nil=>simp only [vl] at e6;simp only [List.isEmpty_nil,Bool.not_true,Bool.and_false,cond_false,cond_true,vl,←e6];rfl
   | cons x0 l0=>simp only [List.isEmpty_cons,Bool.not_false,Bool.and_self,cond_true,e6]
end Go.AM.S
end
section
namespace Go.AM.S
open Go Go.AM Go.Proofs NumL
open _root_.Go.AM.G (R)
section
variable {P:Program} {C:Cfg} {call:CallF} {gl:Nat→Bool} {o:Oper} {loc:Lo} {hp:Hp}
end
end Go.AM.S
end
section
namespace Go.AM.S
open Go Go.AM Go.Proofs NumL
open _root_.Go.AM.G (R)
set_option maxRecDepth 100000
theorem vl_pos_of {B:Nat} {d:List Nat} (hc:Cn d) (hd:d≠[]) (hB:0<B):0<vl B d:=by
 have h1:=vl_ge (B:=B) hc hd
 have h2:0<B ^ (d.length - 1):=Nat.pow_pos hB
 omega
theorem getD_last_snoc (l:List Nat) (x:Nat):(l++[x]).getD ((l++[x]).length - 1) 0=x:=by
 rw [List.getD_eq_getElem?_getD];simp
end Go.AM.S
end
section
namespace Go.AM.S
open Go Go.AM Go.Proofs NumL
open _root_.Go.AM.G (R)
end Go.AM.S
end
section
namespace Go.AM.S
open Go Go.AM Go.Proofs NumL
open _root_.Go.AM.G (R)
set_option maxRecDepth 100000
theorem ia_any {P:Program} {t e:TypeId} {ag:Bool} (he:F.elemT P t=some e) (hl:F.layE P e=some (1,ag)) (tok:Option Ref) (f:Bool) (k':IntKind) (l:List V) (i:Nat) (v:V) (h:l[i]? = some v) (hc:v.cells=[v]) :
  ia P t (.slice tok f 1 l) (.int k' (.ofNat i))=some (.iptr [v]):=by
 show G.onSome (F.elemT P t) _ none=_
 rw [he]
 show G.onSome (F.layE P e) _ none=_
 rw [hl]
 show (bif Nat.blt i (F.lenR l) then G.onSome (F.nthR l i) _ none else none)=_
 have hi:i<l.length:=by
  rcases Nat.lt_or_ge i l.length with q | q
  ·exact q
  ·rw [List.getElem?_eq_none q] at h;cases h
 rw [F.lenR_eq,show Nat.blt i l.length=true from by rw [Nat.blt_eq];exact hi,F.nthR_eq,h]
 show some (V.iptr v.cells)=_
 rw [hc]
theorem NR.quiet {v:V} {d:List Nat} {b:Bool} (h:NR v d b):AM.quiet v=true:=by
 obtain ⟨⟨s,rfl,hs⟩,_⟩:=h
 rcases hs with ⟨f,rfl⟩ | ⟨rfl,_⟩<;>rfl
theorem exR {s:V} {d:List Nat} (hs:Sl .i64 s d) (b:Bool):Ex1 (.agg [.bool b,s]):=fun st=>exp_agg (by intro u hu;simp at hu;rcases hu with rfl | rfl;exact Pl.bool _;exact hs.pl) st
theorem NR.ex {v:V} {d:List Nat} {b:Bool} (h:NR v d b):Ex1 v:=by
 obtain ⟨⟨s,rfl,hs⟩,_⟩:=h
 exact exR hs b
theorem IsI.ex {k:Nat} {v:V} {z:Int} (h:IsI k v z):Ex1 v:=by obtain ⟨d,b,h1,_⟩:=h;exact h1.ex
theorem IsI.quiet {k:Nat} {v:V} {z:Int} (h:IsI k v z):AM.quiet v=true:=by obtain ⟨d,b,h1,_⟩:=h;exact h1.quiet
end Go.AM.S
end
section
namespace Go.AM.S
open Go Go.AM Go.Proofs NumL
open _root_.Go.AM.G (R)
set_option maxRecDepth 100000
section
variable {P:Program} {C:Cfg} {call:CallF} {gl:Nat→Bool} {o:Oper} {t' tm:Tm} {loc:Lo} {hp:Hp} {j:V→Lo→Hp→R}
theorem gen_pair {d:Nat} {x y:Operand} {t e:TypeId} {k:IntKind} {n m:Nat} (hd:o.dst=some d) (ho:o.op=.buildSlice t 2 #[(0,x),(1,y)]) (ha:C.isArr t=true) (hg:gl d=false) (he:elemT P t=some e) (hl:layE P e=some (1,false))
  {k0:IntKind} {n0:Int} (hz:zeroV P e=some (.int k0 n0)) (hv:AM.opd (⟨t',loc,hp⟩:St).ρ x=.int k (.ofNat n)) (hw:AM.opd (⟨t',loc,hp⟩:St).ρ y=.int k (.ofNat m)) :
  gen P C call gl o t' tm loc hp j=j (.arr (.loc d ((lg loc d).1+1)) 0 2 (some 2) 1 false) (lp loc d ((lg loc d).1+1,.cells false (nl k [n,m]))) hp:=by
 refine gen_val (v:=.arr (.loc d ((lg loc d).1+1)) 0 2 (some 2) 1 false) (st:=⟨t',lp loc d ((lg loc d).1+1,.cells false (nl k [n,m])),hp⟩) hd ?_
 have hp1:locV P C gl (⟨t',loc,hp⟩:St).ρ (⟨t',loc,hp⟩:St).lc o=none:=by
  unfold locV
  simp only [ho,pureV,he,hl,hz,ha,Bool.not_true,Bool.false_and,cond_false,Option.map_none]
 unfold stepV
 rw [hp1]
 unfold stepG
 simp only [ho,hd,he,hl,hz,opds,List.map_cons,List.map_nil,hv,hw,exps,exp,exp1,V.live,V.noLoc,Bool.and_self,cond_true,ha,hg,addRow,cond_false,lc_lg,aset_lp]
 rfl
end
theorem pr21 (n m:Nat) (l:Lo) (h:Hp) (c:CallF) (t:Tm) (j:V→Lo→Hp→R):go2 Try.f21 21 4 5 11 14 (.int .u32 (.ofNat n)) (.int .u32 (.ofNat m)) c t l h j=j (.arr (.loc 15 ((lg l 15).1+1)) 0 2 (some 2) 1 false) (lp l 15 ((lg l 15).1+1,.cells false (nl .u32 [n,m]))) h :=
 gen_pair (C:=Cg) (gl:=Cg.glob 21) (call:=c) (tm:=t) (loc:=l) (hp:=h) (j:=j) (t':=pt (pt .lf 11 (.int .u32 (.ofNat n))) 14 (.int .u32 (.ofNat m))) (k:=.u32) (n:=n) (m:=m) (o:=opA Try.f21 4 5) (d:=15) (x:=.tmp 11) (y:=.tmp 14) (t:=24) (e:=86) (by kernel_rfl) (by kernel_rfl) (by kernel_rfl) (by kernel_rfl) (by kernel_rfl) (by kernel_rfl) (show zeroV Pg 86=some (.int .u32 (.ofNat 0)) by kernel_rfl) (by rw [opd_gt,gt_pt,if_neg (by decide),gt_pt,if_pos rfl]) (by rw [opd_gt,gt_pt,if_pos rfl])
theorem tbl21:tbl 21=some ⟨rc21,[.cell 2 26]⟩:=by kernel_rfl
theorem wrap_u64_int' (n:Int):F.wrapI .u64 n=.ofNat (n % 18446744073709551616).toNat:=by
 rw [F.wrapI_eq]
 have h:0≤n % 18446744073709551616:=Int.emod_nonneg _ (by decide)
 show n % 18446744073709551616=_
 exact (Int.toNat_of_nonneg h).symm
theorem wrap_u64_negS {n:Nat} (h:n<18446744073709551616):F.wrapI .u64 (.negSucc n)=.ofNat (18446744073709551615 - n):=by
 rw [wrap_u64_int']
 have e:((Int.negSucc n) % 18446744073709551616).toNat=18446744073709551615 - n:=by omega
 rw [e]
theorem un_neg64 {m:Nat} (h0:0<m) (h:m≤18446744073709551616):G.un .neg (.int .u64 (.ofNat m))=some (.int .u64 (.ofNat (18446744073709551616 - m))):=by
 show some (V.int .u64 (F.wrapI .u64 (Int.sub 0 (.ofNat m))))=_
 rw [wrap_u64_int']
 have e:(Int.sub 0 (.ofNat m) % 18446744073709551616).toNat=18446744073709551616 - m:=by
  show ((0 - (m:Int)) % 18446744073709551616).toNat=_
  omega
 rw [e]
theorem i_lss_neg (k:IntKind) (m n:Nat):G.int2 .lss k (.negSucc m) (.ofNat n)=some (.bool true):=rfl
theorem of_spec {z:Int} (h1:-9223372036854775808≤z) (h2:z≤9223372036854775807):Gives 21 [.int .i64 z] fun r=>IsI 2 r z:=by
 refine gives_of tbl21 fun h Q hQ=>?_
 unfold rc21
 refine sR ?_
 have hab:z.natAbs≤9223372036854775808:=by omega
 have neg:G.int2 .lss .i64 z (.ofNat 0)=some (.bool (decide (z<0))):=by
  cases z with
  | ofNat n=>rw [i_lss,decide_eq_false (Nat.not_lt_zero n),decide_eq_false (show ¬(Int.ofNat n<0) from Int.not_lt.2 (Int.natCast_nonneg n))]
  | negSucc n=>rw [i_lss_neg,decide_eq_true (Int.negSucc_lt_zero n)]
 refine ww_joinX (fun s=>gt s.tm 3=.int .u64 (.ofNat (if z<0 then 18446744073709551616 - z.natAbs else z.natAbs))∧gt s.tm 0=.int .i64 z∧gt s.tm 2=.ptr (.loc 2 1) 0∧lg s.loc 2=(1,.cells false [.nils,.bool false])∧lg s.loc 15=(0,.gone)∧s.hp=⟨h.rows,none,h.mods⟩) ?_ (fun s ⟨a3,a0,a2,al,al5,ah⟩=>?_)
 ·cases z with
  | ofNat n =>
   have hn2:n≤9223372036854775807:=Int.ofNat_le.1 h2
   refine sEG ?_
   exact ⟨by rw [if_neg (show ¬(Int.ofNat n<0) from Int.not_lt.2 (Int.natCast_nonneg n))];exact (by simp -implicitDefEqProofs (disch:=omega) only [go_sem,reduceIte,Nat.reduceEqDiff,Int.natAbs_natCast,show (Int.ofNat n).natAbs=n from rfl]),sSG,sS,sS,sS,rfl⟩
  | negSucc n =>
   refine ww_reg (fun n k=>by simp -implicitDefEqProofs (disch:=omega) only [go_sem,reduceIte,Nat.reduceEqDiff,gt_start,List.getD_cons_zero,List.getD_cons_succ,wrap_u64_negS];rfl) ?_
   exact ⟨by rw [if_pos (by omega),show 18446744073709551616 - (Int.negSucc n).natAbs=18446744073709551615 - n by omega];exact sS,sSG,sS,sS,sS,rfl⟩
 refine ww_join (M:=fun s=>gt s.tm 3=.int .u64 (.ofNat z.natAbs)∧gt s.tm 0=.int .i64 z∧gt s.tm 2=.ptr (.loc 2 1) 0∧lg s.loc 2=(1,.cells false [.nils,.bool false])∧lg s.loc 15=(0,.gone)∧s.hp=⟨h.rows,none,h.mods⟩) ?_ (fun s2 ⟨b3,b0,b2,bl,bl5,bh⟩=>?_)
 ·refine ww_seq (ww_reg (fun n k=>by simp -implicitDefEqProofs (disch:=omega) only [go_sem,reduceIte,Nat.reduceEqDiff,a0,neg];rfl) ?_)
  refine ww_if (by simp only [gt_pt,reduceIte];rfl) (fun hz=>?_) (fun hz=>ww_skip ?_)
  ·rw [if_pos hz] at a3
   refine ww_reg (fun n k=>by simp -implicitDefEqProofs (disch:=omega) only [go_sem,reduceIte,Nat.reduceEqDiff,a3,un_neg64];rfl) ?_
   exact ⟨(by simp -implicitDefEqProofs (disch:=omega) only [go_sem,reduceIte,Nat.reduceEqDiff,Nat.sub_sub_self]),(sS1 a0),(sS1 a2),(by simp -implicitDefEqProofs (disch:=omega) only [go_sem,reduceIte,Nat.reduceEqDiff,al]),(sS1 al5),ah⟩
  ·rw [if_neg hz] at a3
   exact ⟨(sS1 a3),(sS1 a0),(sS1 a2),(by simp -implicitDefEqProofs (disch:=omega) only [go_sem,reduceIte,Nat.reduceEqDiff,al]),(sS1 al5),ah⟩
 ·have hq1:z.natAbs % 4294967296<4294967296:=Nat.mod_lt _ (by decide)
  have hq2:z.natAbs / 4294967296<4294967296:=by omega
  have hdg:Dg B [z.natAbs % 4294967296,z.natAbs / 4294967296]:=by
   intro x hx
   simp at hx
   rcases hx with rfl | rfl
   ·exact hq1
   ·exact hq2
  obtain ⟨r,hr,d,hw,ht⟩:=made_spec (va:=.slice none false 1 (nl .u32 [z.natAbs % 4294967296,z.natAbs / 4294967296])) (a:=[z.natAbs % 4294967296,z.natAbs / 4294967296]) (.inl ⟨false,rfl⟩) hdg (by simp) (decide (z<0)) ⟨h.rows,none,h.mods⟩
  have hw0:=hw
  obtain ⟨⟨x,rfl,hx⟩,_⟩:=hw
  refine ww_seq (ww_call (hr) (fun n hn k=>by simp -implicitDefEqProofs (disch:=omega) only [go_sem,reduceIte,Nat.reduceEqDiff,b0,b2,b3,bh,bl,bl5,neg,wrap_u32_mod,Nat.mod_eq_of_lt hq2,Nat.reducePow,pr21,cl_arr2 (loc:=lp s2.loc 15 (1,.cells false (nl .u32 [z.natAbs % 4294967296,z.natAbs / 4294967296]))) (l:=[z.natAbs % 4294967296,z.natAbs / 4294967296]) (d:=15) (g:=1) (k:=.u32) (f0:=false) (n:=2) rfl (by rw [lg_lp,if_pos rfl]) hn (Ex1.bool _),stc_two N26 1 x (.bool (decide (z<0) && !d.isEmpty)) .nils (.bool false) _ hx.pl.ok rfl];rfl) ?_)
  refine ww_ret (hQ _ _ (fin_cell (x:=x) (y:=.bool (decide (z<0) && !d.isEmpty)) (f:=false) (d:=2) (g:=1) (by kernel_rfl) (sS1 b2) (by simp -implicitDefEqProofs (disch:=omega) only [go_sem,reduceIte,Nat.reduceEqDiff,bl]) hx.pl (Pl.bool _) rfl) ⟨d,_,hw0,?_,by have:=ht.len;simpa using this⟩)
  have e6:=ht.vl B
  have e7:vl B [z.natAbs % 4294967296,z.natAbs / 4294967296]=z.natAbs:=by
   show z.natAbs % 4294967296+4294967296*(z.natAbs / 4294967296+4294967296*0)=z.natAbs
   omega
  rw [e7] at e6
  unfold zv
  by_cases hz:z<0
  ·rw [decide_eq_true hz]
   cases d with
   | nil=>simp only [vl] at e6;omega
   | cons x0 l0=>simp only [List.isEmpty_cons,Bool.not_false,Bool.and_self,cond_true,e6];omega
  ·rw [decide_eq_false hz]
   simp only [Bool.false_and,cond_false,e6];omega
end Go.AM.S
end
section
namespace Go.AM.S
open Go Go.AM Go.Proofs NumL
open _root_.Go.AM.G (R)
set_option maxRecDepth 100000
end Go.AM.S
end
section
namespace Go.AM.S
open Go Go.AM Go.Proofs NumL
open _root_.Go.AM.G (R)
set_option maxRecDepth 100000
section
variable {P:Program} {C:Cfg} {call:CallF} {gl:Nat→Bool} {o:Oper} {t' tm:Tm} {loc:Lo} {hp:Hp} {j:V→Lo→Hp→R}
theorem gen_build2w {d x y:Nat} {t:TypeId} {f0 f1:Field} {z0 z1 v w w':V} (hww:w.weakB=w') (hd:o.dst=some d) (ho:o.op=.build t #[(0,.tmp x),(1,.tmp y)]) (hu:P.underlying t=some (.struct #[f0,f1])) (hz:zeroV P t=some (.agg [z0,z1]))
  (h0:f0.offset=0) (h1:f1.offset=1) (s0:szOf P f0.type=some 1) (s1:szOf P f1.type=some 1) (hxy:x≠y) (hv:Pl v) (hw:Pl w') :
  gen P C call gl o (pt (pt .lf x v) y w) tm loc hp j=j (.agg [v,w']) loc hp:=by
 have hx:gt (pt (pt .lf x v) y w) x=v:=by rw [gt_pt,if_neg (Ne.symm hxy),gt_pt,if_pos rfl]
 have hy:gt (pt (pt .lf x v) y w) y=w:=by rw [gt_pt,if_pos rfl]
 refine gen_val (v:=.agg [v,w']) (st:=⟨pt (pt .lf x v) y w,loc,hp⟩) hd ?_
 have i0:(P.info? f0.type).isSome=true:=by
  unfold szOf at s0
  cases h:P.info? f0.type with
  | none=>rw [h] at s0;simp at s0
  | some i=>rfl
 have i1:(P.info? f1.type).isSome=true:=by
  unfold szOf at s1
  cases h:P.info? f1.type with
  | none=>rw [h] at s1;simp at s1
  | some i=>rfl
 have e0:fieldOf P t 0=some f0:=by unfold fieldOf;rw [hu];rfl
 have e1:fieldOf P t 1=some f1:=by unfold fieldOf;rw [hu];rfl
 have hp1:locV P C gl (⟨pt (pt .lf x v) y w,loc,hp⟩:St).ρ (⟨pt (pt .lf x v) y w,loc,hp⟩:St).lc o=some (.agg [v,w'],none):=by
  unfold locV
  simp only [ho,pureV,hu,hz,V.live,Bool.true_and]
  have ea:(#[f0,f1]:Array Field).all (fun f=>(P.info? f.type).isSome)=true:=by simp [i0,i1]
  rw [ea]
  have c0:V.cells (.agg [z0,z1])=[z0,z1]:=rfl
  simp only [cond_true,fillP,e0,e1,opd_gt,hx,hy,hv.weak,hww,hv.plain,hw.plain,hv.cells,hw.cells,s0,s1,h0,h1,Option.getD_some,List.length_cons,List.length_nil,c0]
  rfl
 unfold stepV
 rw [hp1];rfl
theorem gen_twow {d x y:Nat} {t:TypeId} {z0 z1 v w w':V} (hww:w.weakB=w') (hd:o.dst=some d) (ho:o.op=.build t #[(0,.tmp x),(1,.tmp y)]) (h2:two P t=true) (hz:zeroV P t=some (.agg [z0,z1])) (hxy:x≠y) (hv:Pl v) (hw:Pl w') :
  gen P C call gl o (pt (pt .lf x v) y w) tm loc hp j=j (.agg [v,w']) loc hp:=by
 unfold two at h2
 split at h2
 ·rename_i fs hu
  split at h2
  ·rename_i f0 f1 hfs
   simp only [Bool.and_eq_true] at h2
   obtain ⟨⟨a0,a1⟩,a2⟩:=h2
   have e:fs = #[f0,f1]:=by apply Array.toList_inj.1;rw [hfs]
   subst e
   split at a2
   ·rename_i a b h3 h4
    simp only [Bool.and_eq_true] at a2
    have b1:a=1:=Nat.eq_of_beq_eq_true a2.1
    have b2:b=1:=Nat.eq_of_beq_eq_true a2.2
    subst b1;subst b2
    exact gen_build2w hww hd ho hu hz (Nat.eq_of_beq_eq_true a0) (Nat.eq_of_beq_eq_true a1) h3 h4 hxy hv hw
   ·simp at a2
  ·simp at h2
 ·simp at h2
end
theorem Tk.weak {loc:Lo} {d:Nat} {v:V} {k:IntKind} {l:List Nat} (h:Tk loc d v k l):∃ v',v.weakB=v'∧Sl k v' l:=by
 rcases h with ⟨rfl,rfl⟩ | ⟨_,g,rfl,_⟩
 ·exact ⟨.nils,rfl,.inr ⟨rfl,rfl⟩⟩
 ·exact ⟨.slice none false 1 (nl k l),rfl,.inl ⟨false,rfl⟩⟩
theorem bw22 {v w w':V} (hww:w.weakB=w') (hv:Pl v) (hw:Pl w') (c:CallF) (t:Tm) (l:Lo) (h:Hp) (j:V→Lo→Hp→R):go2 Try.f22 22 9 2 23 24 v w c t l h j=j (.agg [v,w']) l h :=
 gen_twow (C:=Cg) (gl:=Cg.glob 22) (call:=c) (o:=opA Try.f22 9 2) hww (d:=25) (t:=31) (by kernel_rfl) (by kernel_rfl) (by kernel_rfl) (show zeroV Pg 31=some (.agg [(.bool false),.nils]) by kernel_rfl) (by decide) hv hw
theorem tbl22:tbl 22=some ⟨rc22,[.cell 2 31]⟩:=by kernel_rfl
theorem ofR_spec {z:Int} (h1:-9223372036854775808≤z) (h2:z≤9223372036854775807):Gives 22 [.int .i64 z] fun r=>IsR 5 r z:=by
 refine gives_of tbl22 fun h Q hQ=>?_
 unfold rc22
 refine sR ?_
 have hab:z.natAbs≤9223372036854775808:=by omega
 have neg:G.int2 .lss .i64 z (.ofNat 0)=some (.bool (decide (z<0))):=by
  cases z with
  | ofNat n=>rw [i_lss,decide_eq_false (Nat.not_lt_zero n),decide_eq_false (show ¬(Int.ofNat n<0) from Int.not_lt.2 (Int.natCast_nonneg n))]
  | negSucc n=>rw [i_lss_neg,decide_eq_true (Int.negSucc_lt_zero n)]
 refine ww_seq (ww_reg (fun n k=>by simp -implicitDefEqProofs (disch:=omega) only [go_sem,reduceIte,Nat.reduceEqDiff,gt_start,List.getD_cons_zero,List.getD_cons_succ,neg];rfl) ?_)
 refine ww_joinX (fun s=>gt s.tm 4=.int .u64 (.ofNat (if z<0 then 18446744073709551616 - z.natAbs else z.natAbs))∧gt s.tm 3=.bool (decide (z<0))∧gt s.tm 2=.ptr (.loc 2 1) 0∧lg s.loc 2=(1,.cells false [.bool false,.nils])∧s.hp=⟨h.rows,none,h.mods⟩) ?_ (fun s ⟨a4,a3,a2,al,ah⟩=>?_)
 ·cases z with
  | ofNat n =>
   have hn2:n≤9223372036854775807:=Int.ofNat_le.1 h2
   refine sEG ?_
   exact ⟨by rw [if_neg (show ¬(Int.ofNat n<0) from Int.not_lt.2 (Int.natCast_nonneg n))];exact (by simp -implicitDefEqProofs (disch:=omega) only [go_sem,reduceIte,Nat.reduceEqDiff,show (Int.ofNat n).natAbs=n from rfl]),sS,sS,sS,rfl⟩
  | negSucc n =>
   refine ww_reg (fun n k=>by simp -implicitDefEqProofs (disch:=omega) only [go_sem,reduceIte,Nat.reduceEqDiff,gt_start,List.getD_cons_zero,List.getD_cons_succ,wrap_u64_negS];rfl) ?_
   exact ⟨by rw [if_pos (by omega),show 18446744073709551616 - (Int.negSucc n).natAbs=18446744073709551615 - n by omega];exact sS,sS,sS,sS,rfl⟩
 refine ww_join (M:=fun s=>gt s.tm 4=.int .u64 (.ofNat z.natAbs)∧gt s.tm 3=.bool (decide (z<0))∧gt s.tm 2=.ptr (.loc 2 1) 0∧lg s.loc 2=(1,.cells false [.bool false,.nils])∧s.hp=⟨h.rows,none,h.mods⟩) ?_ (fun s2 ⟨b4,b3,b2,bl,bh⟩=>?_)
 ·refine sR1 a3 ?_
  refine ww_if (by simp only [gt_pt,reduceIte];rfl) (fun hz=>?_) (fun hz=>ww_skip ?_)
  ·rw [if_pos hz] at a4
   refine ww_reg (fun n k=>by simp -implicitDefEqProofs (disch:=omega) only [go_sem,reduceIte,Nat.reduceEqDiff,a4,un_neg64];rfl) ?_
   exact ⟨(by simp -implicitDefEqProofs (disch:=omega) only [go_sem,reduceIte,Nat.reduceEqDiff,Nat.sub_sub_self]),(sS1 a3),(sS1 a2),(by simp -implicitDefEqProofs (disch:=omega) only [go_sem,reduceIte,Nat.reduceEqDiff,al]),ah⟩
  ·rw [if_neg hz] at a4
   exact ⟨(sS1 a4),(sS1 a3),(sS1 a2),(by simp -implicitDefEqProofs (disch:=omega) only [go_sem,reduceIte,Nat.reduceEqDiff,al]),ah⟩
 refine sR ?_
 refine ww_join (M:=fun s=>∃ v5 out,gt s.tm 5=v5∧Tk s.loc 20 v5 .i64 out∧Dg 10000 out∧Cn out∧vl 10000 out=z.natAbs∧out.length≤5∧gt s.tm 3=.bool (decide (z<0))∧gt s.tm 2=.ptr (.loc 2 1) 0∧lg s.loc 2=(1,.cells false [.bool false,.nils])∧s.hp=⟨h.rows,none,h.mods⟩) ?_ (fun s3 ⟨v5,out,c5,ctk,cdg,ccn,cvl,clen,c3,c2,cl2,ch⟩=>?_)
 ·refine ww_for (fun m s=>∃ v5 out,gt s.tm 4=.int .u64 (.ofNat m)∧gt s.tm 5=v5∧Tk s.loc 20 v5 .i64 out∧Dg 10000 out∧(m=0→Cn out)∧vl 10000 out+10000 ^ out.length*m=z.natAbs∧out.length≤5∧gt s.tm 3=.bool (decide (z<0))∧gt s.tm 2=.ptr (.loc 2 1) 0∧lg s.loc 2=(1,.cells false [.bool false,.nils])∧s.hp=⟨h.rows,none,h.mods⟩) z.natAbs ⟨.nils,[],(sS1 b4),sS,.inl ⟨rfl,rfl⟩,Dg.nil _,fun _ i hi=>by simp at hi,by simp [vl],by simp,(sS1 b3),(sS1 b2),(by simp -implicitDefEqProofs (disch:=omega) only [go_sem,reduceIte,Nat.reduceEqDiff,bl]),bh⟩ ?_
  intro m s ⟨v5,out,c4,c5,ctk,cdg,ccn,cvl,clen,c3,c2,cl2,ch⟩
  have hm64:m<18446744073709551616:=by
   have:m≤10000 ^ out.length*m:=Nat.le_mul_of_pos_left m (Nat.pow_pos (by decide))
   omega
  refine sQ1 c4 ?_
  refine ww_if (by simp only [gt_pt,reduceIte];rfl) (fun hm0=>ww_skip ?_) (fun hm0=>ww_exit ?_)
  ·have hlt:out.length<5:=by
    have e1:=Nat.le_mul_of_pos_right (10000 ^ out.length) hm0
    have e2:(10000:Nat) ^ 5=100000000000000000000:=by decide
    exact pow_lt_inv (c:=10000) (by decide) (by omega)
   have hd:m % 10000<10000:=Nat.mod_lt _ (by decide)
   refine ww_block ?_
   obtain ⟨v6,l6,happ,htk6,hfr6⟩:=a22_7_5 [m % 10000] none true ctk (by simp) (by simp;omega)
   refine ww_seq (ww_reg (fun n k=>by simp -implicitDefEqProofs (disch:=omega) only [go_sem,reduceIte,Nat.reduceEqDiff,c4,c5,bs29,happ];rfl) ?_)
   refine sE1 c4 ?_
   refine ⟨m / 10000,Nat.div_lt_self hm0 (by decide),v6,out++[m % 10000],sS,sS,htk6,cdg.snoc hd,?_,?_,by simp;omega,(sS1 c3),(sS1 c2),by rw [hfr6 2 (by decide)];exact cl2,ch⟩
   ·intro e i hi
    have:i=(out++[m % 10000]).length - 1:=by omega
    rw [this,getD_last_snoc]
    omega
   ·rw [vl_append,vl_one,List.length_append,List.length_singleton,Nat.pow_succ,←cvl,Nat.mul_assoc,Nat.add_assoc,←Nat.mul_add,Nat.mod_add_div]
  ·rw [if_pos rfl]
   have em:m=0:=by omega
   subst em
   exact ⟨v5,out,(sS1 c5),ctk,cdg,ccn rfl,by simpa using cvl,clen,(sS1 c3),(sS1 c2),cl2,ch⟩
 ·obtain ⟨v6,hwk,hsl⟩:=ctk.weak
  refine ww_seq (ww_reg (fun n k=>by simp -implicitDefEqProofs (disch:=omega) only [go_sem,reduceIte,Nat.reduceEqDiff,c2,c3,c5,cl2,bw22 hwk (Pl.bool (decide (z<0))) hsl.pl,stc_two N31 1 (.bool (decide (z<0))) v6 (.bool false) .nils _ rfl hsl.pl.ok];rfl) ?_)
  refine ww_ret (hQ _ _ (fin_cell (x:=.bool (decide (z<0))) (y:=v6) (f:=false) (d:=2) (g:=1) (by kernel_rfl) (sS1 c2) sS (Pl.bool _) hsl.pl (by rw [ch])) ⟨out,decide (z<0),⟨⟨v6,rfl,hsl⟩,cdg,ccn,fun e=>?_⟩,?_,clen⟩)
  ·subst e
   simp only [vl] at cvl
   exact decide_eq_false (by omega)
  ·unfold zr
   rw [cvl]
   by_cases hz:z<0
   ·rw [decide_eq_true hz];simp only [cond_true];omega
   ·rw [decide_eq_false hz];simp only [cond_false];omega
end Go.AM.S
end
section
namespace Go.AM.S
open Go Go.AM Go.Proofs NumL
open _root_.Go.AM.G (R)
set_option maxRecDepth 100000
theorem tbl74:tbl 74=some ⟨rc74,[.tmp 4]⟩:=by kernel_rfl
theorem tbl76:tbl 76=some ⟨rc76,[.tmp 4]⟩:=by kernel_rfl
theorem tbl75:tbl 75=some ⟨rc75,[.tmp 4]⟩:=by kernel_rfl
theorem plusR_step {D:Nat} {out:List Nat} {i n x y d c p q:Nat} (hl:out.length=i) (hv:vl D out+D ^ i*n=p+q) (he:n+x+y=d+D*c):vl D (out++[d])+D ^ (i+1)*c=(p+D ^ i*x)+(q+D ^ i*y):=by
 rw [vl_append,vl_one,hl,Nat.pow_succ,Nat.mul_assoc]
 have h1:D ^ i*(n+x+y)=D ^ i*(d+D*c):=by rw [he]
 simp only [Nat.mul_add] at h1
 omega
theorem plusR_spec {va vb:V} {a b:List Nat} (ha:Sl .i64 va a) (hb:Sl .i64 vb b) (da:Dg 10000 a) (db:Dg 10000 b) (la:a.length≤1000000) (lb:b.length≤1000000) :
  Gives 74 [va,vb] fun r=>∃ c,Sl .i64 r c∧Dg 10000 c∧vl 10000 c=vl 10000 a+vl 10000 b∧c.length≤max a.length b.length+1:=by
 refine gives_of tbl74 fun h Q hQ=>?_
 unfold rc74
 refine sR ?_
 refine sR ?_
 refine sR ?_
 refine ww_join (M:=fun s=>∃ out,Tk s.loc 48 (gt s.tm 5) .i64 out∧Dg 10000 out∧vl 10000 out=vl 10000 a+vl 10000 b∧out.length≤max a.length b.length+1∧s.hp=⟨h.rows,none,h.mods⟩) ?_ (fun s ⟨out,htk,hdg,hv,hlen,hhp⟩=>?_)
 ·refine sR ?_
  refine ww_for (fun m s=>∃ i n out,m+i=max a.length b.length+1∧gt s.tm 0=va∧gt s.tm 1=vb∧gt s.tm 7=.int .i64 (.ofNat i)∧gt s.tm 6=.int .i64 (.ofNat n)∧Tk s.loc 48 (gt s.tm 5) .i64 out∧out.length=i∧Dg 10000 out∧n≤1∧(i≤max a.length b.length∨n=0)∧vl 10000 out+10000 ^ i*n=vl 10000 (a.take i)+vl 10000 (b.take i)∧s.hp=⟨h.rows,none,h.mods⟩) (max a.length b.length+1) ⟨0,0,[],rfl,sSG,sSG,sS,sS,.inl ⟨rfl,sS⟩,rfl,Dg.nil _,by decide,.inl (Nat.zero_le _),by simp [vl],rfl⟩ ?_
  intro m s ⟨i,n,out,hm,h0,h1,h7,h6,htk,hlen,hdg,hn1,hin,hv,hhp⟩
  refine ww_seq (ww_join (M:=fun s'=>gt s'.tm 21=.bool (decide (i<a.length∨i<b.length∨0<n))∧Kp [0,1,5,6,7] s.tm s'.tm∧s'.loc=s.loc∧s'.hp=s.hp) ?_ (fun s' ⟨k21,kk,kl,kh⟩=>?_))
  ·by_cases c1:i<a.length
   ·refine ww_reg (fun n k=>by simp -implicitDefEqProofs (disch:=omega) only [go_sem,reduceIte,Nat.reduceEqDiff,h0,h7,len_sl ha,decide_eq_true c1];rfl) ?_
    exact ⟨by rw [decide_eq_true (.inl c1)];exact sS,(by (try dsimp only);repeat (first | with_reducible exact Kp_refl _ _ | with_reducible refine Kp_pt (by decide) ?_)),rfl,rfl⟩
   ·by_cases c2:i<b.length
    ·refine ww_reg (fun n k=>by simp -implicitDefEqProofs (disch:=omega) only [go_sem,reduceIte,Nat.reduceEqDiff,h0,h1,h7,len_sl ha,len_sl hb,decide_eq_false c1,decide_eq_true c2];rfl) ?_
     exact ⟨by rw [decide_eq_true (.inr (.inl c2))];exact sS,(by (try dsimp only);repeat (first | with_reducible exact Kp_refl _ _ | with_reducible refine Kp_pt (by decide) ?_)),rfl,rfl⟩
    ·refine ww_reg (fun n k=>by simp -implicitDefEqProofs (disch:=omega) only [go_sem,reduceIte,Nat.reduceEqDiff,h0,h1,h6,h7,len_sl ha,len_sl hb,decide_eq_false c1,decide_eq_false c2];rfl) ?_
     exact ⟨by rw [show decide (i<a.length∨i<b.length∨0<n)=decide (0<n) by congr 1;apply propext;omega];exact sS,(by (try dsimp only);repeat (first | with_reducible exact Kp_refl _ _ | with_reducible refine Kp_pt (by decide) ?_)),rfl,rfl⟩
  ·have k0:=(kk 0 (by decide)).trans h0;have k1:=(kk 1 (by decide)).trans h1;have k6:=(kk 6 (by decide)).trans h6;have k7:=(kk 7 (by decide)).trans h7;have k5:=kk 5 (by decide)
   refine ww_if k21 (fun hc=>ww_skip ?_) (fun hc=>ww_exit ?_)
   ·have hx:a.getD i 0<10000:=da.get (by decide) i
    have hy:b.getD i 0<10000:=db.get (by decide) i
    obtain ⟨v5,l5,happ,htk5,hfr⟩:=a74_10_4 [(n+a.getD i 0+b.getD i 0) % 10000] none true htk (by simp) (by simp;omega)
    refine ww_seq (ww_block ?_)
    refine ww_join (M:=fun s1=>gt s1.tm 6=.int .i64 (.ofNat (n+a.getD i 0))∧Kp [0,1,5,7] s'.tm s1.tm∧s1.loc=s.loc∧s1.hp=s.hp) ?_ (fun s1 ⟨a6,ak,al,ah⟩=>?_)
    ·refine ww_seq (ww_reg (fun n k=>by simp -implicitDefEqProofs (disch:=omega) only [go_sem,reduceIte,Nat.reduceEqDiff,k0,k7,len_sl ha];rfl) ?_)
     refine ww_if (by simp only [gt_pt,reduceIte];rfl) (fun hia=>?_) (fun hia=>ww_skip ?_)
     ·refine ww_reg (fun n k=>by simp -implicitDefEqProofs (disch:=omega) only [go_sem,reduceIte,Nat.reduceEqDiff,k0,k6,k7,ia29 ha];rfl) ?_
      exact ⟨sS,(by (try dsimp only);repeat (first | with_reducible exact Kp_refl _ _ | with_reducible refine Kp_pt (by decide) ?_)),kl,kh⟩
     ·exact ⟨(by simp -implicitDefEqProofs (disch:=omega) only [go_sem,reduceIte,Nat.reduceEqDiff,k6,getD_ge hia,Nat.add_zero]),(by (try dsimp only);repeat (first | with_reducible exact Kp_refl _ _ | with_reducible refine Kp_pt (by decide) ?_)),kl,kh⟩
    have a1:=(ak 1 (by decide)).trans k1;have a7:=(ak 7 (by decide)).trans k7;have a5:=(ak 5 (by decide)).trans k5
    refine ww_join (M:=fun s2=>gt s2.tm 6=.int .i64 (.ofNat (n+a.getD i 0+b.getD i 0))∧Kp [0,1,5,7] s1.tm s2.tm∧s2.loc=s.loc∧s2.hp=s.hp) ?_ (fun s2 ⟨b6,bk,bl,bh⟩=>?_)
    ·refine ww_seq (ww_reg (fun n k=>by simp -implicitDefEqProofs (disch:=omega) only [go_sem,reduceIte,Nat.reduceEqDiff,a1,a7,len_sl hb];rfl) ?_)
     refine ww_if (by simp only [gt_pt,reduceIte];rfl) (fun hia=>?_) (fun hia=>ww_skip ?_)
     ·refine ww_reg (fun n k=>by simp -implicitDefEqProofs (disch:=omega) only [go_sem,reduceIte,Nat.reduceEqDiff,a1,a6,a7,ia29 hb];rfl) ?_
      exact ⟨sS,(by (try dsimp only);repeat (first | with_reducible exact Kp_refl _ _ | with_reducible refine Kp_pt (by decide) ?_)),al,ah⟩
     ·exact ⟨(by simp -implicitDefEqProofs (disch:=omega) only [go_sem,reduceIte,Nat.reduceEqDiff,a6,getD_ge hia,Nat.add_zero]),(by (try dsimp only);repeat (first | with_reducible exact Kp_refl _ _ | with_reducible refine Kp_pt (by decide) ?_)),al,ah⟩
    have b5:=(bk 5 (by decide)).trans a5;have b7:=(bk 7 (by decide)).trans a7
    refine ww_seq (ww_reg (fun n k=>by simp -implicitDefEqProofs (disch:=omega) only [go_sem,reduceIte,Nat.reduceEqDiff,b6,b5,bl,bs29,happ];rfl) ?_)
    refine sE1 b6 ?_
    refine sE1 b7 ?_
    refine ⟨m - 1,by omega,i+1,(n+a.getD i 0+b.getD i 0) / 10000,out++[(n+a.getD i 0+b.getD i 0) % 10000],by omega,(by simp -implicitDefEqProofs (disch:=omega) only [go_sem,reduceIte,Nat.reduceEqDiff,bk 0 (by decide),ak 0 (by decide),k0]),(by simp -implicitDefEqProofs (disch:=omega) only [go_sem,reduceIte,Nat.reduceEqDiff,bk 1 (by decide),a1]),sS,sS,?_,by simp [hlen],hdg.snoc (Nat.mod_lt _ (by decide)),by omega,?_,?_,bh.trans hhp⟩
    ·have e:∀ x y,gt (pt (pt (pt s2.tm 5 v5) 6 x) 7 y) 5=v5:=fun x y=>sS
     rw [e];exact htk5
    ·rcases Nat.lt_or_ge i (max a.length b.length) with q | q
     ·exact .inl q
     ·right
      rw [getD_ge (by omega),getD_ge (by omega)]
      omega
    ·rw [vl_take_next,vl_take_next]
     exact plusR_step hlen hv (by omega)
   ·rw [if_pos rfl]
    refine ⟨out,by rw [kl,k5];exact htk,hdg,?_,by omega,kh.trans hhp⟩
    have en:n=0:=by omega
    subst en
    rw [List.take_of_length_le (by omega),List.take_of_length_le (by omega)] at hv
    simpa using hv
 ·obtain ⟨v',hsl,hex⟩:=htk.out
  refine sR ?_
  exact ww_ret (hQ _ _ (fin_tmp (v:=gt s.tm 5) sS (hex _) (by rw [hhp]) hsl.noRefs) ⟨out,hsl,hdg,hv,hlen⟩)
end Go.AM.S
end
section
namespace Go.AM.S
open Go Go.AM Go.Proofs NumL
open _root_.Go.AM.G (R)
set_option maxRecDepth 100000
theorem wrapZ {z:Int} (h1:-9223372036854775808≤z) (h2:z≤9223372036854775807):F.wrapI .i64 z=z:=by
 rw [F.wrapI_eq]
 show (if (true&&decide (z % 18446744073709551616 ≥ 9223372036854775808))=true then z % 18446744073709551616 - 18446744073709551616 else z % 18446744073709551616)=_
 by_cases h:z % 18446744073709551616 ≥ 9223372036854775808
 ·rw [decide_eq_true h]
  show z % 18446744073709551616 - 18446744073709551616=z
  omega
 ·rw [decide_eq_false h]
  show z % 18446744073709551616=z
  omega
theorem iZ_sub {x y:Int} (h1:-9223372036854775808≤x - y) (h2:x - y≤9223372036854775807):G.int2 .sub .i64 x y=some (.int .i64 (x - y)):=by
 show some (V.int .i64 (F.wrapI .i64 (x - y)))=_
 rw [wrapZ h1 h2]
theorem iZ_add {x y:Int} (h1:-9223372036854775808≤x+y) (h2:x+y≤9223372036854775807):G.int2 .add .i64 x y=some (.int .i64 (x+y)):=by
 show some (V.int .i64 (F.wrapI .i64 (x+y)))=_
 rw [wrapZ h1 h2]
theorem iZ_lss (k:IntKind) (x y:Int):G.int2 .lss k x y=some (.bool (decide (x<y))):=by
 show some (V.bool (F.ltI x y))=_
 rw [F.ltI_eq]
theorem minusR_step {D:Nat} {out:List Nat} {i n x y d c p q:Nat} (hl:out.length=i) (hv:p+D ^ i*n=vl D out+q) (he:x+D*c=d+y+n):(p+D ^ i*x)+D ^ (i+1)*c=vl D (out++[d])+(q+D ^ i*y):=by
 rw [vl_append,vl_one,hl,Nat.pow_succ,Nat.mul_assoc]
 have h1:D ^ i*(x+D*c)=D ^ i*(d+y+n):=by rw [he]
 simp only [Nat.mul_add] at h1
 omega
theorem minusR_spec {va vb:V} {a b:List Nat} (ha:Sl .i64 va a) (hb:Sl .i64 vb b) (da:Dg 10000 a) (db:Dg 10000 b) (la:a.length≤1000000) (lb:b.length≤a.length) (hle:vl 10000 b≤vl 10000 a) :
  Gives 76 [va,vb] fun r=>∃ c,Sl .i64 r c∧Dg 10000 c∧vl 10000 c+vl 10000 b=vl 10000 a∧c.length≤a.length:=by
 refine gives_of tbl76 fun h Q hQ=>?_
 unfold rc76
 refine sR ?_
 refine sR ?_
 refine sR ?_
 refine ww_join (M:=fun s=>∃ out,Tk s.loc 38 (gt s.tm 5) .i64 out∧Dg 10000 out∧vl 10000 out+vl 10000 b=vl 10000 a∧out.length≤a.length∧s.hp=⟨h.rows,none,h.mods⟩) ?_ (fun s ⟨out,htk,hdg,hv,hlen,hhp⟩=>?_)
 ·refine sR ?_
  refine ww_for (fun m s=>∃ i w out,m+i=a.length∧gt s.tm 0=va∧gt s.tm 1=vb∧gt s.tm 7=.int .i64 (.ofNat i)∧gt s.tm 6=.int .i64 (.ofNat w)∧Tk s.loc 38 (gt s.tm 5) .i64 out∧out.length=i∧Dg 10000 out∧w≤1∧vl 10000 (a.take i)+10000 ^ i*w=vl 10000 out+vl 10000 (b.take i)∧s.hp=⟨h.rows,none,h.mods⟩) a.length ⟨0,0,[],rfl,sSG,sSG,sS,sS,.inl ⟨rfl,sS⟩,rfl,Dg.nil _,by decide,by simp [vl],rfl⟩ ?_
  intro m s ⟨i,w,out,hm,h0,h1,h7,h6,htk,hlen,hdg,hn1,hv,hhp⟩
  refine ww_seq (ww_seq (ww_reg (fun n k=>by simp -implicitDefEqProofs (disch:=omega) only [go_sem,reduceIte,Nat.reduceEqDiff,h0,h7,len_sl ha];rfl) ?_))
  refine ww_if (by simp only [gt_pt,reduceIte];rfl) (fun hi=>ww_skip ?_) (fun hi=>ww_exit ?_)
  ·have hx:a.getD i 0<10000:=da.get (by decide) i
   have hy:b.getD i 0<10000:=db.get (by decide) i
   have s1:=iZ_sub (x:=Int.ofNat (a.getD i 0)) (y:=Int.ofNat w) (by show _≤((a.getD i 0:Nat):Int) - (w:Int);omega) (by show ((a.getD i 0:Nat):Int) - (w:Int)≤_;omega)
   have s2:=iZ_sub (x:=Int.ofNat (a.getD i 0) - Int.ofNat w) (y:=Int.ofNat (b.getD i 0)) (by show _≤((a.getD i 0:Nat):Int) - (w:Int) - ((b.getD i 0:Nat):Int);omega) (by show ((a.getD i 0:Nat):Int) - (w:Int) - ((b.getD i 0:Nat):Int)≤_;omega)
   have s3:=iZ_add (x:=Int.ofNat (a.getD i 0) - Int.ofNat w - Int.ofNat (b.getD i 0)) (y:=Int.ofNat 10000) (by show _≤((a.getD i 0:Nat):Int) - (w:Int) - ((b.getD i 0:Nat):Int)+10000;omega) (by show ((a.getD i 0:Nat):Int) - (w:Int) - ((b.getD i 0:Nat):Int)+10000≤_;omega)
   refine ww_seq (ww_block ?_)
   have s1':bin Pg .sub 3 false (.int .i64 (.ofNat (a.getD i 0))) (.int .i64 (.ofNat w))=some (.int .i64 (Int.ofNat (a.getD i 0) - Int.ofNat w)):=by rw [bin_n,s1]
   refine ww_seq (ww_reg (fun n k=>by simp -implicitDefEqProofs (disch:=omega) only [go_sem,reduceIte,Nat.reduceEqDiff,h0,h6,h7,ia29 ha,s1'];rfl) ?_)
   refine ww_join (M:=fun s1=>gt s1.tm 8=.int .i64 (Int.ofNat (a.getD i 0) - Int.ofNat w - Int.ofNat (b.getD i 0))∧Kp [0,1,5,7] s.tm s1.tm∧s1.loc=s.loc∧s1.hp=s.hp) ?_ (fun s1 ⟨a8,ak,al,ah⟩=>?_)
   ·refine ww_seq (ww_reg (fun n k=>by simp -implicitDefEqProofs (disch:=omega) only [go_sem,reduceIte,Nat.reduceEqDiff,h1,h7,len_sl hb];rfl) ?_)
    refine ww_if (by simp only [gt_pt,reduceIte];rfl) (fun hib=>?_) (fun hib=>ww_skip ?_)
    ·have s2':bin Pg .sub 3 false (.int .i64 (Int.ofNat (a.getD i 0) - Int.ofNat w)) (.int .i64 (.ofNat (b.getD i 0)))=some (.int .i64 (Int.ofNat (a.getD i 0) - Int.ofNat w - Int.ofNat (b.getD i 0))):=by rw [bin_n,s2]
     refine ww_reg (fun n k=>by simp -implicitDefEqProofs (disch:=omega) only [go_sem,reduceIte,Nat.reduceEqDiff,h1,h7,ia29 hb,s2'];rfl) ?_
     exact ⟨sS,(by (try dsimp only);repeat (first | with_reducible exact Kp_refl _ _ | with_reducible refine Kp_pt (by decide) ?_)),rfl,rfl⟩
    ·refine ⟨?_,(by (try dsimp only);repeat (first | with_reducible exact Kp_refl _ _ | with_reducible refine Kp_pt (by decide) ?_)),rfl,rfl⟩
     rw [getD_ge hib,show Int.ofNat (a.getD i 0) - Int.ofNat w - Int.ofNat 0=Int.ofNat (a.getD i 0) - Int.ofNat w from Int.sub_zero _]
     exact sS
   ·have a0:=(ak 0 (by decide)).trans h0;have a1:=(ak 1 (by decide)).trans h1;have a7:=(ak 7 (by decide)).trans h7;have a5:=ak 5 (by decide)
    refine sR ?_
    refine ww_join (M:=fun s2=>∃ d c,gt s2.tm 8=.int .i64 (.ofNat d)∧gt s2.tm 6=.int .i64 (.ofNat c)∧d<10000∧c≤1∧a.getD i 0+10000*c=d+b.getD i 0+w∧Kp [0,1,5,7] s1.tm s2.tm∧s2.loc=s.loc∧s2.hp=s.hp) ?_ (fun s2 ⟨d,c,b8,b6,hd,hc,heq,bk,bl,bh⟩=>?_)
    ·have cmp:bin Pg .lss 3 true (.int .i64 (Int.ofNat (a.getD i 0) - Int.ofNat w - Int.ofNat (b.getD i 0))) (.int .i64 (.ofNat 0))=some (.bool (decide (Int.ofNat (a.getD i 0) - Int.ofNat w - Int.ofNat (b.getD i 0)<Int.ofNat 0))):=by rw [bin_n,iZ_lss]
     refine ww_seq (ww_reg (fun n k=>by simp -implicitDefEqProofs (disch:=omega) only [go_sem,reduceIte,Nat.reduceEqDiff,a8,cmp];rfl) ?_)
     refine ww_if (by simp only [gt_pt,reduceIte];rfl) (fun hneg=>?_) (fun hneg=>ww_skip ?_)
     ·have hneg':((a.getD i 0:Nat):Int) - (w:Int) - ((b.getD i 0:Nat):Int)<0:=hneg
      have s3':bin Pg .add 3 true (.int .i64 (Int.ofNat (a.getD i 0) - Int.ofNat w - Int.ofNat (b.getD i 0))) (.int .i64 (.ofNat 10000))=some (.int .i64 (Int.ofNat (a.getD i 0) - Int.ofNat w - Int.ofNat (b.getD i 0)+Int.ofNat 10000)):=by rw [bin_n,s3]
      refine sE2 a8 s3' ?_
      refine ⟨a.getD i 0+10000 - w - b.getD i 0,1,?_,sS,by omega,by decide,by omega,(by (try dsimp only);repeat (first | with_reducible exact Kp_refl _ _ | with_reducible refine Kp_pt (by decide) ?_)),al,ah⟩
      have e:Int.ofNat (a.getD i 0) - Int.ofNat w - Int.ofNat (b.getD i 0)+Int.ofNat 10000=Int.ofNat (a.getD i 0+10000 - w - b.getD i 0):=by
       show ((a.getD i 0:Nat):Int) - (w:Int) - ((b.getD i 0:Nat):Int)+10000=((a.getD i 0+10000 - w - b.getD i 0:Nat):Int)
       omega
      rw [←e]
      exact sS
     ·have hneg':¬((a.getD i 0:Nat):Int) - (w:Int) - ((b.getD i 0:Nat):Int)<0:=hneg
      refine ⟨a.getD i 0 - w - b.getD i 0,0,?_,sS,by omega,by decide,by omega,(by (try dsimp only);repeat (first | with_reducible exact Kp_refl _ _ | with_reducible refine Kp_pt (by decide) ?_)),al,ah⟩
      have e:Int.ofNat (a.getD i 0) - Int.ofNat w - Int.ofNat (b.getD i 0)=Int.ofNat (a.getD i 0 - w - b.getD i 0):=by
       show ((a.getD i 0:Nat):Int) - (w:Int) - ((b.getD i 0:Nat):Int)=((a.getD i 0 - w - b.getD i 0:Nat):Int)
       omega
      rw [←e]
      exact (sS1 a8)
    ·have b5:=(bk 5 (by decide)).trans a5;have b7:=(bk 7 (by decide)).trans a7
     obtain ⟨v5,l5,happ,htk5,hfr⟩:=a76_12_3 [d] none true htk (by simp) (by simp;omega)
     refine ww_reg (fun n k=>by simp -implicitDefEqProofs (disch:=omega) only [go_sem,reduceIte,Nat.reduceEqDiff,b8,b5,bl,bs29,happ];rfl) ?_
     refine sE1 b7 ?_
     refine ⟨m - 1,by omega,i+1,c,out++[d],by omega,(by simp -implicitDefEqProofs (disch:=omega) only [go_sem,reduceIte,Nat.reduceEqDiff,bk 0 (by decide),a0]),(by simp -implicitDefEqProofs (disch:=omega) only [go_sem,reduceIte,Nat.reduceEqDiff,bk 1 (by decide),a1]),sS,(sS1 b6),?_,by simp [hlen],hdg.snoc hd,hc,?_,bh.trans hhp⟩
     ·have e:∀ y,gt (pt (pt s2.tm 5 v5) 7 y) 5=v5:=fun y=>sS
      rw [e];exact htk5
     ·rw [vl_take_next,vl_take_next]
      exact minusR_step hlen hv heq
  ·rw [if_pos rfl]
   have ei:i=a.length:=by omega
   have hout:vl 10000 (a.take i)+10000 ^ i*w=vl 10000 out+vl 10000 (b.take i):=hv
   rw [List.take_of_length_le (by omega),List.take_of_length_le (by omega)] at hout
   have hw0:w=0:=by
    have hlt:=vl_lt_of (B:=10000) (by decide) hdg (k:=i) (by omega)
    rcases Nat.eq_zero_or_pos w with q | q
    ·exact q
    ·exfalso
     have e1:w=1:=by omega
     subst e1
     omega
   subst hw0
   refine ⟨out,?_,hdg,by simpa using hout.symm,by omega,hhp⟩
   have e:∀ y,gt (pt s.tm 12 y) 5=gt s.tm 5:=fun y=>sS
   rw [e];exact htk
 ·obtain ⟨v',hsl,hex⟩:=htk.out
  refine sR ?_
  exact ww_ret (hQ _ _ (fin_tmp (v:=gt s.tm 5) sS (hex _) (by rw [hhp]) hsl.noRefs) ⟨out,hsl,hdg,hv,hlen⟩)
end Go.AM.S
end
section
namespace Go.AM.S
open Go Go.AM Go.Proofs NumL
open _root_.Go.AM.G (R)
set_option maxRecDepth 100000
theorem lessR_spec {va vb:V} {a b:List Nat} (ha:Sl .i64 va a) (hb:Sl .i64 vb b) (da:Dg 10000 a) (db:Dg 10000 b) (ca:Cn a) (cb:Cn b) (la:a.length≤1000000000) (lb:b.length≤1000000000) :
  Gives 75 [va,vb] fun r=>r=.int .i64 (cmpI (vl 10000 a) (vl 10000 b)):=by
 refine gives_of tbl75 fun h Q hQ=>?_
 have done:∀ (st:St) (z:Int),z=cmpI (vl 10000 a) (vl 10000 b)→gt st.tm 4=.int .i64 z→st.hp=⟨h.rows,none,h.mods⟩→Q st:=by
  intro st z e h4 hh
  exact hQ st _ (fin_tmpD h4 (Ex1.int _ _) (by rw [hh];exact fun x hx=>by cases hx) rfl) (by rw [e])
 unfold rc75
 refine sR ?_
 have hneq:∀ (x y:Nat),bin Pg .neq 3 false (.int .i64 (.ofNat x)) (.int .i64 (.ofNat y))=some (.bool (decide (x≠y))):=fun x y=>by rw [bin_n,i_neq]
 rcases Nat.lt_trichotomy a.length b.length with hl | hl | hl
 ·refine ww_seq (ww_seq (ww_reg (fun n k=>by simp -implicitDefEqProofs (disch:=omega) only [go_sem,reduceIte,Nat.reduceEqDiff,gt_start,List.getD_cons_zero,List.getD_cons_succ,len_sl ha,len_sl hb,hneq,decide_eq_true (show a.length≠b.length by omega)];rfl) ?_))
  refine ww_true sS ?_
  refine ww_seq (ww_seq (ww_reg (fun n k=>by simp -implicitDefEqProofs (disch:=omega) only [go_sem,reduceIte,Nat.reduceEqDiff,gt_start,List.getD_cons_zero,List.getD_cons_succ,len_sl ha,len_sl hb,d_true];rfl) ?_))
  refine ww_true sS ?_
  refine sR ?_
  refine ww_ret (done _ (.negSucc 0) ?_ sS rfl)
  unfold cmpI
  rw [if_pos (vl_lt_len (by decide) da cb hl)]
 ·refine ww_seq (ww_seq (ww_reg (fun n k=>by simp -implicitDefEqProofs (disch:=omega) only [go_sem,reduceIte,Nat.reduceEqDiff,gt_start,List.getD_cons_zero,List.getD_cons_succ,len_sl ha,len_sl hb,hneq,decide_eq_false (show ¬a.length≠b.length by omega)];rfl) ?_))
  refine ww_false sS (ww_skip ?_)
  refine ww_seq (ww_seq (ww_reg (fun n k=>by simp -implicitDefEqProofs (disch:=omega) only [go_sem,reduceIte,Nat.reduceEqDiff,gt_start,List.getD_cons_zero,List.getD_cons_succ,len_sl ha,i_dec];rfl) ?_))
  refine ww_for (fun m s=>m≤a.length∧gt s.tm 5=.int .i64 (dn m)∧a.drop m=b.drop m∧gt s.tm 0=va∧gt s.tm 1=vb∧s.hp=⟨h.rows,none,h.mods⟩) a.length ⟨Nat.le_refl _,sS,?_,sSG,sSG,rfl⟩ ?_
  ·rw [List.drop_eq_nil_of_le (Nat.le_refl _),List.drop_eq_nil_of_le (by omega)]
  intro m s ⟨hm,h5,he,h0,h1,hhp⟩
  cases m with
  | zero =>
   refine ww_seq (ww_seq (ww_reg (fun n k=>by simp -implicitDefEqProofs (disch:=omega) only [go_sem,reduceIte,Nat.reduceEqDiff,h5,dn];rfl) ?_))
   refine ww_false sS (ww_exit ?_)
   rw [if_pos rfl]
   refine sR ?_
   refine ww_ret (done _ (.ofNat 0) ?_ sS hhp)
   have e:a=b:=by simpa using he
   subst e
   simp [cmpI]
  | succ i =>
   have h5':gt s.tm 5=.int .i64 (.ofNat i):=h5
   refine ww_seq (ww_seq (ww_reg (fun n k=>by simp -implicitDefEqProofs (disch:=omega) only [go_sem,reduceIte,Nat.reduceEqDiff,h5',d_true];rfl) ?_))
   refine ww_true sS (ww_skip ?_)
   refine ww_seq (ww_block ?_)
   refine ww_seq (ww_seq (ww_reg (fun n k=>by simp -implicitDefEqProofs (disch:=omega) only [go_sem,reduceIte,Nat.reduceEqDiff,h0,h1,h5',ia29 ha,ia29 hb];rfl) ?_))
   refine ww_if (by simp only [gt_pt,reduceIte];rfl) (fun hx=>?_) (fun hx=>ww_skip ?_)
   ·refine sR ?_
    refine ww_ret (done _ (.negSucc 0) ?_ sS hhp)
    unfold cmpI
    rw [if_pos (vl_lt_at (by decide) da (by omega) (by omega) he hx)]
   ·refine ww_seq (ww_reg (fun n k=>by simp -implicitDefEqProofs (disch:=omega) only [go_sem,reduceIte,Nat.reduceEqDiff,h0,h1,h5',ia29 ha,ia29 hb];rfl) ?_)
    refine ww_if (by simp only [gt_pt,reduceIte];rfl) (fun hy=>?_) (fun hy=>ww_skip ?_)
    ·refine sR ?_
     refine ww_ret (done _ (.ofNat 1) ?_ sS hhp)
     have hlt:=vl_lt_at (B:=10000) (by decide) db (by omega) (by omega) he.symm hy
     unfold cmpI
     rw [if_neg (by omega),if_pos hlt]
    ·refine ww_reg (fun n k=>by simp -implicitDefEqProofs (disch:=omega) only [go_sem,reduceIte,Nat.reduceEqDiff,h5',i_dec];rfl) ?_
     refine ⟨i,by omega,by omega,sS,?_,(sS1 h0),(sS1 h1),hhp⟩
     rw [getD_drop a i,getD_drop b i,if_pos (by omega),if_pos (by omega),he]
     congr 1
     omega
 ·refine ww_seq (ww_seq (ww_reg (fun n k=>by simp -implicitDefEqProofs (disch:=omega) only [go_sem,reduceIte,Nat.reduceEqDiff,gt_start,List.getD_cons_zero,List.getD_cons_succ,len_sl ha,len_sl hb,hneq,decide_eq_true (show a.length≠b.length by omega)];rfl) ?_))
  refine ww_true sS ?_
  refine ww_seq (ww_seq (ww_reg (fun n k=>by simp -implicitDefEqProofs (disch:=omega) only [go_sem,reduceIte,Nat.reduceEqDiff,gt_start,List.getD_cons_zero,List.getD_cons_succ,len_sl ha,len_sl hb,d_false];rfl) ?_))
  refine ww_false sS (ww_skip ?_)
  refine sR ?_
  refine ww_ret (done _ (.ofNat 1) ?_ sS rfl)
  have hlt:=vl_lt_len (B:=10000) (by decide) db ca hl
  unfold cmpI
  rw [if_neg (by omega),if_pos hlt]
end Go.AM.S
end
section
namespace Go.AM.S
open Go Go.AM Go.Proofs NumL
open _root_.Go.AM.G (R)
set_option maxRecDepth 100000
theorem tbl26:tbl 26=some ⟨rc26,[.cell 4 31]⟩:=by kernel_rfl
theorem tbl28:tbl 28=some ⟨rc28,[.cell 4 31]⟩:=by kernel_rfl
theorem tbl32:tbl 32=some ⟨rc32,[.cell 2 31]⟩:=by kernel_rfl
theorem tbl36:tbl 36=some ⟨rc36,[.tmp 2]⟩:=by kernel_rfl
theorem zr_same {d e f:List Nat} {b:Bool} (hf:vl 10000 f=vl 10000 d+vl 10000 e):zr f (b && !f.isEmpty)=zr d b+zr e b:=by
 cases b with
 | false=>simp only [zr,Bool.false_and,cond_false];omega
 | true =>
  cases f with
  | nil=>simp only [vl] at hf;simp only [zr,Bool.true_and,List.isEmpty_nil,Bool.not_true,cond_false,cond_true,vl];omega
  | cons x l=>simp only [zr,Bool.true_and,List.isEmpty_cons,Bool.not_false,cond_true];omega
theorem zr_diff {d e f:List Nat} {b:Bool} (hf:vl 10000 f+vl 10000 e=vl 10000 d):zr f (b && !f.isEmpty)=zr d b+zr e (!b):=by
 cases b with
 | false=>simp only [zr,Bool.false_and,cond_false,Bool.not_false,cond_true];omega
 | true =>
  cases f with
  | nil=>simp only [vl] at hf;simp only [zr,Bool.true_and,List.isEmpty_nil,Bool.not_true,cond_false,cond_true,vl];omega
  | cons x l=>simp only [zr,Bool.true_and,List.isEmpty_cons,Bool.not_false,cond_true,Bool.not_true,cond_false];omega
theorem addR_spec {k l:Nat} {va vb:V} {x y:Int} (ha:IsR k va x) (hb:IsR l vb y) (hk:k≤1000000) (hl:l≤1000000):Gives 26 [va,vb] fun r=>IsR (max k l+1) r (x+y):=by
 obtain ⟨d,b,⟨⟨s,rfl,hs⟩,dd,cd,h0⟩,rfl,hdl⟩:=ha
 obtain ⟨e,c,⟨⟨u,rfl,hu⟩,de,ce,he0⟩,rfl,hel⟩:=hb
 refine gives_of tbl26 fun h Q hQ=>?_
 unfold rc26
 refine sRG ?_
 have fin:∀ (s2:V) (f:List Nat) (g:Bool) (st:St),NR (.agg [.bool g,s2]) f g→zr f g=zr d b+zr e c→f.length≤max k l+1→gt st.tm 4=.ptr (.loc 4 1) 0→lg st.loc 4=(1,.cells false [.bool g,s2])→st.hp=⟨h.rows,none,h.mods⟩→Q st:=by
  intro s2 f g st hn hz hf h4 hr hh
  obtain ⟨⟨s3,e3,hs3⟩,q⟩:=hn
  obtain rfl:s2=s3:=by simpa using e3
  exact hQ _ _ (fin_cell (x:=.bool g) (y:=s2) (f:=false) (d:=4) (g:=1) (by kernel_rfl) h4 hr (Pl.bool _) hs3.pl (by rw [hh])) ⟨f,g,⟨⟨s2,rfl,hs3⟩,q⟩,hz.symm,hf⟩
 by_cases hbc:b=c
 ·subst hbc
  have eqb:bin Pg .eql 4 false (.bool b) (.bool b)=some (.bool true):=by rw [bin_eqb 4 false b b U4,beq_self_eq_true]
  refine ww_seq (ww_seq (ww_reg (fun n k=>by simp -implicitDefEqProofs (disch:=omega) only [go_sem,reduceIte,Nat.reduceEqDiff,gt_start,List.getD_cons_zero,List.getD_cons_succ,ldc_fst L4,eqb];rfl) ?_))
  refine ww_true sS ?_
  obtain ⟨p,hp,m,hm,dm,hvm,hlm⟩:=plusR_spec hs hu dd de (by omega) (by omega) ⟨h.rows,none,h.mods⟩
  obtain ⟨r,hr,f,⟨⟨s2,rfl,hs2⟩,df,cf,hf0⟩,ht⟩:=trim_spec hm dm (by omega) b ⟨h.rows,none,h.mods⟩
  have hlen:=ht.len
  refine ww_seq (ww_call (hp.and hr) (fun n hn k=>by
   simp -implicitDefEqProofs (disch:=omega) only [go_sem,reduceIte,Nat.reduceEqDiff,gt_start,List.getD_cons_zero,List.getD_cons_succ,ldc_snd L29,ldc_fst L4,cld2 hn.1 hs.ex hu.ex hs.quiet hu.quiet,cld2 hn.2 (Ex1.bool _) hm.ex rfl hm.quiet,stc_two N31 1 (.bool (b && !f.isEmpty)) s2 (.bool false) .nils _ rfl hs2.pl.ok]
   exact finD_ok (by kernel_rfl)) ?_)
  exact ww_ret (fin s2 f _ _ ⟨⟨s2,rfl,hs2⟩,df,cf,hf0⟩ (zr_same (by rw [ht.vl,hvm])) (by omega) sS sS rfl)
 ·have ec:c = !b:=by cases b<;>cases c<;>first | rfl | exact absurd rfl hbc
  have eqb:bin Pg .eql 4 false (.bool b) (.bool c)=some (.bool false):=by
   rw [bin_eqb 4 false b c U4,ec];cases b<;>rfl
  refine ww_seq (ww_seq (ww_reg (fun n k=>by simp -implicitDefEqProofs (disch:=omega) only [go_sem,reduceIte,Nat.reduceEqDiff,gt_start,List.getD_cons_zero,List.getD_cons_succ,ldc_fst L4,eqb];rfl) ?_))
  refine ww_false sS (ww_skip ?_)
  obtain ⟨q,hq,rfl⟩:=lessR_spec hs hu dd de cd ce (by omega) (by omega) ⟨h.rows,none,h.mods⟩
  rcases Nat.lt_or_ge (vl 10000 d) (vl 10000 e) with hlt | hge
  ·have hcmp:cmpI (vl 10000 d) (vl 10000 e)=.negSucc 0:=by unfold cmpI;rw [if_pos hlt]
   rw [hcmp] at hq
   refine ww_seq (ww_seq (ww_call (hq) (fun n hn k=>by simp -implicitDefEqProofs (disch:=omega) only [go_sem,reduceIte,Nat.reduceEqDiff,gt_start,List.getD_cons_zero,List.getD_cons_succ,ldc_snd L29,clc2 hn hs.ex hu.ex];rfl) ?_))
   refine ww_false sS (ww_skip ?_)
   have hle:d.length≤e.length:=by
    rcases Nat.lt_or_ge e.length d.length with h1 | h1
    ·have:=vl_lt_len (B:=10000) (by decide) de cd h1;omega
    ·exact h1
   obtain ⟨p,hp,m,hm,dm,hvm,hlm⟩:=minusR_spec hu hs de dd (by omega) hle (by omega) ⟨h.rows,none,h.mods⟩
   obtain ⟨r,hr,f,⟨⟨s2,rfl,hs2⟩,df,cf,hf0⟩,ht⟩:=trim_spec hm dm (by omega) c ⟨h.rows,none,h.mods⟩
   have hlen:=ht.len
   refine ww_seq (ww_call (hp.and hr) (fun n hn k=>by
    simp -implicitDefEqProofs (disch:=omega) only [go_sem,reduceIte,Nat.reduceEqDiff,gt_start,List.getD_cons_zero,List.getD_cons_succ,ldc_snd L29,ldc_fst L4,cld2 hn.1 hu.ex hs.ex hu.quiet hs.quiet,cld2 hn.2 (Ex1.bool _) hm.ex rfl hm.quiet,stc_two N31 1 (.bool (c && !f.isEmpty)) s2 (.bool false) .nils _ rfl hs2.pl.ok]
    exact finD_ok (by kernel_rfl)) ?_)
   refine ww_ret (fin s2 f _ _ ⟨⟨s2,rfl,hs2⟩,df,cf,hf0⟩ ?_ (by omega) sS sS rfl)
   rw [zr_diff (d:=e) (e:=d) (by rw [ht.vl,hvm]),ec,Int.add_comm]
   cases b<;>rfl
  ·have hcmp:∃ n,cmpI (vl 10000 d) (vl 10000 e)=.ofNat n:=by unfold cmpI;rw [if_neg (by omega)];split<;>exact ⟨_,rfl⟩
   obtain ⟨n0,hcmp⟩:=hcmp
   rw [hcmp] at hq
   refine ww_seq (ww_seq (ww_call (hq) (fun n hn k=>by simp -implicitDefEqProofs (disch:=omega) only [go_sem,reduceIte,Nat.reduceEqDiff,gt_start,List.getD_cons_zero,List.getD_cons_succ,ldc_snd L29,clc2 hn hs.ex hu.ex,d_true];rfl) ?_))
   refine ww_true sS ?_
   have hle:e.length≤d.length:=by
    rcases Nat.lt_or_ge d.length e.length with h1 | h1
    ·have:=vl_lt_len (B:=10000) (by decide) dd ce h1;omega
    ·exact h1
   obtain ⟨p,hp,m,hm,dm,hvm,hlm⟩:=minusR_spec hs hu dd de (by omega) hle (by omega) ⟨h.rows,none,h.mods⟩
   obtain ⟨r,hr,f,⟨⟨s2,rfl,hs2⟩,df,cf,hf0⟩,ht⟩:=trim_spec hm dm (by omega) b ⟨h.rows,none,h.mods⟩
   have hlen:=ht.len
   refine ww_seq (ww_call (hp.and hr) (fun n hn k=>by
    simp -implicitDefEqProofs (disch:=omega) only [go_sem,reduceIte,Nat.reduceEqDiff,gt_start,List.getD_cons_zero,List.getD_cons_succ,ldc_snd L29,ldc_fst L4,cld2 hn.1 hs.ex hu.ex hs.quiet hu.quiet,cld2 hn.2 (Ex1.bool _) hm.ex rfl hm.quiet,stc_two N31 1 (.bool (b && !f.isEmpty)) s2 (.bool false) .nils _ rfl hs2.pl.ok]
    exact finD_ok (by kernel_rfl)) ?_)
   refine ww_ret (fin s2 f _ _ ⟨⟨s2,rfl,hs2⟩,df,cf,hf0⟩ ?_ (by omega) sS sS rfl)
   rw [zr_diff (d:=d) (e:=e) (by rw [ht.vl,hvm]),ec]
theorem IsR.form {k:Nat} {v:V} {x:Int} (h:IsR k v x):∃ s b,v=.agg [.bool b,s]∧Pl s∧Ex1 v∧AM.quiet v=true:=by
 obtain ⟨d,b,hn,_,_⟩:=h
 have h1:=hn.ex;have h2:=hn.quiet
 obtain ⟨⟨s,rfl,hs⟩,_⟩:=hn
 exact ⟨s,b,rfl,hs.pl,h1,h2⟩
theorem negR_spec {k:Nat} {va:V} {x:Int} (ha:IsR k va x) (hk:k≤1000000):Gives 32 [va] fun r=>IsR k r (-x):=by
 obtain ⟨d,b,⟨⟨s,rfl,hs⟩,dd,cd,h0⟩,hx,hl⟩:=ha
 refine gives_of tbl32 fun h Q hQ=>?_
 unfold rc32
 refine sRG ?_
 have fin:∀ (st:St) (g:Bool),g=(!b&&decide (0<d.length))→gt st.tm 2=.ptr (.loc 2 1) 0→lg st.loc 2=(1,.cells false [.bool g,s])→st.hp=⟨h.rows,none,h.mods⟩→Q st:=by
  intro st g hg h2 hr hh
  refine hQ _ _ (fin_cell (x:=.bool g) (y:=s) (f:=false) (d:=2) (g:=1) (by kernel_rfl) h2 hr (Pl.bool _) hs.pl (by rw [hh])) ⟨d,g,⟨⟨s,rfl,hs⟩,dd,cd,fun e=>by rw [hg,e];simp⟩,?_,hl⟩
  subst hx;subst hg
  unfold zr
  cases b with
  | true=>simp only [Bool.not_true,Bool.false_and,cond_true,cond_false,Int.neg_neg]
  | false =>
   cases d with
   | nil=>rfl
   | cons x l=>simp
 cases b with
 | true =>
  refine ww_seq (ww_reg (fun n k=>by simp -implicitDefEqProofs (disch:=omega) only [go_sem,reduceIte,Nat.reduceEqDiff,ldc_fst L4,ldc_snd L29,b32_1_11 (Pl.bool _) hs.pl,stc_two N31 1 (.bool false) s (.bool false) .nils _ rfl hs.pl.ok];rfl) ?_)
  exact ww_ret (fin _ false (by simp) sS sS rfl)
 | false =>
  refine ww_seq (ww_reg (fun n k=>by simp -implicitDefEqProofs (disch:=omega) only [go_sem,reduceIte,Nat.reduceEqDiff,ldc_fst L4,ldc_snd L29,len_sl hs,b32_1_11 (Pl.bool _) hs.pl,stc_two N31 1 (.bool (decide (0<d.length))) s (.bool false) .nils _ rfl hs.pl.ok];rfl) ?_)
  exact ww_ret (fin _ (decide (0<d.length)) (by simp) sS sS rfl)
theorem subR_spec {k l:Nat} {va vb:V} {x y:Int} (ha:IsR k va x) (hb:IsR l vb y) (hk:k≤1000000) (hl:l≤1000000):Gives 28 [va,vb] fun r=>IsR (max k l+1) r (x - y):=by
 obtain ⟨s,b,rfl,ps,es,qs⟩:=ha.form
 obtain ⟨u,c,rfl,pu,eu,qu⟩:=hb.form
 refine gives_of tbl28 fun h Q hQ=>?_
 unfold rc28
 refine sRG ?_
 obtain ⟨p,hp,hpI⟩:=negR_spec hb hl ⟨h.rows,none,h.mods⟩
 obtain ⟨r,hr,hrI⟩:=addR_spec ha hpI hk hl ⟨h.rows,none,h.mods⟩
 obtain ⟨s1,b1,rfl,ps1,es1,qs1⟩:=hpI.form
 obtain ⟨s2,b2,rfl,ps2,es2,qs2⟩:=hrI.form
 refine ww_seq (ww_call (hp.and hr) (fun n hn k=>by simp -implicitDefEqProofs (disch:=omega) only [go_sem,reduceIte,Nat.reduceEqDiff,gt_start,List.getD_cons_zero,List.getD_cons_succ,ldc_two L31,cld1 hn.1 eu qu,cld2 hn.2 es es1 qs qs1,stc_two N31 1 (.bool b2) s2 (.bool false) .nils _ rfl ps2.ok];exact finD_ok (by kernel_rfl)) ?_)
 exact ww_ret (hQ _ _ (fin_cell (x:=.bool b2) (y:=s2) (f:=false) (d:=4) (g:=1) (by kernel_rfl) sS sS (Pl.bool _) ps2 rfl) (by rw [Int.sub_eq_add_neg];exact hrI))
theorem signR_spec {k:Nat} {va:V} {x:Int} (ha:IsR k va x) (hk:k≤1000000):Gives 36 [va] fun r=>r=.int .i64 (sgn x):=by
 obtain ⟨d,b,⟨⟨s,rfl,hs⟩,dd,cd,h0⟩,hx,hl⟩:=ha
 refine gives_of tbl36 fun h Q hQ=>?_
 have done:∀ (st:St) (z:Int),z=sgn x→gt st.tm 2=.int .i64 z→st.hp=⟨h.rows,none,h.mods⟩→Q st:=by
  intro st z e h4 hh
  exact hQ st _ (fin_tmpD h4 (Ex1.int _ _) (by rw [hh];exact fun x hx=>by cases hx) rfl) (by rw [e])
 unfold rc36
 refine sRG ?_
 refine ww_seq (ww_block ?_)
 rcases Nat.eq_zero_or_pos d.length with e0 | e0
 ·have e:d=[]:=List.length_eq_zero_iff.1 e0
  have eb:=h0 e
  refine ww_seq (ww_reg (fun n k=>by simp -implicitDefEqProofs (disch:=omega) only [go_sem,reduceIte,Nat.reduceEqDiff,ldc_snd L29,len_sl hs,e0,d_true];rfl) ?_)
  refine ww_true sS ?_
  refine sR ?_
  refine ww_ret (done _ (.ofNat 0) ?_ sS rfl)
  subst e;subst eb;subst hx
  rfl
 ·have hne:d≠[]:=fun e=>by subst e;simp at e0
  have hpos:=vl_pos_of (B:=10000) cd hne (by decide)
  refine ww_seq (ww_reg (fun n k=>by simp -implicitDefEqProofs (disch:=omega) only [go_sem,reduceIte,Nat.reduceEqDiff,ldc_snd L29,len_sl hs,decide_eq_false (show ¬d.length=0 by omega)];rfl) ?_)
  refine ww_false sS ?_
  cases b with
  | true =>
   refine ww_seq (ww_reg (fun n k=>by simp -implicitDefEqProofs (disch:=omega) only [go_sem,reduceIte,Nat.reduceEqDiff,ldc_fst L4];rfl) ?_)
   refine ww_true sS ?_
   refine sR ?_
   refine ww_ret (done _ (.negSucc 0) ?_ sS rfl)
   subst hx
   unfold sgn cmpZ zr
   rw [cond_true,if_pos (by omega)]
  | false =>
   refine ww_seq (ww_reg (fun n k=>by simp -implicitDefEqProofs (disch:=omega) only [go_sem,reduceIte,Nat.reduceEqDiff,ldc_fst L4];rfl) ?_)
   refine ww_false sS (ww_skip ?_)
   refine sR ?_
   refine ww_ret (done _ (.ofNat 1) ?_ sS rfl)
   subst hx
   unfold sgn cmpZ zr
   rw [cond_false,if_neg (by omega),if_pos (by omega)]
end Go.AM.S
end
section
namespace Go.AM.S
open Go Go.AM Go.Proofs NumL
open _root_.Go.AM.G (R)
set_option maxRecDepth 100000
theorem tbl88:tbl 88=some ⟨rc88,[.tmp 4]⟩:=by kernel_rfl
theorem fld31 (v w:V) (l:List V):fld Pg 31 (.agg (v::w::l)) 1=some w:=by kernel_rfl
theorem times_step {D:Nat} {out:List Nat} {i w x d c p m:Nat} (hl:out.length=i) (hv:vl D out+D ^ i*w=p*m) (he:w+x*m=d+D*c):vl D (out++[d])+D ^ (i+1)*c=(p+D ^ i*x)*m:=by
 rw [vl_append,vl_one,hl,Nat.pow_succ,Nat.mul_assoc,Nat.add_mul,Nat.mul_assoc]
 have h1:D ^ i*(w+x*m)=D ^ i*(d+D*c):=by rw [he]
 simp only [Nat.mul_add] at h1
 omega
theorem times_bound {w x m:Nat} (hw:w<10000) (hx:x<10000) (hm:m<10000):(w+x*m) / 10000<10000∧w+x*m<1000000000:=by
 have h:=Nat.mul_le_mul (show x≤9999 by omega) (show m≤9999 by omega)
 constructor
 ·rw [Nat.div_lt_iff_lt_mul (by decide)];omega
 ·omega
theorem times_spec {va:V} {a:List Nat} (ha:Sl .i64 va a) (da:Dg 10000 a) (la:a.length≤1000000) {q:Nat} (hq:q<10000) :
  Gives 88 [va,.int .i64 (.ofNat q)] fun r=>∃ c,Sl .i64 r c∧Dg 10000 c∧Cn c∧vl 10000 c=vl 10000 a*q∧c.length≤a.length+1:=by
 refine gives_of tbl88 fun h Q hQ=>?_
 unfold rc88
 refine sR ?_
 refine sR ?_
 refine sR ?_
 refine ww_join (M:=fun s=>∃ out,Tk s.loc 34 (gt s.tm 5) .i64 out∧Dg 10000 out∧vl 10000 out=vl 10000 a*q∧out.length≤a.length+1∧s.hp=⟨h.rows,none,h.mods⟩) ?_ (fun s ⟨out,htk,hdg,hv,hlen,hhp⟩=>?_)
 ·refine sR ?_
  refine ww_for (fun m s=>∃ i w out,m+i=a.length+1∧gt s.tm 0=va∧gt s.tm 1=.int .i64 (.ofNat q)∧gt s.tm 7=.int .i64 (.ofNat i)∧gt s.tm 6=.int .i64 (.ofNat w)∧Tk s.loc 34 (gt s.tm 5) .i64 out∧out.length=i∧Dg 10000 out∧w<10000∧(i≤a.length∨w=0)∧vl 10000 out+10000 ^ i*w=vl 10000 (a.take i)*q∧s.hp=⟨h.rows,none,h.mods⟩) (a.length+1) ⟨0,0,[],rfl,sSG,sSG,sS,sS,.inl ⟨rfl,sS⟩,rfl,Dg.nil _,by decide,.inl (Nat.zero_le _),by simp [vl],rfl⟩ ?_
  intro m s ⟨i,w,out,hm,h0,h1,h7,h6,htk,hlen,hdg,hw,hin,hv,hhp⟩
  refine ww_seq (ww_join (M:=fun s'=>gt s'.tm 15=.bool (decide (i<a.length∨0<w))∧Kp [0,1,5,6,7] s.tm s'.tm∧s'.loc=s.loc∧s'.hp=s.hp) ?_ (fun s' ⟨k15,kk,kl,kh⟩=>?_))
  ·by_cases c1:i<a.length
   ·refine ww_reg (fun n k=>by simp -implicitDefEqProofs (disch:=omega) only [go_sem,reduceIte,Nat.reduceEqDiff,h0,h7,len_sl ha,decide_eq_true c1];rfl) ?_
    exact ⟨by rw [decide_eq_true (.inl c1)];exact sS,(by (try dsimp only);repeat (first | with_reducible exact Kp_refl _ _ | with_reducible refine Kp_pt (by decide) ?_)),rfl,rfl⟩
   ·refine ww_reg (fun n k=>by simp -implicitDefEqProofs (disch:=omega) only [go_sem,reduceIte,Nat.reduceEqDiff,h0,h6,h7,len_sl ha,decide_eq_false c1];rfl) ?_
    exact ⟨by rw [show decide (i<a.length∨0<w)=decide (0<w) by congr 1;apply propext;omega];exact sS,(by (try dsimp only);repeat (first | with_reducible exact Kp_refl _ _ | with_reducible refine Kp_pt (by decide) ?_)),rfl,rfl⟩
  ·have k0:=(kk 0 (by decide)).trans h0;have k1:=(kk 1 (by decide)).trans h1;have k6:=(kk 6 (by decide)).trans h6;have k7:=(kk 7 (by decide)).trans h7;have k5:=kk 5 (by decide)
   refine ww_if k15 (fun hc=>ww_skip ?_) (fun hc=>ww_exit ?_)
   ·have hx:a.getD i 0<10000:=da.get (by decide) i
    obtain ⟨b1,b2⟩:=times_bound hw hx hq
    have b3:=(times_bound (show 0<10000 by decide) hx hq).2
    rw [Nat.zero_add] at b3
    obtain ⟨v5,l5,happ,htk5,hfr⟩:=a88_8_4 [(w+a.getD i 0*q) % 10000] none true htk (by simp) (by simp;omega)
    refine ww_seq (ww_block ?_)
    refine ww_join (M:=fun s1=>gt s1.tm 6=.int .i64 (.ofNat (w+a.getD i 0*q))∧Kp [0,1,5,7] s'.tm s1.tm∧s1.loc=s.loc∧s1.hp=s.hp) ?_ (fun s1 ⟨a6,ak,al,ah⟩=>?_)
    ·refine ww_seq (ww_reg (fun n k=>by simp -implicitDefEqProofs (disch:=omega) only [go_sem,reduceIte,Nat.reduceEqDiff,k0,k7,len_sl ha];rfl) ?_)
     refine ww_if (by simp only [gt_pt,reduceIte];rfl) (fun hia=>?_) (fun hia=>ww_skip ?_)
     ·refine ww_reg (fun n k=>by simp -implicitDefEqProofs (disch:=omega) only [go_sem,reduceIte,Nat.reduceEqDiff,k0,k1,k6,k7,ia29 ha];rfl) ?_
      exact ⟨sS,(by (try dsimp only);repeat (first | with_reducible exact Kp_refl _ _ | with_reducible refine Kp_pt (by decide) ?_)),kl,kh⟩
     ·exact ⟨(by simp -implicitDefEqProofs (disch:=omega) only [go_sem,reduceIte,Nat.reduceEqDiff,k6,getD_ge hia,Nat.zero_mul,Nat.add_zero]),(by (try dsimp only);repeat (first | with_reducible exact Kp_refl _ _ | with_reducible refine Kp_pt (by decide) ?_)),kl,kh⟩
    have a1:=(ak 1 (by decide)).trans k1;have a7:=(ak 7 (by decide)).trans k7;have a5:=(ak 5 (by decide)).trans k5
    refine ww_seq (ww_reg (fun n k=>by simp -implicitDefEqProofs (disch:=omega) only [go_sem,reduceIte,Nat.reduceEqDiff,a6,a5,al,bs29,happ];rfl) ?_)
    refine sE1 a6 ?_
    refine sE1 a7 ?_
    refine ⟨m - 1,by omega,i+1,(w+a.getD i 0*q) / 10000,out++[(w+a.getD i 0*q) % 10000],by omega,(by simp -implicitDefEqProofs (disch:=omega) only [go_sem,reduceIte,Nat.reduceEqDiff,ak 0 (by decide),k0]),(sS1 a1),sS,sS,?_,by simp [hlen],hdg.snoc (Nat.mod_lt _ (by decide)),b1,?_,?_,ah.trans hhp⟩
    ·have e:∀ x y,gt (pt (pt (pt s1.tm 5 v5) 6 x) 7 y) 5=v5:=fun x y=>sS
     rw [e];exact htk5
    ·rcases Nat.lt_or_ge i a.length with q1 | q1
     ·exact .inl q1
     ·right
      rw [getD_ge (by omega),Nat.zero_mul]
      omega
    ·rw [vl_take_next]
     exact times_step hlen hv (by omega)
   ·rw [if_pos rfl]
    refine ⟨out,by rw [kl,k5];exact htk,hdg,?_,by omega,kh.trans hhp⟩
    have en:w=0:=by omega
    subst en
    rw [List.take_of_length_le (by omega)] at hv
    simpa using hv
 ·obtain ⟨v',hsl,hex⟩:=htk.out
  obtain ⟨r,hr,d,⟨⟨x,rfl,hx⟩,dd,cd,_⟩,ht⟩:=trim_spec hsl hdg (by omega) false ⟨h.rows,none,h.mods⟩
  refine ww_seq (ww_call (hr) (fun n hn k=>by simp -implicitDefEqProofs (disch:=omega) only [go_sem,reduceIte,Nat.reduceEqDiff,hhp,clx2 (Ex1.bool _) hex hn,fld31];rfl) ?_)
  exact ww_ret (hQ _ _ (fin_tmp (v:=x) sS (hx.ex _) rfl hx.noRefs) ⟨d,hx,dd,cd,by rw [ht.vl,hv],by have:=ht.len;omega⟩)
end Go.AM.S
end
section
namespace Go.AM.S
open Go Go.AM Go.Proofs NumL
open _root_.Go.AM.G (R)
set_option maxRecDepth 100000
end Go.AM.S
end
section
namespace Go.AM.S
open Go Go.AM Go.Proofs NumL
open _root_.Go.AM.G (R)
set_option maxRecDepth 100000
end Go.AM.S
end
section
namespace Go.AM.S
open Go Go.AM Go.Proofs NumL
open _root_.Go.AM.G (R)
set_option maxRecDepth 100000
section
variable {P:Program} {C:Cfg} {call:CallF} {gl:Nat→Bool} {o:Oper} {t' tm:Tm} {loc:Lo} {hp:Hp} {j:V→Lo→Hp→R}
theorem gen_makeG {d:Nat} {x:Nat} {t e:TypeId} {n b:Nat} {k1 k2:IntKind} (hd:o.dst=some d) (ho:o.op=.makeSlice t (.tmp x) (.tmp x)) (hg:gl d=true) (he:elemT P t=some e) (hl:layE P e=some (1,false)) (hb:(P.info? e).map (·.bytes)=some b)
  (hz:zeroV P e=some (.int k2 (.ofNat 0))) (hv:gt t' x=.int k1 (.ofNat n)) (hn:n*b≤70368744177664) (hn2:n≤70368744177664) :
  gen P C call gl o t' tm loc hp j=j (.arr (.glob hp.rows.length) 0 n (some n) 1 false) loc (hadd hp (.cells false (nl k2 (List.replicate n 0)))):=by
 have hf:flat (List.replicate n (V.int k2 (.ofNat 0)))=nl k2 (List.replicate n 0):=by
  unfold flat nl
  rw [List.map_replicate]
  clear hv hn hn2
  induction n with
  | zero=>rfl
  | succ n ih=>rw [List.replicate_succ,List.flatMap_cons,ih];rfl
 refine gen_val (v:=.arr (.glob hp.rows.length) 0 n (some n) 1 false) (st:=⟨t',loc,hadd hp (.cells false (nl k2 (List.replicate n 0)))⟩) hd ?_
 have hp1:locV P C gl (⟨t',loc,hp⟩:St).ρ (⟨t',loc,hp⟩:St).lc o=none:=by
  unfold locV
  simp only [ho,pureV,Option.map_none]
 unfold stepV
 rw [hp1]
 unfold stepG
 simp only [ho,hd,opd_gt,hv,makeV,he,hl,hb,hz]
 rw [show Nat.ble n n=true from by rw [Nat.ble_eq];exact Nat.le_refl n,show Nat.ble (n*b) maxBytes=true from by rw [Nat.ble_eq];exact hn,show Nat.ble n maxBytes=true from by rw [Nat.ble_eq];exact hn2]
 simp only [V.cells,List.length_cons,List.length_nil,V.live,Bool.and_self,hg,addRow,cond_true,hf]
 rfl
theorem slc_cut {t e:TypeId} {ag0:Bool} (he:F.elemT P t=some e) (hl:F.layE P e=some (1,ag0)) (r:Ref) (len c:Nat) (ag:Bool) (k k':IntKind) (i m:Nat) (hi:i<m) (hm:m≤len) (hc:len≤c) :
  slc P t (.arr r 0 len (some c) 1 ag) (some (.int k (.ofNat i))) (some (.int k' (.ofNat m))) none=some (.arr r i (m - i) (some (c - i)) 1 ag):=by
 show F.sliceV P t (.arr r 0 len (some c) 1 ag) (some (.ofNat i)) (some (.ofNat m)) none=_
 unfold F.sliceV
 simp only [he,hl,Nat.beq_refl,cond_true]
 unfold F.sliceArr
 simp only [Option.getD_some,F.toNatLe]
 rw [show Nat.ble m len=true from by rw [Nat.ble_eq];exact hm]
 simp only [cond_true]
 rw [show Nat.ble i m=true from by rw [Nat.ble_eq];omega]
 simp only [cond_true,show Nat.beq i c=false from by
  cases hb:Nat.beq i c with
  | false=>rfl
  | true=>have:=Nat.eq_of_beq_eq_true hb;omega,Bool.false_and,cond_false,Nat.mul_one,Nat.zero_add]
theorem slc_pre {t e:TypeId} {ag0:Bool} (he:F.elemT P t=some e) (hl:F.layE P e=some (1,ag0)) (r:Ref) (off len c:Nat) (ag:Bool) (k':IntKind) (i:Nat) (hi:i≤len) :
  slc P t (.arr r off len (some c) 1 ag) none (some (.int k' (.ofNat i))) none=some (.arr r off i (some c) 1 ag):=by
 show F.sliceV P t (.arr r off len (some c) 1 ag) none (some (.ofNat i)) none=_
 unfold F.sliceV
 simp only [he,hl,Nat.beq_refl,cond_true]
 unfold F.sliceArr
 simp only [Option.getD_some,F.toNatLe]
 rw [show Nat.ble i len=true from by rw [Nat.ble_eq];exact hi]
 simp only [cond_true,Option.getD_none,show Nat.ble 0 i=true from Nat.ble_eq ▸ Nat.zero_le i,show (Nat.beq 0 0)=true from rfl,Bool.not_true,Bool.and_false,cond_false,Nat.zero_mul,Nat.add_zero,Nat.sub_zero]
def put (L:List Nat) (i:Nat) (l:List Nat):List Nat:=L.take i++l++L.drop (i+l.length)
theorem setAt_put (k:IntKind) (L l:List Nat) (i:Nat) (h:i+l.length≤L.length):setAt (nl k L) i (nl k l)=some (nl k (put L i l)):=by
 unfold setAt put
 simp only [nl_length]
 rw [show Nat.ble (i+l.length) L.length=true from by rw [Nat.ble_eq];exact h]
 simp only [cond_true,nl,List.map_append,List.map_take,List.map_drop]
theorem put_length {L l:List Nat} {i:Nat} (h:i+l.length≤L.length):(put L i l).length=L.length:=by
 unfold put
 simp only [List.length_append,List.length_take,List.length_drop]
 omega
theorem gen_clear {x:Nat} {c:Call} {t e:TypeId} {k:IntKind} {r off len:Nat} {li:Option Nat} {L:List Nat} (hd:o.dst=none) (ho:o.op=.call c) (hc:c.callee=.builtin .clear) (ha:c.args = #[.tmp x]) (hty:c.argTypes[0]? = some t)
  (he:elemT P t=some e) (hl:layE P e=some (1,false)) (hz:zeroV P e=some (.int k (.ofNat 0))) (hx:gt t' x=.arr (.glob r) off len li 1 false) (hlen:0<len) (hr:hp.rows[r]? = some (.cells false (nl k L))) (hb:off+len≤L.length) :
  gen P C call gl o t' tm loc hp j=j (.tuple []) loc (hset hp r (.cells false (nl k (put L off (List.replicate len 0))))):=by
 have hf:flat (List.replicate len (V.int k (.ofNat 0)))=nl k (List.replicate len 0):=by
  rw [←flat_nl]
  unfold nl
  rw [List.map_replicate]
 refine gen_none (v:=.tuple []) (st:=⟨t',loc,hset hp r (.cells false (nl k (put L off (List.replicate len 0))))⟩) hd ?_
 have hp1:locV P C gl (⟨t',loc,hp⟩:St).ρ (⟨t',loc,hp⟩:St).lc o=none:=by
  unfold locV
  simp only [ho,pureV,hc,ha,Option.map_none]
 unfold stepV
 rw [hp1]
 unfold stepG
 simp only [ho,callS,hc,hty,hd,opds,ha,List.map_cons,List.map_nil,opd_gt,hx,clearV,he,hl,hz,hf]
 rw [show Nat.blt 0 len=true from by rw [Nat.blt_eq];exact hlen]
 simp only [Nat.beq_refl,V.live,V.cells,V.noLoc,List.length_cons,List.length_nil,List.all_cons,List.all_nil,V.cellOk,Bool.or_true,Bool.and_self,cond_true,getRow_glob,hr,setAt_put k L (List.replicate len 0) off (by simpa using hb),setRow_glob]
theorem gen_copy {d x y:Nat} {c:Call} {t e:TypeId} {k:IntKind} {r off len:Nat} {li:Option Nat} {L ys:List Nat} {w:V} (hd:o.dst=some d) (ho:o.op=.call c) (hc:c.callee=.builtin .copy) (ha:c.args = #[.tmp x,.tmp y]) (hty:c.argTypes[0]? = some t)
  (he:elemT P t=some e) (hl:layE P e=some (1,false)) (hxy:x≠y) (hit:itemsOf ⟨pt (pt .lf x (.arr (.glob r) off len li 1 false)) y w,loc,hp⟩ w=some (nl k ys)) (hys:ys.length≤len) (hr:hp.rows[r]? = some (.cells false (nl k L))) (hb:off+len≤L.length) :
  gen P C call gl o (pt (pt .lf x (.arr (.glob r) off len li 1 false)) y w) tm loc hp j=j (.int .i64 (.ofNat ys.length)) loc (hset hp r (.cells false (nl k (put L off ys)))):=by
 have hx:gt (pt (pt .lf x (.arr (.glob r) off len li 1 false)) y w) x=.arr (.glob r) off len li 1 false:=by rw [gt_pt,if_neg (Ne.symm hxy),gt_pt,if_pos rfl]
 have hy:gt (pt (pt .lf x (.arr (.glob r) off len li 1 false)) y w) y=w:=by rw [gt_pt,if_pos rfl]
 have hf:flat ((nl k ys).take len)=nl k ys:=by rw [List.take_of_length_le (by rw [nl_length];exact hys),flat_nl]
 refine gen_val (v:=.int .i64 (.ofNat ys.length)) (st:=⟨pt (pt .lf x (.arr (.glob r) off len li 1 false)) y w,loc,hset hp r (.cells false (nl k (put L off ys)))⟩) hd ?_
 have hp1:locV P C gl (⟨pt (pt .lf x (.arr (.glob r) off len li 1 false)) y w,loc,hp⟩:St).ρ (⟨pt (pt .lf x (.arr (.glob r) off len li 1 false)) y w,loc,hp⟩:St).lc o=none:=by
  unfold locV
  simp only [ho,pureV,hc,ha,Option.map_none]
 unfold stepV
 rw [hp1]
 unfold stepG
 simp only [ho,callS,hc,hty,hd,opds,ha,List.map_cons,List.map_nil,opd_gt,hx,hy,copyV,he,hl,hit,fits_nl,flat_nl,noLocL_nl,Nat.beq_refl,Bool.or_true,Bool.and_self,getRow_glob,hr,hf,setAt_put k L ys off (by omega),nl_length,Nat.mul_one]
 rw [show Nat.ble (off+len) L.length=true from by rw [Nat.ble_eq];exact hb,Nat.min_eq_left hys]
 simp only [cond_true,setRow_glob]
 rfl
end
end Go.AM.S
end
section
namespace Go.AM.S
open Go Go.AM Go.Proofs NumL
open _root_.Go.AM.G (R)
set_option maxRecDepth 100000
theorem tbl85:tbl 85=some ⟨rc85,[.tmp 4]⟩:=by kernel_rfl
theorem g85_1_3 (c:CallF) (t:Tm) (l:Lo) (h:Hp) (j:V→Lo→Hp→R) (k:IntKind) (n:Nat) (hn:n≤1000000000):go1 Try.f85 85 1 3 11 (.int k (.ofNat n)) c t l h j=j (.arr (.glob h.rows.length) 0 n (some n) 1 false) l (hadd h (.cells false (nl .u32 (List.replicate n 0)))) :=
 gen_makeG (C:=Cg) (gl:=Cg.glob 85) (call:=c) (tm:=t) (loc:=l) (hp:=h) (j:=j) (t':=pt .lf 11 (.int k (.ofNat n))) (k1:=k) (n:=n) (o:=opA Try.f85 1 3) (d:=12) (x:=11) (t:=24) (e:=86) (b:=4) (by kernel_rfl) (by kernel_rfl) (by kernel_rfl) (by kernel_rfl) (by kernel_rfl) (by kernel_rfl) (by kernel_rfl) (by rw [gt_pt,if_pos rfl]) (by omega) (by omega)
theorem or_low {a b m:Nat} (hb:b<2 ^ m):a*2 ^ m ||| b=a*2 ^ m+b:=by
 rw [Nat.mul_comm,Nat.two_pow_add_eq_or_of_lt hb]
theorem shl_parts {x up:Nat} (hx:x<4294967296) (hu:up≤32):x*2 ^ up<18446744073709551616:=by
 have h1:2 ^ up≤2 ^ 32:=Nat.pow_le_pow_right (by decide) hu
 calc x*2 ^ up≤4294967295*2 ^ 32:=Nat.mul_le_mul (by omega) h1
  _<_:=by decide
structure I85 (v:V) (a:List Nat) (up:Nat) (h:Hp) (m:Nat) (s:St) (i:Nat) (L:List Nat):Prop where
 m:m+i=a.length
 h0:gt s.tm 13=v
 h1:gt s.tm 1=.int .u64 (.ofNat up)
 h5:gt s.tm 5=.arr (.glob h.rows.length) 0 (a.length+1) (some (a.length+1)) 1 false
 h14:gt s.tm 14=.int .i64 (.ofNat a.length)
 h15:gt s.tm 15=.int .i64 (.ofNat i)
 len:L.length=a.length+1
 dg:Dg B L
 top:L.getD i 0<2 ^ up
 zero:∀ q,i<q→L.getD q 0=0
 v:vl B L=vl B (a.take i)*2 ^ up
 row:s.hp.rows[h.rows.length]? = some (.cells false (nl .u32 L))
 rl:s.hp.rows.length=h.rows.length+1
 same:∀ q,q<h.rows.length→s.hp.rows[q]? = h.rows[q]?
 dg2:DG h.rows.length s.hp
theorem shl_split (x up:Nat) (hu:up≤32):x*2 ^ up % 4294967296=x % 2 ^ (32 - up)*2 ^ up:=by
 have e:(4294967296:Nat)=2 ^ (32 - up)*2 ^ up:=by rw [←Nat.pow_add,Nat.sub_add_cancel hu]
 rw [e,Nat.mul_mod_mul_right]
theorem shl_hi {x up:Nat} (hx:x<4294967296):x*2 ^ up / 4294967296<2 ^ up:=by
 rw [Nat.div_lt_iff_lt_mul (by decide),Nat.mul_comm (2 ^ up)]
 exact Nat.mul_lt_mul_of_pos_right hx (Nat.two_pow_pos up)
theorem low_fit {x up y:Nat} (hu:up≤32) (hy:y<2 ^ up):(y ||| x*2 ^ up % 4294967296)=y+x*2 ^ up % 4294967296∧y+x*2 ^ up % 4294967296<4294967296:=by
 rw [shl_split x up hu]
 have h1:x % 2 ^ (32 - up)+1≤2 ^ (32 - up):=Nat.mod_lt _ (Nat.two_pow_pos _)
 have h2:(x % 2 ^ (32 - up)+1)*2 ^ up≤2 ^ (32 - up)*2 ^ up:=Nat.mul_le_mul_right _ h1
 rw [←Nat.pow_add,Nat.sub_add_cancel hu,Nat.add_mul,Nat.one_mul] at h2
 refine ⟨by rw [Nat.or_comm,or_low hy,Nat.add_comm],?_⟩
 have:(2:Nat) ^ 32=4294967296:=rfl
 omega
theorem vl_rep0 (B n:Nat):vl B (List.replicate n 0)=0:=by
 induction n with
 | zero=>rfl
 | succ n ih=>simp only [List.replicate_succ,vl,ih,Nat.mul_zero,Nat.add_zero]
theorem getD_rep0 (n i:Nat):(List.replicate n 0).getD i 0=0:=by
 rw [List.getD_eq_getElem?_getD,List.getElem?_replicate]
 split<;>rfl
theorem dg_rep0 (n:Nat):Dg B (List.replicate n 0):=by
 intro x hx
 rw [List.eq_of_mem_replicate hx];decide
theorem back_eq {h h':Hp} {l:List V} (hd:DG h.rows.length h') (hl:V.noRefsL l=false):backHp h h' l=⟨h'.rows,h.dirty,h.mods⟩:=by
 unfold backHp
 rw [clean_dg hd,hl];rfl
theorem shl_step {p i v0 v1 v2 l lo hi w x u:Nat} (e1:v1+p ^ i*l=v0+p ^ i*(l+lo)) (e2:v2=v1+p ^ (i+1)*hi) (hy:lo+p*hi=x*u) (hv:v0=w*u):v2=(w+p ^ i*x)*u:=by
 rw [Nat.add_mul,Nat.mul_assoc,←hy,←hv,e2,Nat.pow_succ,Nat.mul_add,Nat.mul_assoc]
 rw [Nat.mul_add] at e1
 omega
theorem shifted_runs {v:V} {a:List Nat} {up:Nat} (hv:Sl .u32 v a) (da:Dg B a) (la:a.length≤1000000) (hu:up≤32) (h:Hp) :
  ∃ h' L,Runs Pg kn0 tbl 85 [v,.int .u64 (.ofNat up)] h (.val (.arr (.glob h.rows.length) 0 (a.length+1) (some (a.length+1)) 1 false) h')∧L.length=a.length+1∧Dg B L∧vl B L=vl B a*2 ^ up∧h'.rows.length=h.rows.length+1∧h'.rows[h.rows.length]? = some (.cells false (nl .u32 L))∧(∀ q,q<h.rows.length→h'.rows[q]? = h.rows[q]?)∧h'.dirty=h.dirty:=by
 let Post:Out→Prop:=fun o=>∃ h' L,o=.val (.arr (.glob h.rows.length) 0 (a.length+1) (some (a.length+1)) 1 false) h'∧L.length=a.length+1∧Dg B L∧vl B L=vl B a*2 ^ up∧h'.rows.length=h.rows.length+1∧h'.rows[h.rows.length]? = some (.cells false (nl .u32 L))∧(∀ q,q<h.rows.length→h'.rows[q]? = h.rows[q]?)∧h'.dirty=h.dirty
 suffices hw:WW Pg kn0 tbl rc85 ⟨startTm [v,.int .u64 (.ofNat up)],.lf,⟨h.rows,none,h.mods⟩⟩ (fun s=>∃ o,fin Pg h [.tmp 4] s=some o∧Post o) (fun _ _=>False) (fun s=>∃ o,fin Pg h [.tmp 4] s=some o∧Post o) by
  obtain ⟨o,h1,h',L,rfl,h2⟩:=runs_ex (kn:=kn0) (h:=h) rfl tbl85 hw
  exact ⟨h',L,h1,h2⟩
 unfold rc85
 refine sR ?_
 refine ww_seq (ww_reg (fun n k=>by simp -implicitDefEqProofs (disch:=omega) only [go_sem,reduceIte,Nat.reduceEqDiff,gt_start,List.getD_cons_zero,List.getD_cons_succ,len_sl hv,g85_1_3];rfl) ?_)
 refine ww_seq (ww_seq (ww_reg (fun n k=>by simp -implicitDefEqProofs (disch:=omega) only [go_sem,reduceIte,Nat.reduceEqDiff,gt_start,List.getD_cons_zero,List.getD_cons_succ,len_sl hv];rfl) ?_))
 refine ww_for (fun m s=>∃ i L,I85 v a up h m s i L) a.length ⟨0,List.replicate (a.length+1) 0,by omega,sSG,sSG,sS,sS,sS,by simp,dg_rep0 _,?_,fun q _=>getD_rep0 _ q,?_,hadd_at _ _,?_,fun q hq=>hadd_lt _ _ hq,fun x hx=>by cases hx⟩ ?_
 ·rw [getD_rep0];exact Nat.two_pow_pos _
 ·rw [vl_rep0];simp [vl]
 ·rw [hadd_len]
 intro m s ⟨i,L,hm,h0,h1,h5,h14,h15,hL,hdg,htop,hz,hvl,hrow,hrl,hsame,hdg2⟩
 refine sR2 h14 h15 ?_
 refine ww_seq (ww_if (by simp only [gt_pt,reduceIte];rfl) (fun hi=>ww_skip ?_) (fun hi=>ww_exit ?_))
 ·have hx:a.getD i 0<4294967296:=da.get (by decide) i
  have hp:=shl_parts hx hu
  obtain ⟨f1,f2⟩:=low_fit (x:=a.getD i 0) hu htop
  have hLi:L.getD i 0<4294967296:=hdg.get (by decide) i
  have hhi:=shl_hi (up:=up) hx
  have hu2:(2:Nat) ^ up≤4294967296:=Nat.pow_le_pow_right (by decide) hu
  refine ww_seq (ww_block ?_)
  refine ww_seq (ww_reg (fun n k=>by simp -implicitDefEqProofs (disch:=omega) only [go_sem,reduceIte,Nat.reduceEqDiff,h0,h15,ia24 hv];rfl) ?_)
  refine sR1 h1 ?_
  refine ww_seq (ww_reg (fun n k=>by simp -implicitDefEqProofs (disch:=omega) only [go_sem,reduceIte,Nat.reduceEqDiff,h5,nth_rows hrow,ldg_nl L86,wrap_u32_mod,f1,w85_6_8 hrow];rfl) ?_)
  have hrow2:=hset_at s.hp (row:=.cells false (nl .u32 (L.set i (L.getD i 0+a.getD i 0*2 ^ up % 4294967296)))) hrow
  refine ww_reg (fun n k=>by simp -implicitDefEqProofs (disch:=omega) only [go_sem,reduceIte,Nat.reduceEqDiff,h5,Nat.reducePow,w85_7_7 (off:=i+1) hrow2 (by rw [List.length_set];omega)];rfl) ?_
  refine sE1 h15 ?_
  refine ⟨m - 1,by omega,i+1,(L.set i (L.getD i 0+a.getD i 0*2 ^ up % 4294967296)).set (i+1) (a.getD i 0*2 ^ up / 4294967296),by omega,(sS1 h0),(sS1 h1),(sS1 h5),(sS1 h14),sS,by simp [hL],(hdg.set _ f2).set _ (Nat.lt_of_lt_of_le hhi hu2),?_,?_,?_,hset_at _ hrow2,by rw [hset_len,hset_len];exact hrl,fun q hq=>by rw [hset_ne _ (by omega),hset_ne _ (by omega)];exact hsame q hq,(hdg2.set (Nat.le_refl _) _).set (Nat.le_refl _) _⟩
  ·rw [getD_set_eq _ _ _ (by rw [List.length_set];omega)];exact hhi
  ·intro q hq
   rw [getD_set_ne _ _ _ _ (by omega),getD_set_ne _ _ _ _ (by omega)]
   exact hz q (by omega)
  ·have e1:=vl_set B L i (L.getD i 0+a.getD i 0*2 ^ up % 4294967296) (by omega)
   have e2:=vl_set B (L.set i (L.getD i 0+a.getD i 0*2 ^ up % 4294967296)) (i+1) (a.getD i 0*2 ^ up / 4294967296) (by rw [List.length_set];omega)
   rw [getD_set_ne _ _ _ _ (by omega),hz (i+1) (by omega),Nat.mul_zero,Nat.add_zero] at e2
   rw [vl_take_next]
   exact shl_step e1 e2 (Nat.mod_add_div _ _) hvl
 ·rw [if_pos rfl]
  have ei:i=a.length:=by omega
  subst ei
  refine sR1 h5 ?_
  rw [List.take_length] at hvl
  have key:fin Pg h [.tmp 4] ⟨pt (pt s.tm 16 (.bool (decide (a.length<a.length)))) 4 (.arr (.glob h.rows.length) 0 (a.length+1) (some (a.length+1)) 1 false),s.loc,s.hp⟩ = some (.val (.arr (.glob h.rows.length) 0 (a.length+1) (some (a.length+1)) 1 false) (backHp h s.hp [.arr (.glob h.rows.length) 0 (a.length+1) (some (a.length+1)) 1 false])):=by
   unfold fin
   simp only [resV,rho_gt,Option.map_some]
   rw [show ∀ t w,gt (pt t 4 w) 4=w from fun t w=>sS]
   rfl
  refine ww_ret ⟨_,key,_,L,rfl,hL,hdg,hvl,?_⟩
  rw [back_eq hdg2 rfl]
  exact ⟨hrl,hrow,hsame,rfl⟩
end Go.AM.S
end
section
namespace Go.AM.S
open Go Go.AM Go.Proofs NumL
open _root_.Go.AM.G (R)
set_option maxRecDepth 100000
theorem tbl87:tbl 87=some ⟨rc87,[.tmp 4]⟩:=by kernel_rfl
structure I87 (r:Nat) (a:List Nat) (up:Nat) (c:Nat) (h:Hp) (m:Nat) (s:St) (i:Nat) (L:List Nat):Prop where
 m:m+i=a.length
 h12:gt s.tm 12=.arr (.glob r) 0 a.length (some c) 1 false
 h1:gt s.tm 1=.int .u64 (.ofNat up)
 h5:gt s.tm 5=.arr (.loc 11 1) 0 a.length (some a.length) 1 false
 h13:gt s.tm 13=.int .i64 (.ofNat a.length)
 h14:gt s.tm 14=.int .i64 (.ofNat i)
 row:lg s.loc 11=(1,.cells false (nl .u32 L))
 len:L.length=a.length
 dg:Dg B L
 top:∀ q,i=q+1→L.getD q 0<2 ^ (32 - up)
 zero:∀ q,i≤q→L.getD q 0=0
 v:vl B L*2 ^ up+a.getD 0 0 % 2 ^ up*(if i=0 then 0 else 1)=vl B (a.take i)
 hp:s.hp=h
theorem back_parts {x up:Nat} (hx:x<4294967296) (hu:up<32):x*2 ^ 32 / 2 ^ up=x*2 ^ (32 - up):=by
 rw [show (2:Nat) ^ 32=2 ^ (32 - up)*2 ^ up by rw [←Nat.pow_add,Nat.sub_add_cancel (by omega)],←Nat.mul_assoc,Nat.mul_div_cancel _ (Nat.two_pow_pos up)]
theorem back_hi {x up:Nat} (hu:up<32):x*2 ^ (32 - up) / 4294967296=x / 2 ^ up:=by
 rw [show (4294967296:Nat)=2 ^ up*2 ^ (32 - up) by rw [←Nat.pow_add,Nat.add_sub_cancel' (by omega)],Nat.mul_div_mul_right _ _ (Nat.two_pow_pos _)]
theorem back_lt {x up:Nat} (hx:x<4294967296) (hu:up<32):x / 2 ^ up<2 ^ (32 - up):=by
 rw [Nat.div_lt_iff_lt_mul (Nat.two_pow_pos up),←Nat.pow_add,Nat.sub_add_cancel (by omega)]
 exact hx
theorem back_step {p b v0 v1 v2 l lo hi x u r w:Nat} (e1:v1=v0+p*b*hi) (e2:v2+p*l=v1+p*(l+lo)) (hx:b*hi*u+lo*u=b*x) (hv:v0*u+r=w):v2*u+r=w+p*b*x:=by
 rw [Nat.mul_add] at e2
 have e3:v2=v0+p*b*hi+p*lo:=by omega
 have e4:p*(b*hi*u+lo*u)=p*(b*x):=by rw [hx]
 rw [Nat.mul_add,←Nat.mul_assoc,←Nat.mul_assoc,←Nat.mul_assoc,←Nat.mul_assoc] at e4
 rw [e3,Nat.add_mul,Nat.add_mul]
 omega
theorem back_runs {r c:Nat} {a:List Nat} {up:Nat} {h:Hp} {f:Bool} (hr:h.rows[r]? = some (.cells f (nl .u32 a))) (da:Dg B a) (la:a.length≤1000000) (hu:up<32) :
  ∃ v b,Runs Pg kn0 tbl 87 [.arr (.glob r) 0 a.length (some c) 1 false,.int .u64 (.ofNat up)] h (.val v h)∧Sl .u32 v b∧Dg B b∧vl B b=vl B a / 2 ^ up∧b.length=a.length:=by
 let Post:Out→Prop:=fun o=>∃ v b,o=.val v h∧Sl .u32 v b∧Dg B b∧vl B b=vl B a / 2 ^ up∧b.length=a.length
 suffices hw:WW Pg kn0 tbl rc87 ⟨startTm [.arr (.glob r) 0 a.length (some c) 1 false,.int .u64 (.ofNat up)],.lf,⟨h.rows,none,h.mods⟩⟩ (fun s=>∃ o,fin Pg h [.tmp 4] s=some o∧Post o) (fun _ _=>False) (fun s=>∃ o,fin Pg h [.tmp 4] s=some o∧Post o) by
  obtain ⟨o,h1,v,b,rfl,h2⟩:=runs_ex (kn:=kn0) (h:=h) rfl tbl87 hw
  exact ⟨v,b,h1,h2⟩
 unfold rc87
 refine sR ?_
 refine sRG ?_
 refine sQG ?_
 refine ww_for (fun m s=>∃ i L,I87 r a up c ⟨h.rows,none,h.mods⟩ m s i L) a.length ⟨0,List.replicate a.length 0,by omega,sSG,sSG,sS,sS,sS,sS,by simp,dg_rep0 _,(fun q hq=>by omega),fun q _=>getD_rep0 _ q,by rw [vl_rep0];simp [vl],rfl⟩ ?_
 intro m s ⟨i,L,hm,h12,h1,h5,h13,h14,hrow,hL,hdg,htop,hz,hvl,hhp⟩
 have hrr:s.hp.rows[r]? = some (.cells f (nl .u32 a)):=by rw [hhp];exact hr
 refine sR2 h13 h14 ?_
 refine ww_seq (ww_if (by simp only [gt_pt,reduceIte];rfl) (fun hi=>ww_skip ?_) (fun hi=>ww_exit ?_))
 ·have hx:a.getD i 0<4294967296:=da.get (by decide) i
  have hp32:a.getD i 0*2 ^ 32<18446744073709551616:=by
   have:(2:Nat) ^ 32=4294967296:=rfl
   omega
  have hle:a.getD i 0*2 ^ (32 - up)<18446744073709551616:=by rw [←back_parts hx hu];exact Nat.lt_of_le_of_lt (Nat.div_le_self _ _) hp32
  have hhi:=back_lt hx hu
  have hhi2:a.getD i 0 / 2 ^ up<4294967296:=Nat.lt_of_le_of_lt (Nat.div_le_self _ _) hx
  have hLi:=hz i (Nat.le_refl _)
  refine ww_join (M:=fun s1=>∃ L2,gt s1.tm 12=.arr (.glob r) 0 a.length (some c) 1 false∧gt s1.tm 1=.int .u64 (.ofNat up)∧gt s1.tm 5=.arr (.loc 11 1) 0 a.length (some a.length) 1 false∧gt s1.tm 13=.int .i64 (.ofNat a.length)∧gt s1.tm 14=.int .i64 (.ofNat i)∧lg s1.loc 11=(1,.cells false (nl .u32 L2))∧L2.length=a.length∧Dg B L2∧L2.getD i 0<2 ^ (32 - up)∧(∀ q,i<q→L2.getD q 0=0)∧vl B L2*2 ^ up+a.getD 0 0 % 2 ^ up=vl B (a.take (i+1))∧s1.hp=⟨h.rows,none,h.mods⟩) ?_ ?_
  ·refine ww_block ?_
   refine ww_seq (ww_reg (fun n k=>by simp -implicitDefEqProofs (disch:=omega) only [go_sem,reduceIte,Nat.reduceEqDiff,h12,h14,nth_rows hrr,ldg_nl L86];rfl) ?_)
   refine ww_seq (ww_reg (fun n k=>by simp -implicitDefEqProofs (disch:=omega) only [go_sem,reduceIte,Nat.reduceEqDiff,h1,Nat.reducePow,back_parts hx hu];rfl) ?_)
   refine ww_seq (ww_reg (fun n k=>by simp -implicitDefEqProofs (disch:=omega) only [go_sem,reduceIte,Nat.reduceEqDiff,h5,hrow,hLi,Nat.zero_or,Nat.reducePow,back_hi hu];rfl) ?_)
   have e1:=vl_set B L i (a.getD i 0 / 2 ^ up) (by omega)
   rw [hLi,Nat.mul_zero,Nat.add_zero] at e1
   have hmd:=Nat.div_add_mod (a.getD i 0) (2 ^ up)
   refine sR ?_
   refine ww_if (by simp only [gt_pt,reduceIte];rfl) (fun h0=>?_) (fun h0=>ww_skip ?_)
   ·have hq:=htop (i - 1) (by omega)
    obtain ⟨f1,f2⟩:=low_fit (x:=a.getD i 0) (up:=32 - up) (by omega) hq
    have hn1:(L.set i (a.getD i 0 / 2 ^ up)).getD (i - 1) 0=L.getD (i - 1) 0:=getD_set_ne _ _ _ _ (by omega)
    have hLq:L.getD (i - 1) 0<4294967296:=hdg.get (by decide) _
    have hb:i - 1<(L.set i (a.getD i 0 / 2 ^ up)).length:=by rw [List.length_set];omega
    refine ww_reg (fun n k=>by simp -implicitDefEqProofs (disch:=omega) only [go_sem,reduceIte,Nat.reduceEqDiff,h5,wrap_u32_mod,hn1,f1,ldc_nl (P:=Pg) L86 1 false .u32 _ _ hb,stc_nl (P:=Pg) N86 _ _ hb];rfl) ?_
    refine ⟨(L.set i (a.getD i 0 / 2 ^ up)).set (i - 1) (L.getD (i - 1) 0+a.getD i 0*2 ^ (32 - up) % 4294967296),(sS1 h12),(sS1 h1),(sS1 h5),(sS1 h13),(sS1 h14),sS,by simp [hL],(hdg.set _ hhi2).set _ f2,?_,?_,?_,hhp⟩
    ·rw [getD_set_ne _ _ _ _ (by omega),getD_set_eq _ _ _ (by omega)];exact hhi
    ·intro q hq
     rw [getD_set_ne _ _ _ _ (by omega),getD_set_ne _ _ _ _ (by omega)]
     exact hz q (by omega)
    ·have e2:=vl_set B (L.set i (a.getD i 0 / 2 ^ up)) (i - 1) (L.getD (i - 1) 0+a.getD i 0*2 ^ (32 - up) % 4294967296) hb
     rw [hn1] at e2
     rw [if_neg (by omega),Nat.mul_one] at hvl
     rw [vl_take_next]
     have ei:B ^ i=B ^ (i - 1)*B:=by rw [←Nat.pow_succ];congr 1;omega
     rw [ei] at e1 ⊢
     refine back_step e1 e2 ?_ hvl
     have e5:(4294967296:Nat)=2 ^ (32 - up)*2 ^ up:=by rw [←Nat.pow_add,Nat.sub_add_cancel (by omega)]
     have e3:a.getD i 0*2 ^ (32 - up) % 4294967296=a.getD i 0 % 2 ^ up*2 ^ (32 - up):=by
      rw [e5,Nat.mul_comm (2 ^ (32 - up)) (2 ^ up),Nat.mul_mod_mul_right]
     rw [e3,Nat.mul_assoc _ (2 ^ (32 - up)),←e5]
     show 4294967296*(a.getD i 0 / 2 ^ up)*2 ^ up+a.getD i 0 % 2 ^ up*4294967296=4294967296*a.getD i 0
     rw [Nat.mul_assoc,Nat.mul_comm (a.getD i 0 / 2 ^ up),Nat.mul_comm (a.getD i 0 % 2 ^ up),←Nat.mul_add,hmd]
   ·have ei:i=0:=by omega
    subst ei
    refine ⟨L.set 0 (a.getD 0 0 / 2 ^ up),(sS1 h12),(sS1 h1),(sS1 h5),(sS1 h13),(sS1 h14),sS,by simpa using hL,hdg.set _ hhi2,by rw [getD_set_eq _ _ _ (by omega)];exact hhi,fun q hq=>by rw [getD_set_ne _ _ _ _ (by omega)];exact hz q (by omega),?_,hhp⟩
    rw [e1,vl_take_next]
    simp only [if_true,Nat.mul_zero,Nat.add_zero,Nat.pow_zero,Nat.one_mul] at hvl ⊢
    rw [←hvl,Nat.add_mul,Nat.mul_comm (a.getD 0 0 / 2 ^ up)]
    omega
  ·intro s1 ⟨L2,g12,g1,g5,g13,g14,grow,gL,gdg,gtop,gz,gvl,ghp⟩
   refine sE1 g14 ?_
   exact ⟨m - 1,by omega,i+1,L2,by omega,(sS1 g12),(sS1 g1),(sS1 g5),(sS1 g13),sS,(by simp -implicitDefEqProofs (disch:=omega) only [go_sem,reduceIte,Nat.reduceEqDiff,grow]),gL,gdg,fun q hq=>by rw [show q=i by omega];exact gtop,fun q hq=>gz q (by omega),by rw [if_neg (by omega),Nat.mul_one];exact gvl,ghp⟩
 ·rw [if_pos rfl]
  have ei:i=a.length:=by omega
  refine sR1 h5 ?_
  have key:fin Pg h [.tmp 4] ⟨pt (pt s.tm 15 (.bool (decide (i<a.length)))) 4 (.arr (.loc 11 1) 0 a.length (some a.length) 1 false),s.loc,s.hp⟩ = some (.val (.slice none false 1 (nl .u32 L)) h):=by
   have hx:=exp_arr (tm:=pt (pt s.tm 15 (.bool (decide (i<a.length)))) 4 (.arr (.loc 11 1) 0 a.length (some a.length) 1 false)) (hp:=s.hp) (li:=some a.length) hrow
   rw [hL] at hx
   exact fin_tmp sS hx (by rw [hhp]) rfl
  refine ww_ret ⟨_,key,_,L,rfl,.inl ⟨false,rfl⟩,hdg,?_,hL⟩
  rw [ei,List.take_length] at hvl
  rw [←hvl]
  symm
  split
  ·rw [Nat.mul_zero,Nat.add_zero,Nat.mul_div_cancel _ (Nat.two_pow_pos up)]
  ·rw [Nat.mul_one,Nat.mul_comm,Nat.mul_add_div (Nat.two_pow_pos up),Nat.div_eq_of_lt (Nat.mod_lt _ (Nat.two_pow_pos up)),Nat.add_zero]
end Go.AM.S
end
section
namespace Go.AM.S
open Go Go.AM Go.Proofs NumL
open _root_.Go.AM.G (R)
set_option maxRecDepth 100000
theorem tbl89:tbl 89=some ⟨rc89,[.tmp 2]⟩:=by kernel_rfl
theorem tbl84:tbl 84=some ⟨rc84,[.tmp 2]⟩:=by kernel_rfl
def Bits (x n:Nat):Prop:=x<2 ^ n∧(0<x→2 ^ n≤2*x)
instance (x n:Nat):Decidable (Bits x n):=inferInstanceAs (Decidable (_∧_))
theorem idx_any (s:Str) (k:IntKind) (i:Nat) (hi:i<s.n):idx Pg 9 (.str s) (.int k (.ofNat i))=some (.int .u8 (.ofNat (s.get i))):=by
 have hu:G.isStr (Pg.underlying 9)=true:=by rw [U9];rfl
 show (bif G.isStr (Pg.underlying 9) then (bif Nat.blt i s.n then some (V.int .u8 (.ofNat (s.get i))) else none) else none)=_
 rw [hu,show Nat.blt i s.n=true from by rw [Nat.blt_eq];exact hi]
 rfl
theorem len8:∀ i,i<256→Bits i (Str.get ⟨256,1013866857139168856493015739252390649739422828853819106890363778118420553376247557433637691341895324351018602695588957474325319502760499485336098898398377509666851054660423406800006203933793007272033180812049178612605246075062580585469430410618860250057463399279570354286669047577758927328864388992123306212451509403152394148136105363817402562688186708175358218852349079190158732807302672745370040257219644697201681238697346923541678507645485296520536209706771857694240900605172937619415410180424934769249448772944216470541052485265558808433676546390051204254346932932316488017972311616136051587427851453983453479168⟩ i)∧Str.get ⟨256,1013866857139168856493015739252390649739422828853819106890363778118420553376247557433637691341895324351018602695588957474325319502760499485336098898398377509666851054660423406800006203933793007272033180812049178612605246075062580585469430410618860250057463399279570354286669047577758927328864388992123306212451509403152394148136105363817402562688186708175358218852349079190158732807302672745370040257219644697201681238697346923541678507645485296520536209706771857694240900605172937619415410180424934769249448772944216470541052485265558808433676546390051204254346932932316488017972311616136051587427851453983453479168⟩ i≤8:=by decide +kernel
theorem Bits.up {x n k:Nat} (h:Bits (x / 2 ^ k) n) (hx:2 ^ k≤x):Bits x (k+n):=by
 have hp:=Nat.two_pow_pos k
 obtain ⟨h1,h2⟩:=h
 have h3:=h2 (Nat.div_pos hx hp)
 refine ⟨?_,fun _=>?_⟩
 ·rw [Nat.div_lt_iff_lt_mul hp] at h1
  rwa [Nat.pow_add,Nat.mul_comm]
 ·have h4:2 ^ k*2 ^ n≤2 ^ k*(2*(x / 2 ^ k)):=Nat.mul_le_mul_left _ h3
  have h5:=Nat.div_mul_le_self x (2 ^ k)
  rw [Nat.mul_comm] at h5
  rw [Nat.pow_add]
  have h6:2 ^ k*(2*(x / 2 ^ k))=2*(2 ^ k*(x / 2 ^ k)):=by rw [←Nat.mul_assoc,←Nat.mul_assoc,Nat.mul_comm (2 ^ k) 2]
  omega
theorem len32_spec {x:Nat} (hx:x<4294967296):Gives 89 [.int .u32 (.ofNat x)] fun r=>∃ n,r=.int .i64 (.ofNat n)∧Bits x n∧n≤32:=by
 refine gives_of tbl89 fun h Q hQ=>?_
 unfold rc89
 refine sR ?_
 have last:∀ (s:St) (y n:Nat),y<256→n≤24→(∀ m,Bits y m→Bits x (n+m))→gt s.tm 0=.int .u32 (.ofNat y)→gt s.tm 2=.int .i64 (.ofNat n)→s.hp=⟨h.rows,none,h.mods⟩→WW Pg kn0 tbl (.seq (.reg fun c t l h k=>gn Try.f89 89 7 2 c (p14 t (g0 t)) t l h (fun v0 l0 h0=>bO (idx Pg 9 (.str ⟨256,1013866857139168856493015739252390649739422828853819106890363778118420553376247557433637691341895324351018602695588957474325319502760499485336098898398377509666851054660423406800006203933793007272033180812049178612605246075062580585469430410618860250057463399279570354286669047577758927328864388992123306212451509403152394148136105363817402562688186708175358218852349079190158732807302672745370040257219644697201681238697346923541678507645485296520536209706771857694240900605172937619415410180424934769249448772944216470541052485265558808433676546390051204254346932932316488017972311616136051587427851453983453479168⟩) v0) fun v1=>gn Try.f89 89 7 4 c (p16 t v1) t l0 h0 (fun v2 l2 h2=>bO (bin Pg .add 3 false (g2 t) v2) fun v3=>k (p2 t v3) l2 h2))) .ret) s (fun _=>False) (fun _ _=>False) Q:=by
  intro s y n hy hn hb h0 h2 hh
  obtain ⟨b1,b2⟩:=len8 y hy
  generalize hg:Str.get ⟨256,1013866857139168856493015739252390649739422828853819106890363778118420553376247557433637691341895324351018602695588957474325319502760499485336098898398377509666851054660423406800006203933793007272033180812049178612605246075062580585469430410618860250057463399279570354286669047577758927328864388992123306212451509403152394148136105363817402562688186708175358218852349079190158732807302672745370040257219644697201681238697346923541678507645485296520536209706771857694240900605172937619415410180424934769249448772944216470541052485265558808433676546390051204254346932932316488017972311616136051587427851453983453479168⟩ y=q at b1 b2
  refine ww_seq (ww_reg (fun n k=>by simp -implicitDefEqProofs (disch:=omega) only [go_sem,reduceIte,Nat.reduceEqDiff,h0,h2,wrap_u8,idx_any,hg];rfl) ?_)
  exact ww_ret (hQ _ _ (fin_tmp (v:=.int .i64 (.ofNat (n+q))) sS (Ex1.int _ _ _) (by rw [hh]) rfl) ⟨_,rfl,hb q b1,by omega⟩)
 refine ww_join (M:=fun s=>∃ y n,y<65536∧n≤16∧(∀ m,Bits y m→Bits x (n+m))∧gt s.tm 0=.int .u32 (.ofNat y)∧gt s.tm 2=.int .i64 (.ofNat n)∧s.hp=⟨h.rows,none,h.mods⟩) ?_ ?_
 ·refine sRG ?_
  refine ww_if (by simp only [gt_pt,reduceIte];rfl) (fun hb=>?_) (fun hb=>ww_skip ?_)
  ·have e1:x / 2 ^ 16<65536:=by rw [Nat.div_lt_iff_lt_mul (by decide)];exact hx
   refine sRG ?_
   refine sE ?_
   exact ⟨x / 2 ^ 16,16,e1,Nat.le_refl _,fun m hm=>hm.up hb,sS,sS,rfl⟩
  ·exact ⟨x,0,by omega,by decide,fun m hm=>by rwa [Nat.zero_add],sSG,sS,rfl⟩
 intro s ⟨y,n,hy,hn,hb,h0,h2,hh⟩
 refine ww_join (M:=fun s=>∃ y n,y<256∧n≤24∧(∀ m,Bits y m→Bits x (n+m))∧gt s.tm 0=.int .u32 (.ofNat y)∧gt s.tm 2=.int .i64 (.ofNat n)∧s.hp=⟨h.rows,none,h.mods⟩) ?_ ?_
 ·refine sR1 h0 ?_
  refine ww_if (by simp only [gt_pt,reduceIte];rfl) (fun hc=>?_) (fun hc=>ww_skip ?_)
  ·have e1:y / 2 ^ 8<256:=by rw [Nat.div_lt_iff_lt_mul (by decide)];exact hy
   refine sR1 h0 ?_
   refine sE1 h2 ?_
   exact ⟨y / 2 ^ 8,n+8,e1,by omega,fun m hm=>by rw [Nat.add_assoc];exact hb _ (hm.up hc),sS,sS,hh⟩
  ·exact ⟨y,n,by omega,by omega,hb,(sS1 h0),(sS1 h2),hh⟩
 ·intro s ⟨y,n,hy,hn,hb,h0,h2,hh⟩
  exact last s y n hy hn hb h0 h2 hh
theorem lz32_spec {x:Nat} (hx:x<4294967296) (h0:0<x):Gives 84 [.int .u32 (.ofNat x)] fun r=>∃ n,r=.int .i64 (.ofNat n)∧n<32∧2147483648≤x*2 ^ n∧x*2 ^ n<4294967296:=by
 refine gives_of tbl84 fun h Q hQ=>?_
 unfold rc84
 refine sR ?_
 obtain ⟨_,hr,n,rfl,⟨b1,b2⟩,hn⟩:=len32_spec hx ⟨h.rows,none,h.mods⟩
 have b3:=b2 h0
 have hn0:0<n:=by
  rcases Nat.eq_zero_or_pos n with e | e
  ·subst e;simp at b1;omega
  ·exact e
 refine ww_seq (ww_call (hr) (fun n hn k=>by simp -implicitDefEqProofs (disch:=omega) only [go_sem,reduceIte,Nat.reduceEqDiff,gt_start,List.getD_cons_zero,List.getD_cons_succ,clc1 hn (Ex1.int _ _)];rfl) ?_)
 have e1:(2:Nat) ^ n*2 ^ (32 - n)=4294967296:=by rw [←Nat.pow_add,Nat.add_sub_cancel' hn]
 have hp:=Nat.two_pow_pos (32 - n)
 refine ww_ret (hQ _ _ (fin_tmp (v:=.int .i64 (.ofNat (32 - n))) sS (Ex1.int _ _ _) rfl rfl) ⟨_,rfl,by omega,?_,?_⟩)
 ·have:=Nat.mul_le_mul_right (2 ^ (32 - n)) b3
  rw [e1,Nat.mul_assoc] at this
  omega
 ·rw [←e1]
  exact Nat.mul_lt_mul_of_pos_right b1 hp
end Go.AM.S
end
