/- Part 5 of the proof: what it says stands at its theorems. -/
import Derived.Test.YtooliddjiiilfaaRlA4
import Derived.Test.YtooliddjiiilfaaRlA3
import Derived.KernelRfl
set_option linter.unusedVariables false
set_option linter.unusedSimpArgs false
set_option linter.unusedSectionVars false
section
namespace Go.AM.S
open Go Go.AM Go.Proofs NumL
open _root_.Go.AM.G (R)
set_option maxRecDepth 100000
theorem tbl86:tbl 86=some ⟨rc86,[.tmp 6]⟩:=by kernel_rfl
theorem fld26 (v:V) (l:List V):fld Pg 26 (.agg (v::l)) 0=some v:=by kernel_rfl
theorem m86_6_1 (c:CallF) (t' t:Tm) (l:Lo) (h:Hp) (j:V→Lo→Hp→R):gn Try.f86 86 6 1 c t' t l h j=go1 Try.f86 86 6 1 27 (gt t' 27) c t l h j:=gn_go1 (by kernel_rfl)
theorem c86_6_1 {r off len:Nat} {li:Option Nat} {L:List Nat} {h:Hp} (hlen:0<len) (hr:h.rows[r]? = some (.cells false (nl .u32 L))) (hb:off+len≤L.length) (c:CallF) (t:Tm) (l:Lo) (j:V→Lo→Hp→R) :
  go1 Try.f86 86 6 1 27 (.arr (.glob r) off len li 1 false) c t l h j=j (.tuple []) l (hset h r (.cells false (nl .u32 (put L off (List.replicate len 0))))) :=
 gen_clear (C:=Cg) (gl:=Cg.glob 86) (call:=c) (o:=opA Try.f86 6 1) (x:=27) (t:=24) (e:=86) (k:=.u32) (c:={ callee:=.builtin .clear,args:=#[.tmp 27],argTypes:=#[24] }) (by kernel_rfl) (by kernel_rfl) rfl rfl rfl (by kernel_rfl) (by kernel_rfl) (by kernel_rfl) (by rw [gt_pt,if_pos rfl]) hlen hr hb
theorem c86_7_2 {r off len:Nat} {li:Option Nat} {L ys:List Nat} {w:V} {h:Hp} {l:Lo} (hw:∀ tm,itemsOf ⟨tm,l,h⟩ w=some (nl .u32 ys)) (hys:ys.length≤len) (hr:h.rows[r]? = some (.cells false (nl .u32 L))) (hb:off+len≤L.length) (c:CallF) (t:Tm) (j:V→Lo→Hp→R) :
  go2 Try.f86 86 7 2 28 29 (.arr (.glob r) off len li 1 false) w c t l h j=j (.int .i64 (.ofNat ys.length)) l (hset h r (.cells false (nl .u32 (put L off ys)))) :=
 gen_copy (C:=Cg) (gl:=Cg.glob 86) (call:=c) (o:=opA Try.f86 7 2) (d:=30) (x:=28) (y:=29) (t:=24) (e:=86) (k:=.u32) (c:={ callee:=.builtin .copy,args:=#[.tmp 28,.tmp 29],argTypes:=#[24,24] }) (by kernel_rfl) (by kernel_rfl) rfl rfl rfl (by kernel_rfl) (by kernel_rfl) (by decide) (hw _) hys hr hb
theorem put_put {L a b:List Nat} {i:Nat} (h:b.length≤a.length) (hi:i+a.length≤L.length):put (put L i a) i b=put L i (b++a.drop b.length):=by
 have e1:(put L i a).take i=L.take i:=by
  unfold put
  rw [List.append_assoc,List.take_append_of_le_length (by simp;omega),List.take_take,Nat.min_self]
 have e2:(put L i a).drop (i+b.length)=a.drop b.length++L.drop (i+a.length):=by
  unfold put
  rw [List.append_assoc,List.drop_append,List.length_take,Nat.min_eq_left (by omega),List.drop_eq_nil_of_le (by simp;omega),List.nil_append,Nat.add_sub_cancel_left,List.drop_append,Nat.sub_eq_zero_of_le h]
  rfl
 have e3:(b++a.drop b.length).length=a.length:=by simp;omega
 show (put L i a).take i++b++(put L i a).drop (i+b.length)=L.take i++(b++a.drop b.length)++L.drop (i+(b++a.drop b.length).length)
 rw [e1,e2,e3]
 simp only [List.append_assoc]
theorem vl_pad (B:Nat) (a:List Nat) (n:Nat):vl B (a++List.replicate n 0)=vl B a:=by rw [vl_append,vl_rep0];simp
theorem len_le {B:Nat} (hB:0<B) {a b:List Nat} (da:Dg B a) (cb:Cn b) (h:vl B b≤vl B a):b.length≤a.length:=by
 rcases Nat.lt_or_ge a.length b.length with h1 | h1
 ·have:=vl_lt_len hB da cb h1;omega
 ·exact h1
theorem back_set {h h':Hp} {r:Nat} {row:Row} {l:List V} (hr:r<h.rows.length):(backHp h (hset h' r row) l).rows=(hset h' r row).rows:=by
 have hc:cleanB h (hset h' r row)=false:=by
  have hd:(hset h' r row).dirty=lower h'.dirty r:=rfl
  unfold cleanB
  rw [hd]
  cases h'.dirty with
  | none =>
   show Nat.ble h.rows.length r=false
   cases hb:Nat.ble h.rows.length r with
   | false=>rfl
   | true=>rw [Nat.ble_eq] at hb;omega
  | some x =>
   show Nat.ble h.rows.length (min x r)=false
   cases hb:Nat.ble h.rows.length (min x r) with
   | false=>rfl
   | true=>rw [Nat.ble_eq] at hb;omega
 unfold backHp
 rw [hc];rfl
theorem takes_runs {n r0 r1 i m q lb:Nat} {li lj:Option Nat} {L Lb:List Nat} {fb:Bool} {h:Hp} (hr0:h.rows[r0]? = some (.cells false (nl .u32 L))) (hr1:h.rows[r1]? = some (.cells fb (nl .u32 Lb))) (dL:Dg B L) (dLb:Dg B Lb) (hne:r0≠r1)
  (him:i+m≤L.length) (hm:0<m) (hlb:lb≤Lb.length) (hb:0<lb) (lL:L.length≤1000000) (lLb:Lb.length≤900000) (hq:q<4294967296) (hn:DG n h) (hn0:n≤r0) :
  ∃ ok h',Runs Pg kn0 tbl 86 [.arr (.glob r0) i m li 1 false,.arr (.glob r1) 0 lb lj 1 false,.int .u64 (.ofNat q)] h (.val (.bool ok) h')∧DG n h'∧h.rows.length≤h'.rows.length∧(∀ p,p<h.rows.length→p≠r0→h'.rows[p]? = h.rows[p]?) ∧
   (ok=false→vl B ((L.drop i).take m)<vl B (Lb.take lb)*q∧h'=h)∧(ok=true→∃ c,c.length=m∧Dg B c∧vl B c+vl B (Lb.take lb)*q=vl B ((L.drop i).take m)∧h'.rows[r0]? = some (.cells false (nl .u32 (put L i c)))):=by
 let Post:Out→Prop:=fun o=>∃ ok h',o=.val (.bool ok) h'∧DG n h'∧h.rows.length≤h'.rows.length∧(∀ p,p<h.rows.length→p≠r0→h'.rows[p]? = h.rows[p]?) ∧
   (ok=false→vl B ((L.drop i).take m)<vl B (Lb.take lb)*q∧h'=h)∧(ok=true→∃ c,c.length=m∧Dg B c∧vl B c+vl B (Lb.take lb)*q=vl B ((L.drop i).take m)∧h'.rows[r0]? = some (.cells false (nl .u32 (put L i c))))
 suffices hw:WW Pg kn0 tbl rc86 ⟨startTm [.arr (.glob r0) i m li 1 false,.arr (.glob r1) 0 lb lj 1 false,.int .u64 (.ofNat q)],.lf,⟨h.rows,none,h.mods⟩⟩ (fun s=>∃ o,fin Pg h [.tmp 6] s=some o∧Post o) (fun _ _=>False) (fun s=>∃ o,fin Pg h [.tmp 6] s=some o∧Post o) by
  obtain ⟨o,h1,ok,h',rfl,h2⟩:=runs_ex (kn:=kn0) (h:=h) rfl tbl86 hw
  exact ⟨ok,h',h1,h2⟩
 have hl0:r0<h.rows.length:=by
  rcases Nat.lt_or_ge r0 h.rows.length with h1 | h1
  ·exact h1
  ·rw [List.getElem?_eq_none h1] at hr0;simp at hr0
 unfold rc86
 refine sR ?_
 have hbl:(Lb.take lb).length=lb:=by rw [List.length_take,Nat.min_eq_left hlb]
 have hbne:Lb.take lb≠[]:=fun e=>by rw [e] at hbl;simp at hbl;omega
 have hcl1:=clone_runs (va:=.arr (.glob r1) 0 lb lj 1 false) ⟨h.rows,none,h.mods⟩ (by intro e;cases e) (.inr ⟨_,_,_,_,rfl⟩) hbne (by omega) (fun tm loc=>by
  have:=items_glob (tm:=tm) (loc:=loc) (h:=⟨h.rows,none,h.mods⟩) (li:=lj) hr1 (off:=0) (len:=lb) (by omega)
  rwa [List.drop_zero] at this)
 obtain ⟨v2,h2,d2,hg2,gr2,dd2,vl2,ll2,HG2,vn2,le2⟩:=grown_runs (n:=h.rows.length) (h:=hadd ⟨h.rows,none,h.mods⟩ (.cells false (nl .u32 (Lb.take lb)))) (v:=.arr (.glob h.rows.length) 0 (Lb.take lb).length none 1 false) q 0 (.inr ⟨hbne,_,rfl,hadd_at _ _⟩) (dLb.take lb) (by omega) hq (by decide) (fun x hx=>by cases hx) (fun r e=>by cases e;exact Nat.le_refl _) (by rw [hadd_len];exact Nat.le_succ _)
 rcases gr2 with ⟨e2,_⟩ | ⟨ne2,r2,rfl,hr2⟩
 ·exfalso;rw [e2] at le2;simp only [List.length_nil] at le2;omega
 obtain ⟨u3,h3,d3,hg3,⟨⟨s3,rfl,hs3⟩,dd3,cd3,_⟩,ht3,HG3,rl3⟩:=made_glob (n:=h.rows.length) hr2 dd2 (by omega) false HG2.dg (vn2 _ rfl)
 have hrl2:=HG2.len
 rw [hadd_len] at hrl2
 have hrl2':h.rows.length+1≤h2.rows.length:=hrl2
 have same3:∀ p,p<h.rows.length→h3.rows[p]? = h.rows[p]?:=by
  intro p hp
  have hp2:=vn2 _ rfl
  rw [HG3.same p (by omega) (by intro e;cases e;omega),HG2.same p (by rw [hadd_len];exact Nat.lt_succ_of_lt hp) (by intro e;cases e;omega)]
  exact hadd_lt ⟨h.rows,none,h.mods⟩ _ hp
 refine ww_seq (ww_call (hcl1.and (hg2.and hg3)) (fun n hn k=>by simp -implicitDefEqProofs (disch:=omega) only [go_sem,reduceIte,Nat.reduceEqDiff,gt_start,List.getD_cons_zero,List.getD_cons_succ,clc1 hn.1 (Ex1.glob _ _ _ _ _ _),clc3 hn.2.1 (Ex1.glob _ _ _ _ _ _) (Ex1.int _ _) (Ex1.int _ _),clc2 hn.2.2 (Ex1.glob _ _ _ _ _ _) (Ex1.bool _),fld26];rfl) ?_)
 have hpl:((L.drop i).take m).length=m:=by rw [List.length_take,List.length_drop,Nat.min_eq_left (by omega)]
 have hpne:(L.drop i).take m≠[]:=fun e=>by rw [e] at hpl;simp at hpl;omega
 have hr03:h3.rows[r0]? = some (.cells false (nl .u32 L)):=by rw [same3 _ hl0];exact hr0
 have hcl4:=clone_runs (va:=.arr (.glob r0) i m li 1 false) h3 (by intro e;cases e) (.inr ⟨_,_,_,_,rfl⟩) hpne (by omega) (fun tm loc=>items_glob (tm:=tm) (loc:=loc) (h:=⟨h3.rows,none,h3.mods⟩) (li:=li) hr03 (off:=i) (len:=m) him)
 have hrl3:h.rows.length≤h3.rows.length:=by omega
 obtain ⟨u5,h5,d5,hg5,⟨⟨s5,rfl,hs5⟩,dd5,cd5,_⟩,ht5,HG5,rl5⟩:=made_glob (n:=h.rows.length) (h:=hadd h3 (.cells false (nl .u32 ((L.drop i).take m)))) (hadd_at _ _) ((dL.drop i).take m) (by omega) false (HG3.dg.add _) hrl3
 have hrl5:h.rows.length≤h5.rows.length:=by rw [rl5,hadd_len];omega
 have same5:∀ p,p<h.rows.length→h5.rows[p]? = h.rows[p]?:=by
  intro p hp
  rw [HG5.same p (by rw [hadd_len];omega) (by intro e;cases e;omega),hadd_lt _ _ (by omega)]
  exact same3 p hp
 refine ww_seq (ww_call (hcl4.and hg5) (fun n hn k=>by simp -implicitDefEqProofs (disch:=omega) only [go_sem,reduceIte,Nat.reduceEqDiff,gt_start,List.getD_cons_zero,List.getD_cons_succ,clc1 hn.1 (Ex1.glob _ _ _ _ _ _),clc2 hn.2 (Ex1.glob _ _ _ _ _ _) (Ex1.bool _),fld26];rfl) ?_)
 have v3:vl B d3=vl B (Lb.take lb)*q:=by rw [ht3.vl,vl2,Nat.add_zero]
 have v5:vl B d5=vl B ((L.drop i).take m):=ht5.vl B
 have l3:=ht3.len
 have l5:=ht5.len
 obtain ⟨_,hcm,rfl⟩:=compare_spec hs3 hs5 dd3 dd5 cd3 cd5 (by omega) (by omega) h5
 rcases Nat.lt_or_ge (vl B d5) (vl B d3) with hlt | hge
 ·have hc:cmpI (vl B d3) (vl B d5)=.ofNat 1:=by unfold cmpI;rw [if_neg (by omega),if_pos hlt]
  rw [hc] at hcm
  refine ww_seq (ww_seq (ww_call (hcm) (fun n hn k=>by simp -implicitDefEqProofs (disch:=omega) only [go_sem,reduceIte,Nat.reduceEqDiff,clc2 hn hs3.ex hs5.ex,d_true];rfl) ?_))
  refine ww_true sS ?_
  refine sR ?_
  refine ww_ret ⟨_,fin_tmpD (v:=.bool false) sS (Ex1.bool _) HG5.dg rfl,false,h,rfl,hn,Nat.le_refl _,fun _ _ _=>rfl,fun _=>⟨by rw [←v3,←v5];exact hlt,rfl⟩,fun e=>by cases e⟩
 ·have hc:∃ z,cmpI (vl B d3) (vl B d5)=z∧bin Pg .gtr 3 true (.int .i64 z) (.int .i64 (.ofNat 0))=some (.bool false):=by
   unfold cmpI
   rcases Nat.lt_or_ge (vl B d3) (vl B d5) with h1 | h1
   ·exact ⟨_,rfl,by rw [if_pos h1];rfl⟩
   ·exact ⟨_,rfl,by rw [if_neg (by omega),if_neg (by omega)];rfl⟩
  obtain ⟨z,hz,hzb⟩:=hc
  rw [hz] at hcm
  refine ww_seq (ww_seq (ww_call (hcm) (fun n hn k=>by simp -implicitDefEqProofs (disch:=omega) only [go_sem,reduceIte,Nat.reduceEqDiff,clc2 hn hs3.ex hs5.ex,hzb];rfl) ?_))
  refine ww_false sS (ww_skip ?_)
  have hll:d3.length≤d5.length:=len_le (by decide) dd5 cd3 hge
  obtain ⟨w6,hmi,c,hsc,dc,vc,lc⟩:=minus_spec hs5 hs3 dd5 dd3 (by omega) hll hge h5
  refine ww_seq (ww_call (hmi) (fun n hn k=>by simp -implicitDefEqProofs (disch:=omega) only [go_sem,reduceIte,Nat.reduceEqDiff,clc2 hn hs5.ex hs3.ex];rfl) ?_)
  have hr05:h5.rows[r0]? = some (.cells false (nl .u32 L)):=by rw [same5 _ hl0];exact hr0
  refine ww_seq (ww_reg (fun n k=>by simp -implicitDefEqProofs (disch:=omega) only [go_sem,reduceIte,Nat.reduceEqDiff,gt_start,List.getD_cons_zero,List.getD_cons_succ,m86_6_1,c86_6_1 hm hr05 him];rfl) ?_)
  have hr06:=hset_at h5 (row:=.cells false (nl .u32 (put L i (List.replicate m 0)))) hr05
  have hpz:(put L i (List.replicate m 0)).length=L.length:=put_length (by simpa using him)
  refine ww_seq (ww_reg (fun n k=>by simp -implicitDefEqProofs (disch:=omega) only [go_sem,reduceIte,Nat.reduceEqDiff,gt_start,List.getD_cons_zero,List.getD_cons_succ,c86_7_2 (fun tm=>items_sl hsc _) (show c.length≤m by omega) hr06 (by rw [hpz];exact him)];rfl) ?_)
  refine sR ?_
  have hrow:=hset_at (hset h5 r0 (.cells false (nl .u32 (put L i (List.replicate m 0))))) (row:=.cells false (nl .u32 (put (put L i (List.replicate m 0)) i c))) hr06
  have hpp:put (put L i (List.replicate m 0)) i c=put L i (c++List.replicate (m - c.length) 0):=by rw [put_put (by simp;omega) (by simpa using him),List.drop_replicate]
  have hd6:DG n (hset (hset h5 r0 (.cells false (nl .u32 (put L i (List.replicate m 0))))) r0 (.cells false (nl .u32 (put (put L i (List.replicate m 0)) i c)))):=(DG.set (n:=n) (fun x hx=>Nat.le_trans (by omega) (HG5.dg x hx)) hn0 _).set hn0 _
  refine ww_ret ⟨.val (.bool true) (backHp h (hset (hset h5 r0 (.cells false (nl .u32 (put L i (List.replicate m 0))))) r0 (.cells false (nl .u32 (put (put L i (List.replicate m 0)) i c)))) [.bool true]),?_,true,_,rfl,hn.back hd6 _,?_⟩
  ·unfold fin
   simp only [resV,rho_gt,Option.map_some]
   rw [show ∀ t w,gt (pt t 6 w) 6=w from fun t w=>sS]
   rfl
  rw [back_set hl0]
  refine ⟨by rw [hset_len,hset_len];exact hrl5,fun p hp hne=>by rw [hset_ne _ hne,hset_ne _ hne];exact same5 p hp,(fun e=>by cases e),fun _=>⟨c++List.replicate (m - c.length) 0,by simp;omega,?_,by rw [vl_pad,←v3,←v5];exact vc,by rw [hrow,hpp]⟩⟩
  intro x hx
  rcases List.mem_append.1 hx with h1 | h1
  ·exact dc x h1
  ·rw [List.eq_of_mem_replicate h1];decide
end Go.AM.S
end
section
namespace Go.AM.S
open Go Go.AM Go.Proofs NumL
open _root_.Go.AM.G (R)
set_option maxRecDepth 100000
section
variable {C:Cfg} {P:Program} {call:CallF} {gl:Nat→Bool} {o:Oper} {t' tm:Tm} {loc:Lo} {hp:Hp}
theorem genD_cv {d x:Nat} {s t:TypeId} {ks kd k:IntKind} {n:Int} {J:JD} {X:XD} (hd:o.dst=some d) (ho:o.op=.convert s t (.tmp x)) (h1:P.underlying s=some (.int ks)) (h2:P.underlying t=some (.int kd)) (hv:gt t' x=.int k n) :
  genD P C call gl o t' loc hp J X=J (.int kd (F.wrapI kd n)) ⟨[],[],false,false,false,false⟩ loc hp:=by
 have hp1:locV P C gl (⟨t',loc,hp⟩:St).ρ (⟨t',loc,hp⟩:St).lc o=some (.int kd (F.wrapI kd n),none):=by
  unfold locV
  simp only [ho,pureV,opd_gt,hv,convV,h1,h2,F.wrapI_eq,Option.map_some]
 have hf:footV P C gl (⟨t',loc,hp⟩:St).ρ (⟨t',loc,hp⟩:St).lc o=some ⟨[],[],false,false,false,false⟩:=by
  unfold footV
  rw [hp1]
  simp only [ho]
 have hs:stepV P C gl ⟨t',loc,hp⟩ o=some (.val (.int kd (F.wrapI kd n)) ⟨t',loc,hp⟩):=by
  unfold stepV
  rw [hp1];rfl
 unfold genD
 rw [F.e_footV,F.e_oneV,F.e_rho,F.e_lcf,hf]
 show G.onSome (oneV P C call gl ⟨t',loc,hp⟩ o) _ none=_
 unfold oneV
 rw [hs]
 have e1:F.settle hp hp ⟨[],[],false,false,false,false⟩ = ⟨[],[],false,false,false,false⟩:=by
  unfold F.settle
  rw [Nat.beq_refl,Nat.beq_refl];rfl
 simp only [putV,hd]
 show J (gt (aset t' d (V.int kd (F.wrapI kd n))) d) (F.settle hp hp ⟨[],[],false,false,false,false⟩) loc hp=_
 rw [gt_eq,aget_aset,if_pos rfl,e1]
end
theorem dv78_7 (k:IntKind) (n:Int) (c:CallF) (t:Tm) (l:Lo) (h:Hp) (J:JD) (X:XD):gD Try.f78 78 18 7 c (pt t 97 (.int k n)) l h J X=J (.int .u64 (F.wrapI .u64 n)) ⟨[],[],false,false,false,false⟩ l h :=
 genD_cv (C:=Cg) (gl:=Cg.glob 78) (call:=c) (o:=opA Try.f78 18 7) (d:=98) (x:=97) (s:=86) (t:=80) (by kernel_rfl) (by kernel_rfl) U86 U80 (by rw [gt_pt,if_pos rfl])
theorem dv78_15 (k:IntKind) (n:Int) (c:CallF) (t:Tm) (l:Lo) (h:Hp) (J:JD) (X:XD):gD Try.f78 78 18 15 c (pt t 105 (.int k n)) l h J X=J (.int .u64 (F.wrapI .u64 n)) ⟨[],[],false,false,false,false⟩ l h :=
 genD_cv (C:=Cg) (gl:=Cg.glob 78) (call:=c) (o:=opA Try.f78 18 15) (d:=106) (x:=105) (s:=86) (t:=80) (by kernel_rfl) (by kernel_rfl) U86 U80 (by rw [gt_pt,if_pos rfl])
structure Norm (b:List Nat) (up:Nat) (Lb:List Nat):Prop where
 len:Lb.length=b.length+1
 dg:Dg B Lb
 v:vl B (Lb.take b.length)=vl B b*2 ^ up
 top:0<Lb.getD (b.length - 1) 0
 lead:Lb.getD (b.length - 1) 0*B ^ (b.length - 1)≤vl B b*2 ^ up
 high:2147483648*B ^ (b.length - 1)≤vl B b*2 ^ up
theorem norm_of {b Lb:List Nat} {up:Nat} (hb:b≠[]) (db:Dg B b) (hu:up<32) (h1:2147483648≤b.getD (b.length - 1) 0*2 ^ up) (h2:b.getD (b.length - 1) 0*2 ^ up<4294967296)
  (hl:Lb.length=b.length+1) (dL:Dg B Lb) (hv:vl B Lb=vl B b*2 ^ up):Norm b up Lb:=by
 have hp:0<b.length:=List.length_pos_iff.2 hb
 have hB:0<B:=by decide
 have hu0:=Nat.two_pow_pos up
 have eb:=vl_at B b (b.length - 1) (by omega)
 rw [List.drop_eq_nil_of_le (show b.length≤b.length - 1+1 by omega)] at eb
 simp only [vl,Nat.mul_zero,Nat.add_zero] at eb
 have t1:vl B (b.take (b.length - 1))<B ^ (b.length - 1):=vl_lt_of hB (db.take _) (by simp)
 have hpow:B ^ b.length=B ^ (b.length - 1)*B:=by rw [←Nat.pow_succ];congr 1;omega
 generalize hx:b.getD (b.length - 1) 0=x at *
 generalize hP:B ^ (b.length - 1)=p at *
 have hx1:(x+1)*2 ^ up≤4294967296:=by
  have e5:(4294967296:Nat)=2 ^ (32 - up)*2 ^ up:=by rw [←Nat.pow_add,Nat.sub_add_cancel (by omega)]
  rw [e5] at h2 ⊢
  exact Nat.mul_le_mul_right _ (Nat.lt_of_mul_lt_mul_right h2)
 have hlt:vl B b*2 ^ up<B ^ b.length:=by
  rw [hpow]
  have h3:vl B b<p*(x+1):=by rw [eb,Nat.mul_add,Nat.mul_one];omega
  have h4:vl B b*2 ^ up<p*(x+1)*2 ^ up:=Nat.mul_lt_mul_of_pos_right h3 hu0
  rw [Nat.mul_assoc] at h4
  exact Nat.lt_of_lt_of_le h4 (Nat.mul_le_mul_left _ hx1)
 have hvt:vl B (Lb.take b.length)=vl B b*2 ^ up:=by
  rw [←vl_mod B hB Lb dL,hv,Nat.mod_eq_of_lt hlt]
 have hhigh:2147483648*p≤vl B b*2 ^ up:=by
  have h3:p*x≤vl B b:=by rw [eb];omega
  have h4:p*x*2 ^ up≤vl B b*2 ^ up:=Nat.mul_le_mul_right _ h3
  have h5:p*2147483648≤p*(x*2 ^ up):=Nat.mul_le_mul_left _ h1
  rw [Nat.mul_assoc] at h4
  rw [Nat.mul_comm]
  omega
 have el:=vl_at B (Lb.take b.length) (b.length - 1) (by simp;omega)
 have et:(Lb.take b.length).getD (b.length - 1) 0=Lb.getD (b.length - 1) 0:=getD_take _ _ _ (by omega)
 rw [List.drop_eq_nil_of_le (show (Lb.take b.length).length≤b.length - 1+1 by simp;omega),et,hvt,hP] at el
 simp only [vl,Nat.mul_zero,Nat.add_zero] at el
 have t2:vl B ((Lb.take b.length).take (b.length - 1))<p:=by rw [←hP];exact vl_lt_of hB ((dL.take _).take _) (by simp;omega)
 have hp0:0<p:=by rw [←hP];exact Nat.pow_pos hB
 refine ⟨hl,dL,hvt,?_,?_,by rw [hP];exact hhigh⟩
 ·rcases Nat.eq_zero_or_pos (Lb.getD (b.length - 1) 0) with e | e
  ·rw [e,Nat.mul_zero,Nat.add_zero] at el;omega
  ·exact e
 ·rw [hP,el,Nat.mul_comm];omega
theorem guess_ok {rv bv bt two p:Nat} (hbt:0<bt) (hp:rv<(two+1)*p) (hl:bt*p≤bv) (hB:rv<bv*B):rv<bv*(min (two / bt) 4294967295+1):=by
 rcases Nat.lt_or_ge (two / bt) 4294967295 with h | h
 ·rw [Nat.min_eq_left (by omega)]
  have h1:two+1≤bt*(two / bt+1):=by
   have:=Nat.lt_mul_div_succ two hbt
   omega
  calc rv<(two+1)*p:=hp
   _≤bt*(two / bt+1)*p:=Nat.mul_le_mul_right _ h1
   _=bt*p*(two / bt+1):=by rw [Nat.mul_assoc,Nat.mul_comm (two / bt+1),←Nat.mul_assoc]
   _≤bv*(two / bt+1):=Nat.mul_le_mul_right _ hl
 ·rw [Nat.min_eq_right h];exact hB
structure Div (a' bv lb la i:Nat) (L O:List Nat):Prop where
 len:L.length=la+1
 olen:O.length=la
 dg:Dg B L
 odg:Dg B O
 eq:vl B L+bv*vl B O=a'
 low:vl B (L.drop i)<bv
 zero:∀ j,j<i→O.getD j 0=0
theorem div_start {a L:List Nat} {up lb bv:Nat} (da:Dg B a) (hl:L.length=a.length+1) (dL:Dg B L) (hv:vl B L=vl B a*2 ^ up) (hu:up<32) (hlb:0<lb) (hla:lb≤a.length) (hh:2147483648*B ^ (lb - 1)≤bv) :
  Div (vl B a*2 ^ up) bv lb a.length (a.length - lb+1) L (List.replicate a.length 0):=by
 refine ⟨hl,by simp,dL,dg_rep0 _,by rw [vl_rep0,hv];simp,?_,fun j _=>getD_rep0 _ j⟩
 have hB:0<B:=by decide
 rw [←vl_div B hB L dL,hv,Nat.div_lt_iff_lt_mul (Nat.pow_pos hB)]
 have h1:vl B a<B ^ a.length:=vl_lt_of hB da (Nat.le_refl _)
 have h2:(2:Nat) ^ up≤2147483648:=Nat.pow_le_pow_right (n:=2) (by decide) (show up≤31 by omega)
 have h3:B ^ a.length=B ^ (lb - 1)*B ^ (a.length - lb+1):=by rw [←Nat.pow_add];congr 1;omega
 calc vl B a*2 ^ up<B ^ a.length*2 ^ up:=Nat.mul_lt_mul_of_pos_right h1 (Nat.two_pow_pos up)
  _≤B ^ a.length*2147483648:=Nat.mul_le_mul_left _ h2
  _=2147483648*B ^ (lb - 1)*B ^ (a.length - lb+1):=by rw [h3,Nat.mul_comm,Nat.mul_assoc]
  _≤bv*B ^ (a.length - lb+1):=Nat.mul_le_mul_right _ hh
theorem Div.rest {a' bv lb la i:Nat} {L O:List Nat} (D:Div a' bv lb la (i+1) L O) (hb:bv<B ^ lb) (hi:i+lb≤la):vl B (L.drop (i+lb+1))=0:=by
 have h1:=D.low
 have h2:=vl_split B (L.drop (i+1)) lb
 have hl:=D.len
 rw [Nat.min_eq_left (show lb≤(L.drop (i+1)).length by simp;omega),List.drop_drop,show i+1+lb=i+lb+1 by omega] at h2
 rcases Nat.eq_zero_or_pos (vl B (L.drop (i+lb+1))) with e | e
 ·exact e
 ·exfalso
  have:B ^ lb*1≤B ^ lb*vl B (L.drop (i+lb+1)):=Nat.mul_le_mul_left _ e
  omega
theorem Div.part {a' bv lb la i:Nat} {L O:List Nat} (D:Div a' bv lb la (i+1) L O) (hb:bv<B ^ lb) (hi:i+lb≤la):vl B ((L.drop i).take (lb+1))=vl B (L.drop i):=by
 have h2:=vl_split B (L.drop i) (lb+1)
 rw [List.drop_drop,show i+(lb+1)=i+lb+1 by omega,D.rest hb hi] at h2
 omega
theorem Div.lt {a' bv lb la i:Nat} {L O:List Nat} (D:Div a' bv lb la (i+1) L O) (hi:i+lb≤la):vl B (L.drop i)<bv*B:=by
 have hl:=D.len
 rw [vl_drop_cons B L i (by omega)]
 have h1:=D.low
 have h2:L.getD i 0<B:=D.dg.get (by decide) i
 have h3:B*(vl B (L.drop (i+1))+1)≤B*bv:=Nat.mul_le_mul_left _ h1
 rw [Nat.mul_add,Nat.mul_one] at h3
 rw [Nat.mul_comm bv]
 omega
theorem Div.two {a' bv lb la i:Nat} {L O:List Nat} (D:Div a' bv lb la (i+1) L O) (hb:bv<B ^ lb) (hi:i+lb≤la) (hlb:0<lb):vl B (L.drop i)<(L.getD (i+lb) 0*4294967296+L.getD (i+(lb - 1)) 0+1)*B ^ (lb - 1):=by
 have hl:=D.len
 have h2:=vl_split B (L.drop i) (lb - 1)
 rw [Nat.min_eq_left (show lb - 1≤(L.drop i).length by simp;omega),List.drop_drop,vl_drop_cons B L (i+(lb - 1)) (by omega),show i+(lb - 1)+1=i+lb by omega,vl_drop_cons B L (i+lb) (by omega),D.rest hb hi,Nat.mul_zero,Nat.add_zero] at h2
 have h3:vl B ((L.drop i).take (lb - 1))<B ^ (lb - 1):=vl_lt_of (by decide) ((D.dg.drop i).take _) (by simp;omega)
 rw [h2,Nat.mul_comm _ (B ^ (lb - 1)),Nat.mul_add (B ^ (lb - 1)) _ 1,Nat.mul_one,show L.getD (i+lb) 0*4294967296+L.getD (i+(lb - 1)) 0=L.getD (i+(lb - 1)) 0+B*L.getD (i+lb) 0 by rw [Nat.mul_comm,Nat.add_comm]]
 omega
theorem Div.next {a' bv lb la i q:Nat} {L O c:List Nat} (D:Div a' bv lb la (i+1) L O) (hb:bv<B ^ lb) (hi:i+lb≤la) (hlb:0<lb) (hc:c.length=lb+1) (dc:Dg B c) (hv:vl B c+bv*q=vl B (L.drop i)) (hlt:vl B c<bv) (hq:q<B) :
  Div a' bv lb la i (put L i c) (O.set i q):=by
 have hl:=D.len
 have ho:=D.olen
 have e1:vl B ((put L i c).drop i)=vl B c:=by
  unfold put
  rw [List.append_assoc,List.drop_append,List.length_take,Nat.min_eq_left (by omega),List.drop_eq_nil_of_le (by simp;omega),List.nil_append,Nat.sub_self,List.drop_zero,vl_append,hc,show i+(lb+1)=i+lb+1 by omega,D.rest hb hi,Nat.mul_zero,Nat.add_zero]
 have e2:(put L i c).take i=L.take i:=by
  unfold put
  rw [List.append_assoc,List.take_append_of_le_length (by simp;omega),List.take_take,Nat.min_self]
 have hpl:(put L i c).length=L.length:=put_length (by omega)
 refine ⟨hpl.trans hl,by simp [ho],?_,D.odg.set _ hq,?_,by rw [e1];exact hlt,fun j hj=>by rw [getD_set_ne _ _ _ _ (by omega)];exact D.zero j (by omega)⟩
 ·intro x hx
  unfold put at hx
  rcases List.mem_append.1 hx with h1 | h1
  ·rcases List.mem_append.1 h1 with h2 | h2
   ·exact D.dg.take i x h2
   ·exact dc x h2
  ·exact D.dg.drop _ x h1
 ·have s1:=vl_split B (put L i c) i
  have s2:=vl_split B L i
  rw [e1,e2,hpl] at s1
  rw [Nat.min_eq_left (by omega)] at s1 s2
  have s3:=vl_set B O i q (by omega)
  rw [D.zero i (by omega),Nat.mul_zero,Nat.add_zero] at s3
  have s4:=D.eq
  rw [s1,s3,Nat.mul_add]
  rw [s2,←hv] at s4
  rw [Nat.mul_add] at s4
  have s5:bv*(B ^ i*q)=B ^ i*(bv*q):=by rw [←Nat.mul_assoc,←Nat.mul_assoc,Nat.mul_comm bv]
  omega
theorem div_end {va vb up lb la:Nat} {L O:List Nat} (D:Div (va*2 ^ up) (vb*2 ^ up) lb la 0 L O):vl B O*vb+vl B L / 2 ^ up=va∧vl B L / 2 ^ up<vb:=by
 have h1:=D.eq
 have h2:=D.low
 have hp:=Nat.two_pow_pos up
 rw [List.drop_zero] at h2
 have h3:vl B L / 2 ^ up<vb:=by rw [Nat.div_lt_iff_lt_mul hp];exact h2
 refine ⟨?_,h3⟩
 have h4:vl B L / 2 ^ up+vb*vl B O=va:=by
  have e:vl B L+vb*vl B O*2 ^ up=va*2 ^ up:=by rw [←h1,Nat.mul_assoc vb,Nat.mul_comm (vl B O),←Nat.mul_assoc]
  have e2:(vl B L+vb*vl B O*2 ^ up) / 2 ^ up=va:=by rw [e,Nat.mul_div_cancel _ hp]
  rwa [Nat.add_mul_div_right _ _ hp] at e2
 rw [Nat.mul_comm];omega
end Go.AM.S
end
section
namespace Go.AM.S
open Go Go.AM Go.Proofs NumL
open _root_.Go.AM.G (R)
set_option maxRecDepth 100000
theorem tbl78:tbl 78=some ⟨rc78,[.tmp 4,.tmp 5]⟩:=by kernel_rfl
theorem fin_arr_two {h:Hp} {a b d g n:Nat} {li:Option Nat} {k:IntKind} {l:List Nat} {s:St} {w:V} (hv:gt s.tm a=.arr (.loc d g) 0 n li 1 false) (hn:n=l.length) (hr:lg s.loc d=(g,.cells false (nl k l))) (hw:gt s.tm b=w) (pw:Ex1 w) (rw':w.noRefs=true) (hd:DG h.rows.length s.hp) :
  fin Pg h [.tmp a,.tmp b] s=some (.val (.tuple [.slice none false 1 (nl k l),w]) h):=by
 subst hn
 unfold fin
 have e1:resV Pg s [.tmp a,.tmp b]=some [.arr (.loc d g) 0 l.length li 1 false,w]:=by simp only [resV,rho_gt,hv,hw,Option.map_some]
 rw [e1]
 have e2:exps false s [.arr (.loc d g) 0 l.length li 1 false,w]=some ([.slice none false 1 (nl k l),w],⟨s.tm,lp s.loc d (g,.cells true (nl k l)),s.hp⟩):=by
  rw [show ∀ (st:St) (v:V) (r:List V),exps false st (v::r)=(match exp false st v with
   | none=>none
   | some (v',st')=>match exps false st' r with
    | none=>none
    | some (l',st'')=>some (v'::l',st'')) from fun _ _ _=>rfl]
  have hx:=exp_arr (tm:=s.tm) (hp:=s.hp) (li:=li) hr
  have hx':exp false s (.arr (.loc d g) 0 l.length li 1 false)=some (.slice none false 1 (nl k l),⟨s.tm,lp s.loc d (g,.cells true (nl k l)),s.hp⟩):=hx
  rw [hx']
  simp only [exps_ex [w] _ ⟨pw,trivial⟩]
 simp only [e2]
 show some (Out.val (.tuple [.slice none false 1 (nl k l),w]) (backHp h s.hp [.slice none false 1 (nl k l),w]))=_
 unfold backHp
 rw [clean_dg hd]
 simp only [V.noRefsL,V.noRefs,rw',Bool.and_self,cond_true,Option.isNone_none]
theorem short_bound {n x b:Nat} (hn:n<b) (hb:b≤4294967296) (hx:x<4294967296):(n*4294967296+x) / b<4294967296:=by
 rw [Nat.div_lt_iff_lt_mul (by omega)]
 have:=Nat.mul_le_mul_right 4294967296 (show n+1≤b by omega)
 rw [Nat.mul_comm 4294967296]
 omega
structure I78 (va:V) (a b Lb:List Nat) (up N:Nat) (s:St) (m:Nat) (L O:List Nat):Prop where
 h0:gt s.tm 0=va
 h1:gt s.tm 1=.arr (.glob N) 0 b.length (some (b.length+1)) 1 false
 h9:gt s.tm 9=.int .u64 (.ofNat up)
 h10:gt s.tm 10=.arr (.glob (N+1)) 0 (a.length+1) (some (a.length+1)) 1 false
 h11:gt s.tm 11=.arr (.loc 78 1) 0 a.length (some a.length) 1 false
 h12:gt s.tm 12=.int .i64 (.ofNat (b.length - 1))
 row:lg s.loc 78=(1,.cells false (nl .u32 O))
 rb:s.hp.rows[N]? = some (.cells false (nl .u32 Lb))
 rl:s.hp.rows[N+1]? = some (.cells false (nl .u32 L))
 dg:DG N s.hp
 D:Div (vl B a*2 ^ up) (vl B b*2 ^ up) b.length a.length m L O
def Quot (a b:List Nat) (r:V):Prop:=∃ s t d e,r=.tuple [s,t]∧Sl .u32 s d∧Sl .u32 t e∧Dg B d∧Dg B e∧Cn e∧vl B d*vl B b+vl B e=vl B a∧vl B e<vl B b∧d.length=a.length
theorem divided_spec {va vb:V} {a b:List Nat} (ha:Sl .u32 va a) (hb:Sl .u32 vb b) (da:Dg B a) (db:Dg B b) (cb:Cn b) (hne:b≠[]) (hle:b.length≤a.length) (la:a.length≤400000):Gives 78 [va,vb] (Quot a b):=by
 have hb0:0<b.length:=List.length_pos_iff.2 hne
 have htop:b.getD (b.length - 1) 0≠0:=cb _ (by omega)
 refine gives_of tbl78 fun h Q hQ=>?_
 unfold rc78
 refine sR ?_
 by_cases h1:b.length=1
 ·have hbb:b=[b.getD 0 0]:=by
   obtain ⟨x,rfl⟩:=List.length_eq_one_iff.1 h1
   rfl
  have hvb:vl B b=b.getD 0 0:=by rw [hbb,vl_one];rfl
  have hx0:b.getD 0 0≠0:=by rw [h1] at htop;exact htop
  have hxB:b.getD 0 0<4294967296:=db.get (by decide) 0
  refine ww_seq (ww_seq (ww_reg (fun n k=>by simp -implicitDefEqProofs (disch:=omega) only [go_sem,reduceIte,Nat.reduceEqDiff,gt_start,List.getD_cons_zero,List.getD_cons_succ,len_sl hb,h1,d_true];rfl) ?_))
  refine ww_true sS ?_
  refine ww_seq (ww_reg (fun n k=>by simp -implicitDefEqProofs (disch:=omega) only [go_sem,reduceIte,Nat.reduceEqDiff,gt_start,List.getD_cons_zero,List.getD_cons_succ,len_sl ha];rfl) ?_)
  refine ww_seq (ww_seq (ww_reg (fun n k=>by simp -implicitDefEqProofs (disch:=omega) only [go_sem,reduceIte,Nat.reduceEqDiff,gt_start,List.getD_cons_zero,List.getD_cons_succ,len_sl ha,i_dec];rfl) ?_))
  refine ww_for (fun m s=>∃ z O,m≤a.length∧gt s.tm 8=.int .i64 (dn m)∧gt s.tm 7=.int .u64 (.ofNat z)∧z<b.getD 0 0∧gt s.tm 0=va∧gt s.tm 1=vb∧gt s.tm 6=.arr (.loc 21 1) 0 a.length (some a.length) 1 false∧lg s.loc 21=(1,.cells false (nl .u32 O))∧O.length=a.length∧Dg B O∧vl B (a.drop m)=b.getD 0 0*vl B (O.drop m)+z∧s.hp=⟨h.rows,none,h.mods⟩) a.length ⟨0,List.replicate a.length 0,Nat.le_refl _,sS,sS,by omega,sSG,sSG,sS,sS,by simp,dg_rep0 _,by rw [List.drop_length,List.drop_eq_nil_of_le (by simp)];rfl,rfl⟩ ?_
  intro m s ⟨z,O,hm,h8,h7,hz,g0,g1,h6,hrow,hO,dO,hv,hhp⟩
  cases m with
  | zero =>
   refine ww_seq (ww_seq (ww_reg (fun n k=>by simp -implicitDefEqProofs (disch:=omega) only [go_sem,reduceIte,Nat.reduceEqDiff,h8,dn];rfl) ?_))
   refine ww_false sS (ww_exit ?_)
   rw [if_pos rfl]
   obtain ⟨r,hr,e,⟨⟨s2,rfl,hs2⟩,de,ce,he0⟩,ht⟩:=made_spec (va:=.slice none false 1 (nl .u32 [z])) (a:=[z]) (.inl ⟨false,rfl⟩) (fun x hx=>by rw [List.mem_singleton.1 hx];exact Nat.lt_trans hz hxB) (by simp) false ⟨h.rows,none,h.mods⟩
   have hl56:lg (lp s.loc 56 ((lg s.loc 56).1+1,.cells false (nl .u32 [z]))) 56=((lg s.loc 56).1+1,.cells false (nl .u32 [z])):=by rw [lg_lp,if_pos rfl]
   refine ww_seq (ww_call (hr) (fun n hn k=>by simp -implicitDefEqProofs (disch:=omega) only [go_sem,reduceIte,Nat.reduceEqDiff,h7,h6,hhp,cl_arr2 (show 1=[z].length from rfl) hl56 hn (Ex1.bool _),fld26];rfl) ?_)
   refine ww_ret (hQ _ _ (fin_arr_two (d:=21) (li:=some a.length) (g:=1) (k:=.u32) (l:=O) sS hO.symm (sS1 hrow) sS hs2.ex hs2.noRefs (fun x hx=>by cases hx)) ⟨_,_,O,e,rfl,.inl ⟨false,rfl⟩,hs2,dO,de,ce,?_,?_,hO⟩)
   ·rw [ht.vl,vl_one,hvb,Nat.mul_comm]
    simpa using hv.symm
   ·rw [ht.vl,vl_one,hvb];exact hz
  | succ i =>
   have h8':gt s.tm 8=.int .i64 (.ofNat i):=h8
   have hx:a.getD i 0<4294967296:=da.get (by decide) i
   have hq:=short_bound hz (Nat.le_of_lt hxB) hx
   refine ww_seq (ww_seq (ww_reg (fun n k=>by simp -implicitDefEqProofs (disch:=omega) only [go_sem,reduceIte,Nat.reduceEqDiff,h8',d_true];rfl) ?_))
   refine ww_true sS (ww_skip ?_)
   refine ww_seq (ww_block ?_)
   refine ww_seq (ww_reg (fun n k=>by simp -implicitDefEqProofs (disch:=omega) only [go_sem,reduceIte,Nat.reduceEqDiff,h7,g0,h8',ia24 ha,Nat.reducePow,or_shl];rfl) ?_)
   refine ww_seq (ww_reg (fun n k=>by simp -implicitDefEqProofs (disch:=omega) only [go_sem,reduceIte,Nat.reduceEqDiff,g1,ia24 hb,h6,h8',hrow];rfl) ?_)
   refine ww_reg (fun n k=>by simp -implicitDefEqProofs (disch:=omega) only [go_sem,reduceIte,Nat.reduceEqDiff,g1,ia24 hb];rfl) ?_
   refine ww_reg (fun n k=>by simp -implicitDefEqProofs (disch:=omega) only [go_sem,reduceIte,Nat.reduceEqDiff,h8',i_dec];rfl) ?_
   refine ⟨i,by omega,(z*4294967296+a.getD i 0) % b.getD 0 0,O.set i ((z*4294967296+a.getD i 0) / b.getD 0 0),by omega,sS,sS,Nat.mod_lt _ (by omega),(sS1 g0),(sS1 g1),(sS1 h6),sS,by simpa using hO,dO.set _ hq,?_,hhp⟩
   rw [vl_drop_cons B a i (by omega),vl_drop_cons B _ i (by rw [List.length_set];omega),hv,getD_set_eq _ _ _ (by omega),drop_set_ge]
   have:=Nat.div_add_mod (z*4294967296+a.getD i 0) (b.getD 0 0)
   rw [Nat.mul_add,Nat.mul_add]
   have e1:B*(b.getD 0 0*vl B (O.drop (i+1)))=b.getD 0 0*(B*vl B (O.drop (i+1))):=by rw [←Nat.mul_assoc,←Nat.mul_assoc,Nat.mul_comm B]
   have e2:B*z=z*4294967296:=Nat.mul_comm _ _
   omega
 ·have hxB:b.getD (b.length - 1) 0<4294967296:=db.get (by decide) _
  obtain ⟨_,hlz,up,rfl,hup,hlo,hhi⟩:=lz32_spec hxB (Nat.pos_of_ne_zero htop) ⟨h.rows,none,h.mods⟩
  refine ww_seq (ww_seq (ww_reg (fun n k=>by simp -implicitDefEqProofs (disch:=omega) only [go_sem,reduceIte,Nat.reduceEqDiff,gt_start,List.getD_cons_zero,List.getD_cons_succ,len_sl hb,d_false];rfl) ?_))
  refine ww_false sS (ww_skip ?_)
  refine ww_seq (ww_call (hlz) (fun n hn k=>by simp -implicitDefEqProofs (disch:=omega) only [go_sem,reduceIte,Nat.reduceEqDiff,gt_start,List.getD_cons_zero,List.getD_cons_succ,len_sl hb,ia24 hb,clc1 hn (Ex1.int _ _),wrap_u64];rfl) ?_)
  obtain ⟨k1,Lb,hs1,lLb,dLb,vLb,rl1,rr1,rs1,rd1⟩:=shifted_runs hb db (by omega) (show up≤32 by omega) ⟨h.rows,none,h.mods⟩
  have hN:=norm_of hne db hup hlo hhi lLb dLb vLb
  refine ww_seq (ww_call (hs1) (fun n hn k=>by simp -implicitDefEqProofs (disch:=omega) only [go_sem,reduceIte,Nat.reduceEqDiff,gt_start,List.getD_cons_zero,List.getD_cons_succ,len_sl hb,clc2 hn hb.ex (Ex1.int _ _),slc_pre E24 L86];rfl) ?_)
  obtain ⟨k2,L0,hs2,lL0,dL0,vL0,rl2,rr2,rs2,rd2⟩:=shifted_runs ha da (by omega) (show up≤32 by omega) k1
  refine ww_seq (ww_call (hs2) (fun n hn k=>by simp -implicitDefEqProofs (disch:=omega) only [go_sem,reduceIte,Nat.reduceEqDiff,gt_start,List.getD_cons_zero,List.getD_cons_succ,clc2 hn ha.ex (Ex1.int _ _)];rfl) ?_)
  refine ww_seq (ww_reg (fun n k=>by simp -implicitDefEqProofs (disch:=omega) only [go_sem,reduceIte,Nat.reduceEqDiff,gt_start,List.getD_cons_zero,List.getD_cons_succ,len_sl ha];rfl) ?_)
  refine ww_seq (ww_reg (fun n k=>by simp -implicitDefEqProofs (disch:=omega) only [go_sem,reduceIte,Nat.reduceEqDiff,gt_start,List.getD_cons_zero,List.getD_cons_succ,len_arr];rfl) ?_)
  refine ww_seq (ww_seq (ww_reg (fun n k=>by simp -implicitDefEqProofs (disch:=omega) only [go_sem,reduceIte,Nat.reduceEqDiff,gt_start,List.getD_cons_zero,List.getD_cons_succ,len_sl ha,len_arr];rfl) ?_))
  rw [rl1] at rl2 rr2 rs2
  have rl1':k1.rows.length=h.rows.length+1:=rl1
  have hlB:vl B b*2 ^ up<B ^ b.length:=by rw [←hN.v];exact vl_lt_of (by decide) (dLb.take _) (by simp;omega)
  have hDG:DG h.rows.length k2:=by intro x hx;rw [rd2,rd1] at hx;cases hx
  have hst:=div_start da lL0 dL0 vL0 hup hb0 hle hN.high
  refine ww_for (fun m s=>∃ L O,m≤a.length - b.length+1∧gt s.tm 13=.int .i64 (dn m)∧I78 va a b Lb up h.rows.length s m L O) (a.length - b.length+1) ⟨L0,List.replicate a.length 0,Nat.le_refl _,(by simp -implicitDefEqProofs (disch:=omega) only [go_sem,reduceIte,Nat.reduceEqDiff,dn]),⟨sSG,sS,sS,(sS1 rl1'),sS,sS,sS,by rw [rs2 _ (Nat.lt_succ_self _)];exact rr1,rr2,hDG,hst⟩⟩ ?_
  intro m s ⟨L,O,hm,h13,H⟩
  have H':=H
  obtain ⟨g0,g1,g9,g10,g11,g12,row,rb,rl,dg,D⟩:=H'
  have hLl:=D.len
  have hOl:=D.olen
  cases m with
  | zero =>
   refine ww_seq (ww_seq (ww_reg (fun n k=>by simp -implicitDefEqProofs (disch:=omega) only [go_sem,reduceIte,Nat.reduceEqDiff,h13,dn];rfl) ?_))
   refine ww_false sS (ww_exit ?_)
   rw [if_pos rfl]
   obtain ⟨de1,de2⟩:=div_end (va:=vl B a) (vb:=vl B b) (up:=up) (lb:=b.length) (la:=a.length) D
   obtain ⟨w,e,hbk,hse,dde,vee,lee⟩:=back_runs (c:=a.length+1) rl D.dg (by omega) hup
   rw [hLl] at hbk
   obtain ⟨r,hr,f,⟨⟨s2,rfl,hs2⟩,df,cf,hf0⟩,ht⟩:=made_spec hse dde (by omega) false s.hp
   refine ww_seq (ww_call (hbk.and hr) (fun n hn k=>by simp -implicitDefEqProofs (disch:=omega) only [go_sem,reduceIte,Nat.reduceEqDiff,g9,g10,g11,clc2 hn.1 (Ex1.glob _ _ _ _ _ _) (Ex1.int _ _),clc2 hn.2 hse.ex (Ex1.bool _),fld26];rfl) ?_)
   refine ww_ret (hQ _ _ (fin_arr_two (d:=78) (li:=some a.length) (g:=1) (k:=.u32) (l:=O) sS hOl.symm (by simp -implicitDefEqProofs (disch:=omega) only [go_sem,reduceIte,Nat.reduceEqDiff,row]) sS hs2.ex hs2.noRefs dg) ⟨_,_,O,f,rfl,.inl ⟨false,rfl⟩,hs2,D.odg,df,cf,?_,?_,hOl⟩)
   ·rw [ht.vl,vee];exact de1
   ·rw [ht.vl,vee];exact de2
  | succ i =>
   have h13':gt s.tm 13=.int .i64 (.ofNat i):=h13
   have hi:i+b.length≤a.length:=by omega
   have e1:i+(b.length - 1)+1=i+b.length:=by omega
   have e2:i+(b.length - 1)+2 - i=b.length+1:=by omega
   have x1:L.getD (i+b.length) 0<4294967296:=D.dg.get (by decide) _
   have x2:L.getD (i+(b.length - 1)) 0<4294967296:=D.dg.get (by decide) _
   have x3:Lb.getD (b.length - 1) 0<4294967296:=dLb.get (by decide) _
   have x4:=hN.top
   refine ww_seq (ww_seq (ww_reg (fun n k=>by simp -implicitDefEqProofs (disch:=omega) only [go_sem,reduceIte,Nat.reduceEqDiff,h13',d_true];rfl) ?_))
   refine ww_true sS (ww_skip ?_)
   refine ww_seq (ww_block ?_)
   refine ww_seq (ww_reg (fun n k=>by simp -implicitDefEqProofs (disch:=omega) only [go_sem,reduceIte,Nat.reduceEqDiff,h13',g10,g12,e1,nth_rows rl,ldg_nl L86,dv78_7,dv78_15,Nat.reducePow,or_shl];exact finD_ok (by kernel_rfl)) ?_)
   have lLb':=hN.len
   have hw:F.wrapI .u64 (.ofNat ((L.getD (i+b.length) 0*4294967296+L.getD (i+(b.length - 1)) 0) / Lb.getD (b.length - 1) 0))=.ofNat ((L.getD (i+b.length) 0*4294967296+L.getD (i+(b.length - 1)) 0) / Lb.getD (b.length - 1) 0):=wrap_u64 (Nat.lt_of_le_of_lt (Nat.div_le_self _ _) (by omega))
   refine ww_seq (ww_reg (fun n k=>by simp -implicitDefEqProofs (disch:=omega) only [go_sem,reduceIte,Nat.reduceEqDiff,g1,g12,nth_rows rb,ldg_nl L86,hw,mn_n];rfl) ?_)
   have hlt:=D.lt hi
   have hgs:=guess_ok hN.top (D.two hlB hi hb0) hN.lead hlt
   refine ww_join (M:=fun s1=>∃ q c,gt s1.tm 15=.int .u64 (.ofNat q)∧q<4294967296∧gt s1.tm 13=.int .i64 (.ofNat i)∧gt s1.tm 0=va∧gt s1.tm 1=.arr (.glob h.rows.length) 0 b.length (some (b.length+1)) 1 false∧gt s1.tm 9=.int .u64 (.ofNat up)∧gt s1.tm 10=.arr (.glob (h.rows.length+1)) 0 (a.length+1) (some (a.length+1)) 1 false∧gt s1.tm 11=.arr (.loc 78 1) 0 a.length (some a.length) 1 false∧gt s1.tm 12=.int .i64 (.ofNat (b.length - 1))∧lg s1.loc 78=(1,.cells false (nl .u32 O))∧s1.hp.rows[h.rows.length]? = some (.cells false (nl .u32 Lb))∧s1.hp.rows[h.rows.length+1]? = some (.cells false (nl .u32 (put L i c)))∧DG h.rows.length s1.hp∧Div (vl B a*2 ^ up) (vl B b*2 ^ up) b.length a.length i (put L i c) (O.set i q)) ?_ ?_
   ·refine ww_for (fun m s1=>gt s1.tm 15=.int .u64 (.ofNat m)∧m<4294967296∧vl B (L.drop i)<vl B b*2 ^ up*(m+1)∧gt s1.tm 13=.int .i64 (.ofNat i)∧I78 va a b Lb up h.rows.length s1 (i+1) L O) _ ⟨sS,Nat.lt_of_le_of_lt (Nat.min_le_right _ _) (by decide),hgs,(sS1 h13'),⟨(sS1 g0),(sS1 g1),(sS1 g9),(sS1 g10),(sS1 g11),(sS1 g12),(by simp -implicitDefEqProofs (disch:=omega) only [go_sem,reduceIte,Nat.reduceEqDiff,row]),rb,rl,dg,D⟩⟩ ?_
    intro q s1 ⟨j15,hq,hrv,j13,⟨i0,i1,i9,i10,i11,i12,irow,irb,irl,idg,_⟩⟩
    have hpt:=D.part hlB hi
    obtain ⟨ok,hq',htk,tdg,tlen,tsame,tno,tyes⟩:=takes_runs (n:=h.rows.length) (r0:=h.rows.length+1) (r1:=h.rows.length) (i:=i) (m:=b.length+1) (q:=q) (lb:=b.length) (li:=some (a.length+1 - i)) (lj:=some (b.length+1)) irl irb D.dg dLb (by omega) (by omega) (by omega) (by omega) hb0 (by omega) (by omega) hq idg (Nat.le_succ _)
    rw [hpt,hN.v] at tno tyes
    have hNr:h.rows.length<s1.hp.rows.length:=by
     rcases Nat.lt_or_ge h.rows.length s1.hp.rows.length with h1 | h1
     ·exact h1
     ·rw [List.getElem?_eq_none h1] at irb;simp at irb
    cases ok with
    | true =>
     obtain ⟨c,lc,dc,vc,rc⟩:=tyes rfl
     refine ww_seq (ww_seq (ww_call (htk) (fun n hn k=>by simp -implicitDefEqProofs (disch:=omega) only [go_sem,reduceIte,Nat.reduceEqDiff,i1,i10,i12,j13,j15,e2,slc_cut E24 L86,clc3 hn (Ex1.glob _ _ _ _ _ _) (Ex1.glob _ _ _ _ _ _) (Ex1.int _ _)];rfl) ?_))
     refine ww_false sS (ww_exit ?_)
     rw [if_pos rfl]
     refine ⟨q,c,(sS1 j15),hq,(sS1 j13),(sS1 i0),(sS1 i1),(sS1 i9),(sS1 i10),(sS1 i11),(sS1 i12),(by simp -implicitDefEqProofs (disch:=omega) only [go_sem,reduceIte,Nat.reduceEqDiff,irow]),by rw [tsame _ hNr (by omega)];exact irb,rc,tdg,D.next hlB hi hb0 lc dc vc ?_ hq⟩
     rw [Nat.mul_add,Nat.mul_one] at hrv
     omega
    | false =>
     obtain ⟨tlt,rfl⟩:=tno rfl
     have hq0:0<q:=by
      rcases Nat.eq_zero_or_pos q with e | e
      ·subst e;simp at tlt
      ·exact e
     refine ww_seq (ww_seq (ww_call (htk) (fun n hn k=>by simp -implicitDefEqProofs (disch:=omega) only [go_sem,reduceIte,Nat.reduceEqDiff,i1,i10,i12,j13,j15,e2,slc_cut E24 L86,clc3 hn (Ex1.glob _ _ _ _ _ _) (Ex1.glob _ _ _ _ _ _) (Ex1.int _ _)];rfl) ?_))
     refine ww_true sS (ww_skip (ww_block ?_))
     refine ww_reg (fun n k=>by simp -implicitDefEqProofs (disch:=omega) only [go_sem,reduceIte,Nat.reduceEqDiff,j15,wrap_u64];rfl) ?_
     exact ⟨q - 1,by omega,sS,by omega,by rw [Nat.sub_add_cancel hq0];exact tlt,(sS1 j13),⟨(sS1 i0),(sS1 i1),(sS1 i9),(sS1 i10),(sS1 i11),(sS1 i12),(by simp -implicitDefEqProofs (disch:=omega) only [go_sem,reduceIte,Nat.reduceEqDiff,irow]),irb,irl,idg,D⟩⟩
   ·intro s1 ⟨q,c,j15,hq,j13,i0,i1,i9,i10,i11,i12,irow,irb,irl,idg,iD⟩
    refine ww_reg (fun n k=>by simp -implicitDefEqProofs (disch:=omega) only [go_sem,reduceIte,Nat.reduceEqDiff,j13,j15,i11,irow,wrap_u32];rfl) ?_
    refine ww_reg (fun n k=>by simp -implicitDefEqProofs (disch:=omega) only [go_sem,reduceIte,Nat.reduceEqDiff,j13,i_dec];rfl) ?_
    exact ⟨i,by omega,put L i c,O.set i q,by omega,sS,⟨(sS1 i0),(sS1 i1),(sS1 i9),(sS1 i10),(sS1 i11),(sS1 i12),sS,irb,irl,idg,iD⟩⟩
end Go.AM.S
end
section
namespace Go.AM.S
open Go Go.AM Go.Proofs NumL
open _root_.Go.AM.G (R)
set_option maxRecDepth 100000
theorem tbl70:tbl 70=some ⟨rc70,[.cell 2 31]⟩:=by kernel_rfl
theorem mustR_spec {l:List Nat} (hd:Dg 256 l) (hl:l.length≤1000):Gives 70 [.str (sl l)] fun r=>IsR 252 r (zOf l):=by
 refine gives_of tbl70 fun h Q hQ=>?_
 obtain ⟨_,hp,v,rfl,hI⟩:=parseR_spec hd hl ⟨h.rows,none,h.mods⟩
 obtain ⟨s,b,rfl,ps,es,qs⟩:=hI.form
 unfold rc70
 refine sR ?_
 refine ww_seq (ww_call (hp) (fun n hn k=>by simp -implicitDefEqProofs (disch:=omega) only [go_sem,reduceIte,Nat.reduceEqDiff,gt_start,List.getD_cons_zero,List.getD_cons_succ,clc1 hn (Ex1.str _),ext_tuple,stc_two N31 1 (.bool b) s (.bool false) .nils _ rfl ps.ok];rfl) ?_)
 refine ww_seq (ww_reg (fun n k=>by simp -implicitDefEqProofs (disch:=omega) only [go_sem,reduceIte,Nat.reduceEqDiff,ldc_two L31,stc_two N31 1 (.bool b) s (.bool false) .nils _ rfl ps.ok];rfl) ?_)
 exact ww_ret (hQ _ _ (fin_cell (x:=.bool b) (y:=s) (f:=false) (d:=2) (g:=1) (by kernel_rfl) sS sS (Pl.bool _) ps rfl) hI)
end Go.AM.S
end
section
namespace Go.AM.S
open Go Go.AM Go.Proofs NumL
open _root_.Go.AM.G (R)
set_option maxRecDepth 100000
end Go.AM.S
end
section
namespace Go.AM.S
open Go Go.AM Go.Proofs NumL
open _root_.Go.AM.G (R)
set_option maxRecDepth 100000
section
variable {C:Cfg} {P:Program} {call:CallF} {gl:Nat→Bool} {o:Oper} {t' tm:Tm} {loc:Lo} {hp:Hp}
end
end Go.AM.S
end
section
namespace Go.AM.S
open Go Go.AM Go.Proofs NumL
open _root_.Go.AM.G (R)
section
variable {P:Program} {C:Cfg} {call:CallF} {gl:Nat→Bool} {o:Oper} {loc:Lo} {hp:Hp}
end
end Go.AM.S
end
section
namespace Go.AM.S
open Go Go.AM Go.Proofs NumL
open _root_.Go.AM.G (R)
set_option maxRecDepth 100000
theorem fin_cells2 {h:Hp} {a t d g a2 t2 d2 g2:Nat} {f f2:Bool} {s:St} {x y x2 y2:V} (hl:layE Pg t=some (2,true)) (hl2:layE Pg t2=some (2,true)) (hv:gt s.tm a=.ptr (.loc d g) 0) (hv2:gt s.tm a2=.ptr (.loc d2 g2) 0) (hr:lg s.loc d=(g,.cells f [x,y])) (hr2:lg s.loc d2=(g2,.cells f2 [x2,y2])) (hx:Pl x) (hy:Pl y) (hx2:Pl x2) (hy2:Pl y2) (hc:DG h.rows.length s.hp) :
  fin Pg h [.cell a t,.cell a2 t2] s=some (.val (.tuple [.agg [x,y],.agg [x2,y2]]) h):=by
 unfold fin
 have e1:resV Pg s [.cell a t,.cell a2 t2]=some [.agg [x,y],.agg [x2,y2]]:=by
  simp only [resV,rho_gt,hv,hv2,getRow_loc hr,getRow_loc hr2,partV,hl,hl2,Option.map_some]
  rfl
 rw [e1]
 have e2:=exps_ex [.agg [x,y],.agg [x2,y2]] s ⟨exp_agg (cs:=[x,y]) (by intro v hv;simp at hv;rcases hv with rfl | rfl<;>assumption),exp_agg (cs:=[x2,y2]) (by intro v hv;simp at hv;rcases hv with rfl | rfl<;>assumption),trivial⟩
 simp only [e2]
 unfold backHp
 rw [clean_dg hc]
 simp only [V.noRefsL,V.noRefs,hx.refs,hy.refs,hx2.refs,hy2.refs,Bool.and_self,cond_true]
end Go.AM.S
end
section
namespace Go.AM.S
open Go Go.AM Go.Proofs NumL
open _root_.Go.AM.G (R)
set_option maxRecDepth 100000
end Go.AM.S
end
section
namespace Go.AM.S
open Go Go.AM Go.Proofs NumL
open _root_.Go.AM.G (R)
set_option maxRecDepth 100000
section
variable {C:Cfg} {P:Program} {call:CallF} {gl:Nat→Bool} {o:Oper} {t' tm:Tm} {loc:Lo} {hp:Hp}
theorem genD_pure {d:Nat} {v:V} {J:JD} {X:XD} {t:TypeId} {l:Array (Nat × Operand)} (hd:o.dst=some d) (ho:o.op=.build t l) (hp1:locV P C gl (⟨t',loc,hp⟩:St).ρ (⟨t',loc,hp⟩:St).lc o=some (v,none)) :
  genD P C call gl o t' loc hp J X=J v ⟨[],[],false,false,false,false⟩ loc hp:=by
 have hf:footV P C gl (⟨t',loc,hp⟩:St).ρ (⟨t',loc,hp⟩:St).lc o=some ⟨[],[],false,false,false,false⟩:=by
  unfold footV
  rw [hp1]
  simp only [ho]
 have hs:stepV P C gl ⟨t',loc,hp⟩ o=some (.val v ⟨t',loc,hp⟩):=by
  unfold stepV
  rw [hp1];rfl
 unfold genD
 rw [F.e_footV,F.e_oneV,F.e_rho,F.e_lcf,hf]
 show G.onSome (oneV P C call gl ⟨t',loc,hp⟩ o) _ none=_
 unfold oneV
 rw [hs]
 have e1:F.settle hp hp ⟨[],[],false,false,false,false⟩ = ⟨[],[],false,false,false,false⟩:=by
  unfold F.settle
  rw [Nat.beq_refl,Nat.beq_refl];rfl
 simp only [putV,hd]
 show J (gt (aset t' d v) d) (F.settle hp hp ⟨[],[],false,false,false,false⟩) loc hp=_
 rw [gt_eq,aget_aset,if_pos rfl,e1]
end
theorem db37_2_0 (c:CallF) (t:Tm) (l:Lo) (h:Hp) (J:JD) (X:XD):gD Try.f37 37 2 0 c t l h J X=J (.agg [.nils,.bool false]) ⟨[],[],false,false,false,false⟩ l h :=
 genD_pure (C:=Cg) (gl:=Cg.glob 37) (call:=c) (o:=opA Try.f37 2 0) (d:=15) (t:=26) (l:=#[]) (by kernel_rfl) (by kernel_rfl) (by kernel_rfl)
theorem IsI.shrink {k l:Nat} {v:V} {z:Int} (h:IsI k v z) (hz:z.natAbs<B ^ l):IsI l v z:=by
 obtain ⟨d,b,⟨hv,dd,cd,h0⟩,rfl,hl⟩:=h
 refine ⟨d,b,⟨hv,dd,cd,h0⟩,rfl,?_⟩
 rcases Nat.lt_or_ge l d.length with h1 | h1
 ·exfalso
  have h2:=vl_ge (B:=B) cd (by intro e;subst e;simp at h1)
  have h3:(zv d b).natAbs=vl B d:=by unfold zv;cases b<;>simp
  rw [h3] at hz
  have h4:B ^ l≤B ^ (d.length - 1):=Nat.pow_le_pow_right (by decide) (by omega)
  omega
 ·exact h1
theorem IsI.abs_lt {k:Nat} {v:V} {z:Int} (h:IsI k v z):z.natAbs<B ^ k:=by
 obtain ⟨d,b,⟨hv,dd,cd,h0⟩,rfl,hl⟩:=h
 have h3:(zv d b).natAbs=vl B d:=by unfold zv;cases b<;>simp
 rw [h3]
 exact vl_lt_of (by decide) dd hl
theorem div_pos' {d e q r:Nat} (h:q*e+r=d) (hr:r<e):(d:Int) / (e:Int)=q∧(d:Int) % (e:Int)=r:=by
 rw [Int.ediv_emod_unique (by omega)]
 refine ⟨?_,by omega,by omega⟩
 rw [←h,Int.natCast_add,Int.natCast_mul,Int.mul_comm,Int.add_comm]
theorem div_neg0 {d e q:Nat} (h:q*e=d) (he:0<e):-(d:Int) / (e:Int) = -q∧-(d:Int) % (e:Int)=0:=by
 rw [Int.ediv_emod_unique (by omega)]
 refine ⟨?_,by omega,by omega⟩
 rw [←h,Int.natCast_mul,Int.mul_comm,Int.neg_mul,Int.zero_add]
theorem div_neg1 {d e q r:Nat} (h:q*e+r=d) (hr:r<e) (h0:0<r):-(d:Int) / (e:Int) = -q - 1∧-(d:Int) % (e:Int)=(e:Int) - r:=by
 rw [Int.ediv_emod_unique (by omega)]
 refine ⟨?_,by omega,by omega⟩
 rw [←h,Int.natCast_add,Int.natCast_mul,Int.mul_sub,Int.mul_neg,Int.mul_one,Int.mul_comm (e:Int)]
 omega
theorem quo_law {d e q r:Nat} (b c:Bool) (h:q*e+r=d) (hr:r<e) :
  ((bif b then -(d:Int) else d) / (bif c then -(e:Int) else e)=(bif b then (bif c then (q:Int)+(bif decide (0<r) then 1 else 0) else -(q:Int) - (bif decide (0<r) then 1 else 0)) else (bif c then -(q:Int) else q))) ∧
  ((bif b then -(d:Int) else d) % (bif c then -(e:Int) else e)=bif b&&decide (0<r) then (e:Int) - r else r):=by
 cases b with
 | false =>
  obtain ⟨h1,h2⟩:=div_pos' h hr
  cases c with
  | false=>exact ⟨h1,h2⟩
  | true =>
   simp only [cond_false,cond_true,Bool.false_and,Int.ediv_neg,Int.emod_neg,h1,h2,and_self]
 | true =>
  rcases Nat.eq_zero_or_pos r with h0 | h0
  ·subst h0
   obtain ⟨h1,h2⟩:=div_neg0 (q:=q) (by omega) hr
   cases c with
   | false=>simp only [cond_false,cond_true,h1,h2];simp
   | true=>simp only [cond_false,cond_true,Int.ediv_neg,Int.emod_neg,h1,h2];simp
  ·obtain ⟨h1,h2⟩:=div_neg1 h hr h0
   have hd:decide (0<r)=true:=decide_eq_true h0
   cases c with
   | false=>simp only [cond_false,cond_true,h1,h2,hd,Bool.true_and,and_self]
   | true =>
    simp only [cond_false,cond_true,Int.ediv_neg,Int.emod_neg,h1,h2,hd,Bool.true_and,and_true]
    omega
end Go.AM.S
end
section
namespace Go.AM.S
open Go Go.AM Go.Proofs NumL
open _root_.Go.AM.G (R)
set_option maxRecDepth 100000
theorem tbl37:tbl 37=some ⟨rc37,[.cell 4 26,.cell 5 26]⟩:=by kernel_rfl
structure I37 (s u:V) (b c:Bool) (h:Hp) (st:St):Prop where
 h2:gt st.tm 2=.ptr (.loc 2 1) 0
 h3:gt st.tm 3=.ptr (.loc 3 1) 0
 h4:gt st.tm 4=.ptr (.loc 4 1) 0
 h5:gt st.tm 5=.ptr (.loc 5 1) 0
 h6:gt st.tm 6=.ptr (.loc 6 1) 0
 h7:gt st.tm 7=.ptr (.loc 7 1) 0
 l2:lg st.loc 2=(1,.cells false [s,.bool b])
 l3:lg st.loc 3=(1,.cells false [u,.bool c])
 l4:lg st.loc 4=(1,.cells false [.nils,.bool false])
 l5:lg st.loc 5=(1,.cells false [.nils,.bool false])
 hp:st.hp=h
theorem IsI.nn {k:Nat} {s:V} {b:Bool} {z:Int} (h:IsI k (.agg [s,.bool b]) z):Pl s∧Ex1 (.agg [s,.bool b])∧AM.quiet (.agg [s,.bool b])=true:=by
 obtain ⟨s',b',e,p,x,q⟩:=h.form
 have e':s=s'∧b=b':=by simpa using e
 obtain ⟨rfl,rfl⟩:=e'
 exact ⟨p,x,q⟩
theorem quo_spec {k l:Nat} {va vb:V} {x y:Int} (ha:IsI k va x) (hb:IsI l vb y) (hk:k≤300000) (hl:l≤300000):Gives 37 [va,vb] fun r=>∃ v w,r=.tuple [v,w]∧IsI k v (x / y)∧IsI (if y=0 then k else l) w (x % y):=by
 have ha0:=ha
 have hb0:=hb
 obtain ⟨d,b,⟨⟨s,rfl,hs⟩,dd,cd,h0⟩,hx,hdl⟩:=ha
 obtain ⟨e,c,⟨⟨u,rfl,hu⟩,de,ce,he0⟩,hy,hel⟩:=hb
 refine gives_of tbl37 fun h Q hQ=>?_
 unfold rc37
 refine sRG ?_
 have fin:∀ (st:St) (v0 v1 w0 w1:V) ,IsI k (.agg [v0,v1]) (x / y)→IsI (if y=0 then k else l) (.agg [w0,w1]) (x % y)→gt st.tm 4=.ptr (.loc 4 1) 0→gt st.tm 5=.ptr (.loc 5 1) 0→lg st.loc 4=(1,.cells false [v0,v1])→lg st.loc 5=(1,.cells false [w0,w1])→st.hp=⟨h.rows,none,h.mods⟩→Q st:=by
  intro st v0 v1 w0 w1 hv hw h4 h5 l4 l5 hh
  obtain ⟨sv,bv,e1,pv,_,_⟩:=hv.form
  obtain ⟨sw,bw,e2,pw,_,_⟩:=hw.form
  obtain ⟨rfl,rfl⟩:v0=sv∧v1=.bool bv:=by simpa using e1
  obtain ⟨rfl,rfl⟩:w0=sw∧w1=.bool bw:=by simpa using e2
  exact hQ _ _ (fin_cells2 (x:=v0) (y:=.bool bv) (x2:=w0) (y2:=.bool bw) (d:=4) (g:=1) (d2:=5) (g2:=1) (f:=false) (f2:=false) (by kernel_rfl) (by kernel_rfl) h4 h5 l4 l5 pv (Pl.bool _) pw (Pl.bool _) (by rw [hh];exact fun x hx=>by cases hx)) ⟨_,_,rfl,hv,hw⟩
 rcases Nat.eq_zero_or_pos e.length with ee | ee
 ·
  have e0:e=[]:=List.length_eq_zero_iff.1 ee
  have hy0:y=0:=by rw [hy,e0,he0 e0];rfl
  refine ww_seq (ww_seq (ww_reg (fun n k=>by simp -implicitDefEqProofs (disch:=omega) only [go_sem,reduceIte,Nat.reduceEqDiff,gt_start,List.getD_cons_zero,List.getD_cons_succ,ldc_fst L24,len_sl hu,ee,d_true];rfl) ?_))
  refine ww_true sS ?_
  refine ww_seq (ww_reg (fun n k=>by simp -implicitDefEqProofs (disch:=omega) only [go_sem,reduceIte,Nat.reduceEqDiff,gt_start,List.getD_cons_zero,List.getD_cons_succ,db37_2_0,ldc_two L26,stc_two N26 1 .nils (.bool false) .nils (.bool false) _ rfl rfl,stc_two N26 1 s (.bool b) .nils (.bool false) _ hs.pl.ok rfl];exact finD_ok (by kernel_rfl)) ?_)
  refine ww_ret (fin _ .nils (.bool false) s (.bool b) ?_ ?_ sS sS sS sS rfl)
  ·rw [hy0,Int.ediv_zero];exact zeroI.mono (Nat.zero_le _)
  ·rw [hy0,Int.emod_zero,if_pos rfl];exact ha0
 have hne:e≠[]:=fun q=>by subst q;simp at ee
 have hE:0<vl B e:=Nat.pos_of_ne_zero fun q=>hne ((vl_zero ce).1 q)
 have hyn:y≠0:=by rw [hy];unfold zv;cases c<;>simp<;>omega
 refine ww_seq (ww_seq (ww_reg (fun n k=>by simp -implicitDefEqProofs (disch:=omega) only [go_sem,reduceIte,Nat.reduceEqDiff,gt_start,List.getD_cons_zero,List.getD_cons_succ,ldc_fst L24,len_sl hu,d_false];rfl) ?_))
 refine ww_false sS (ww_skip ?_)
 obtain ⟨r1,hr1,f1,⟨⟨s1,rfl,hs1⟩,df1,cf1,hf1⟩,ht1⟩:=made_spec hs dd (by omega) false ⟨h.rows,none,h.mods⟩
 refine ww_seq (ww_call (hr1) (fun n hn k=>by simp -implicitDefEqProofs (disch:=omega) only [go_sem,reduceIte,Nat.reduceEqDiff,gt_start,List.getD_cons_zero,List.getD_cons_succ,ldc_fst L24,clc2 hn hs.ex (Ex1.bool _),stc_two N26 1 .nils (.bool false) .nils (.bool false) _ rfl rfl,stc_two N26 1 s1 (.bool (false && !f1.isEmpty)) .nils (.bool false) _ hs1.pl.ok rfl];rfl) ?_)
 have hbc:∀ q:Nat,∀ f:List Nat,vl B f=q→zv f ((!(b == c)) && !f.isEmpty)=bif b == c then (q:Int) else -(q:Int):=by
  intro q f hf
  subst hf
  cases b == c with
  | true=>simp [zv]
  | false =>
   cases f with
   | nil=>rfl
   | cons x0 l0=>rfl
 refine ww_join (M:=fun st=>I37 s u b c ⟨h.rows,none,h.mods⟩ st∧∃ (sq:V) (bq:Bool) (q:Nat) (sr:V) (g:List Nat),lg st.loc 6=(1,.cells false [sq,.bool bq])∧lg st.loc 7=(1,.cells false [sr,.bool false])∧IsI k (.agg [sq,.bool bq]) (bif b == c then (q:Int) else -(q:Int))∧Sl .u32 sr g∧Dg B g∧Cn g∧q*vl B e+vl B g=vl B d∧vl B g<vl B e) ?_ ?_
 ·obtain ⟨_,hcm,rfl⟩:=compare_spec hs hu dd de cd ce (by omega) (by omega) ⟨h.rows,none,h.mods⟩
  rcases Nat.lt_or_ge (vl B d) (vl B e) with hlt | hge
  ·have hc:cmpI (vl B d) (vl B e)=.negSucc 0:=by unfold cmpI;rw [if_pos hlt]
   rw [hc] at hcm
   refine ww_seq (ww_call (hcm) (fun n hn k=>by simp -implicitDefEqProofs (disch:=omega) only [go_sem,reduceIte,Nat.reduceEqDiff,ldc_fst L24,clc2 hn hs.ex hu.ex];rfl) ?_)
   refine ww_false sS (ww_skip ?_)
   refine ⟨⟨sSG,sSG,sS,sS,sS,sS,sS,sS,sS,sS,rfl⟩,.nils,false,0,s1,f1,sS,(by simp -implicitDefEqProofs (disch:=omega) only [go_sem,reduceIte,Nat.reduceEqDiff,Bool.false_and]),by cases b == c<;>exact zeroI.mono (Nat.zero_le _),hs1,df1,cf1,by rw [ht1.vl];omega,by rw [ht1.vl];exact hlt⟩
  ·have hc:∃ z,cmpI (vl B d) (vl B e)=.ofNat z:=by
    unfold cmpI
    rw [if_neg (by omega)]
    split
    ·exact ⟨1,rfl⟩
    ·exact ⟨0,rfl⟩
   obtain ⟨z,hz⟩:=hc
   rw [hz] at hcm
   refine ww_seq (ww_call (hcm) (fun n hn k=>by simp -implicitDefEqProofs (disch:=omega) only [go_sem,reduceIte,Nat.reduceEqDiff,ldc_fst L24,clc2 hn hs.ex hu.ex,d_true];rfl) ?_)
   refine ww_true sS ?_
   obtain ⟨_,hdv,so,st,O,T,rfl,hso,hst,dO,dT,cT,hv,hlt,lO⟩:=divided_spec hs hu dd de ce hne (len_le (by decide) dd ce hge) (by omega) ⟨h.rows,none,h.mods⟩
   refine ww_seq (ww_call (hdv) (fun n hn k=>by simp -implicitDefEqProofs (disch:=omega) only [go_sem,reduceIte,Nat.reduceEqDiff,ldc_fst L24,clc2 hn hs.ex hu.ex,ext_tuple];rfl) ?_)
   obtain ⟨r2,hr2,f2,hf2,ht2⟩:=made_spec hso dO (by omega) (!(b == c)) ⟨h.rows,none,h.mods⟩
   obtain ⟨r3,hr3,f3,⟨⟨s3,rfl,hs3⟩,df3,cf3,hf3⟩,ht3⟩:=made_spec hst dT (by have:=len_le (B:=B) (by decide) de cT (by omega);omega) false ⟨h.rows,none,h.mods⟩
   have hf2':=hf2
   obtain ⟨⟨s2,rfl,hs2⟩,df2,cf2,hf20⟩:=hf2
   have l2:=ht2.len
   refine ww_call (hr2.and hr3) (fun n hn k=>by simp -implicitDefEqProofs (disch:=omega) only [go_sem,reduceIte,Nat.reduceEqDiff,ldc_snd L4,bin_neb 4 false b c U4,clc2 hn.1 hso.ex (Ex1.bool _),clc2 hn.2 hst.ex (Ex1.bool _),stc_two N26 1 s2 (.bool (!(b == c) && !f2.isEmpty)) .nils (.bool false) _ hs2.pl.ok rfl,stc_two N26 1 s3 (.bool (false && !f3.isEmpty)) s1 (.bool (false && !f1.isEmpty)) _ hs3.pl.ok rfl];rfl) ?_
   exact ⟨⟨sSG,sSG,sS,sS,sS,sS,sS,sS,sS,sS,rfl⟩,s2,_,vl B O,s3,f3,sS,(by simp -implicitDefEqProofs (disch:=omega) only [go_sem,reduceIte,Nat.reduceEqDiff,Bool.false_and]),⟨f2,_,hf2',(hbc _ _ (ht2.vl B)).symm,by omega⟩,hs3,df3,cf3,by rw [ht3.vl];exact hv,by rw [ht3.vl];exact hlt⟩
 intro st ⟨⟨h2,h3,h4,h5,h6,h7,l2,l3,l4,l5,hhp⟩,sq,bq,q,sr,g,l6,l7,hq,hsr,dg,cg,hv,hlt⟩
 obtain ⟨ql,qr⟩:=quo_law b c hv hlt
 have ex:x=bif b then -(vl B d:Int) else (vl B d:Int):=hx
 have ey:y=bif c then -(vl B e:Int) else (vl B e:Int):=hy
 rw [←ex,←ey] at ql qr
 have hgz:(0<g.length)↔0<vl B g:=by
  constructor
  ·intro h1
   exact Nat.pos_of_ne_zero fun q=>by have:=(vl_zero cg).1 q;subst this;simp at h1
  ·intro h1
   rcases Nat.eq_zero_or_pos g.length with q | q
   ·have:g=[]:=List.length_eq_zero_iff.1 q
    subst this;simp [vl] at h1
   ·exact q
 have hgl:g.length≤l:=by have:=len_le (B:=B) (by decide) de cg (by omega);omega
 have hgI:IsI l (.agg [sr,.bool false]) ((vl B g:Nat):Int):=⟨g,false,⟨⟨sr,rfl,hsr⟩,dg,cg,fun _=>rfl⟩,rfl,hgl⟩
 have hlast:∀ (s2:St) (v0 v1 w0 w1:V),IsI k (.agg [v0,v1]) (x / y)→IsI l (.agg [w0,w1]) (x % y)→I37 s u b c ⟨h.rows,none,h.mods⟩ s2→lg s2.loc 6=(1,.cells false [v0,v1])→lg s2.loc 7=(1,.cells false [w0,w1])→WW Pg kn0 tbl (.seq (.reg fun c t l h k=>bO (ld Pg 26 (g6 t) l h) fun v0=>bO (ld Pg 26 (g7 t) l h) fun v1=>jE ((65,v1)::(64,v0)::[]) fun e2=>jF ((ldF (g7 t))::(ldF (g6 t))::[]) fun q2=>gD Try.f37 37 13 2 c (p64 (p4 t (g4 t)) v0) l h (fun v2 f2 l2 h2=>jF (f2::q2) fun q3=>gD Try.f37 37 13 3 c (p65 (p5 t (g5 t)) v1) l2 h2 (fun v3 f3 l3 h3=>finD (rgA Try.f37 13).toList [(1,2)] [(1,2)] (f3::q3) (k t l3 h3)) (sD Try.f37 37 13 c 3 none e2 q3 t l2 h2)) (sD Try.f37 37 13 c 2 none e2 q2 t l h)) .ret) s2 (fun _=>False) (fun _ _=>False) Q:=by
  intro s2 v0 v1 w0 w1 hv hw ⟨k2,k3,k4,k5,k6,k7,m2,m3,m4,m5,mh⟩ m6 m7
  obtain ⟨sv,bv,e1,pv,_,_⟩:=hv.form
  obtain ⟨sw,bw,e2,pw,_,_⟩:=hw.form
  obtain ⟨rfl,rfl⟩:v0=sv∧v1=.bool bv:=by simpa using e1
  obtain ⟨rfl,rfl⟩:w0=sw∧w1=.bool bw:=by simpa using e2
  refine ww_seq (ww_reg (fun n k=>by simp -implicitDefEqProofs (disch:=omega) only [go_sem,reduceIte,Nat.reduceEqDiff,k4,k5,k6,k7,m4,m5,m6,m7,ldc_two L26,stc_two N26 1 v0 (.bool bv) .nils (.bool false) _ pv.ok rfl,stc_two N26 1 w0 (.bool bw) .nils (.bool false) _ pw.ok rfl];exact finD_ok (by kernel_rfl)) ?_)
  exact ww_ret (fin _ _ _ _ _ hv (by rw [if_neg hyn];exact hw) (sS1 k4) (sS1 k5) sS sS mh)
 have hb01:b=true∧0<vl B g∨(b&&decide (0<vl B g))=false:=by
  cases b with
  | false=>exact .inr rfl
  | true =>
   rcases Nat.eq_zero_or_pos (vl B g) with q | q
   ·exact .inr (by rw [q];rfl)
   ·exact .inl ⟨rfl,q⟩
 rcases hb01 with ⟨rfl,hg0⟩ | hbf
 ·rw [decide_eq_true hg0,Bool.true_and,cond_true] at qr
  rw [decide_eq_true hg0] at ql
  simp only [cond_true] at ql
  have hgl0:=hgz.2 hg0
  refine ww_join (M:=fun s2=>∃ v0 v1 w0 w1,IsI k (.agg [v0,v1]) (x / y)∧IsI l (.agg [w0,w1]) (x % y)∧I37 s u true c ⟨h.rows,none,h.mods⟩ s2∧lg s2.loc 6=(1,.cells false [v0,v1])∧lg s2.loc 7=(1,.cells false [w0,w1])) ?_ (fun s2 ⟨v0,v1,w0,w1,a1,a2,a3,a4,a5⟩=>hlast s2 v0 v1 w0 w1 a1 a2 a3 a4 a5)
  refine ww_seq (ww_reg (fun n k=>by simp -implicitDefEqProofs (disch:=omega) only [go_sem,reduceIte,Nat.reduceEqDiff,h2,h7,l2,l7,ldc_snd L4,ldc_fst L24,len_sl hsr,decide_eq_true hgl0];rfl) ?_)
  refine ww_true sS ?_
  obtain ⟨r4,hr4,f4,hf4,ht4⟩:=made_spec hu de (by omega) false ⟨h.rows,none,h.mods⟩
  have hI4:IsI l r4 ((vl B e:Nat):Int):=⟨f4,_,hf4,by rw [Bool.false_and];show ((vl B e:Nat):Int)=((vl B f4:Nat):Int);rw [ht4.vl],by have:=ht4.len;omega⟩
  obtain ⟨r5,hr5,hI5⟩:=sub_spec hI4 hgI (by omega) (by omega) ⟨h.rows,none,h.mods⟩
  have hEl:vl B e<B ^ l:=vl_lt_of (by decide) de hel
  have hI5':IsI l r5 (x % y):=by rw [qr];exact hI5.shrink (by omega)
  obtain ⟨s5,b5,rfl,p5,x5,q5⟩:=hI5'.form
  obtain ⟨s4,b4,rfl,p4,x4,q4⟩:=hI4.form
  obtain ⟨p7,x7,q7⟩:=hgI.nn
  refine ww_seq (ww_call (hr4.and hr5) (fun n hn k=>by simp -implicitDefEqProofs (disch:=omega) only [go_sem,reduceIte,Nat.reduceEqDiff,h3,h7,hhp,l3,l7,ldc_fst L24,ldc_two L26,cld2 hn.1 hu.ex (Ex1.bool _) hu.quiet rfl,cld2 hn.2 x4 x7 q4 q7,stc_two N26 1 s5 (.bool b5) sr (.bool false) _ p5.ok rfl];exact finD_ok (by kernel_rfl)) ?_)
  obtain ⟨r8,hr8,hI8⟩:=of_spec (z:=1) (by decide) (by decide) ⟨h.rows,none,h.mods⟩
  obtain ⟨r9,hr9,hI9⟩:=of_spec (z:=-1) (by decide) (by decide) ⟨h.rows,none,h.mods⟩
  obtain ⟨s8,b8,rfl,p8,x8,q8⟩:=hI8.form
  obtain ⟨s9,b9,rfl,p9,x9,q9⟩:=hI9.form
  have hr8':Runs Pg kn0 tbl 21 [.int .i64 (.ofNat 1)] ⟨h.rows,none,h.mods⟩ (.val (.agg [s8,.bool b8]) ⟨h.rows,none,h.mods⟩):=hr8
  have hr9':Runs Pg kn0 tbl 21 [.int .i64 (.negSucc 0)] ⟨h.rows,none,h.mods⟩ (.val (.agg [s9,.bool b9]) ⟨h.rows,none,h.mods⟩):=hr9
  refine ww_seq (ww_call (hr8') (fun n hn k=>by simp -implicitDefEqProofs (disch:=omega) only [go_sem,reduceIte,Nat.reduceEqDiff,hhp,clc1 hn (Ex1.int _ _),stc_two N26 ((lg st.loc 10).1+1) s8 (.bool b8) .nils (.bool false) _ p8.ok rfl];rfl) ?_)
  obtain ⟨pq,xq,qq⟩:=hq.nn
  have hone:∀ (s10:V) (b10:Bool) (st2:St),IsI 2 (.agg [s10,.bool b10]) (bif c then -1 else 1)→I37 s u true c ⟨h.rows,none,h.mods⟩ st2→gt st2.tm 10=.ptr (.loc 10 ((lg st.loc 10).1+1)) 0→lg st2.loc 10=((lg st.loc 10).1+1,.cells false [s10,.bool b10])→lg st2.loc 6=(1,.cells false [sq,.bool bq])→lg st2.loc 7=(1,.cells false [s5,.bool b5]) →
    WW Pg kn0 tbl (.reg fun c t l h k=>bO (ld Pg 26 (g6 t) l h) fun v0=>bO (ld Pg 26 (g10 t) l h) fun v1=>cl c 27 [v0,v1] t l h fun v2 l2 h2=>jn (fun v3 l3 h3=>k t l3 h3) fun j3=>sto 26 (g6 t) v2 l2 h2 j3 (gn Try.f37 37 12 3 c (p63 (p6 t (g6 t)) v2) t l2 h2 j3)) st2 (fun s2=>∃ v0 v1 w0 w1,IsI k (.agg [v0,v1]) (x / y)∧IsI l (.agg [w0,w1]) (x % y)∧I37 s u true c ⟨h.rows,none,h.mods⟩ s2∧lg s2.loc 6=(1,.cells false [v0,v1])∧lg s2.loc 7=(1,.cells false [w0,w1])) (fun _ _=>False) (fun _=>False):=by
   intro s10 b10 st2 hI10 ⟨k2,k3,k4,k5,k6,k7,m2,m3,m4,m5,mh⟩ m10 k10 n6 n7
   obtain ⟨r11,hr11,hI11⟩:=sub_spec hq hI10 (by omega) (by omega) ⟨h.rows,none,h.mods⟩
   have hval:(bif true == c then (q:Int) else -(q:Int)) - (bif c then -1 else 1)=x / y:=by
    rw [ql]
    cases c with
    | false=>rfl
    | true=>show (q:Int) - (-1)=q+1;omega
   rw [hval] at hI11
   have hI12:=hI11.shrink (l:=k) (Nat.lt_of_le_of_lt (Int.natAbs_ediv_le_natAbs x y) ha0.abs_lt)
   obtain ⟨s11,b11,rfl,p11,x11,q11⟩:=hI12.form
   obtain ⟨_,x10,_⟩:=hI10.nn
   refine ww_call (hr11) (fun n hn k=>by simp -implicitDefEqProofs (disch:=omega) only [go_sem,reduceIte,Nat.reduceEqDiff,k6,n6,m10,k10,mh,ldc_two L26,clc2 hn xq x10,stc_two N26 1 s11 (.bool b11) sq (.bool bq) _ p11.ok rfl];rfl) ?_
   exact ⟨s11,.bool b11,s5,.bool b5,hI12,hI5',⟨(sS1 k2),(sS1 k3),(sS1 k4),(sS1 k5),(sS1 k6),(sS1 k7),(sS1 m2),(sS1 m3),(sS1 m4),(sS1 m5),rfl⟩,sS,(sS1 n7)⟩
  cases c with
  | false =>
   refine ww_seq (ww_seq (ww_reg (fun n k=>by simp -implicitDefEqProofs (disch:=omega) only [go_sem,reduceIte,Nat.reduceEqDiff,h3,l3,ldc_snd L4];rfl) ?_))
   refine ww_false sS (ww_skip ?_)
   exact hone s8 b8 _ hI8 ⟨(sS1 h2),(sS1 h3),(sS1 h4),(sS1 h5),(sS1 h6),(sS1 h7),(sS1 l2),(sS1 l3),(sS1 l4),(sS1 l5),rfl⟩ sS sS (sS1 l6) sS
  | true =>
   refine ww_seq (ww_seq (ww_reg (fun n k=>by simp -implicitDefEqProofs (disch:=omega) only [go_sem,reduceIte,Nat.reduceEqDiff,h3,l3,ldc_snd L4];rfl) ?_))
   refine ww_true sS ?_
   refine ww_call (hr9') (fun n hn k=>by simp -implicitDefEqProofs (disch:=omega) only [go_sem,reduceIte,Nat.reduceEqDiff,clc1 hn (Ex1.int _ _),stc_two N26 ((lg st.loc 10).1+1) s9 (.bool b9) s8 (.bool b8) _ p9.ok rfl];rfl) ?_
   exact hone s9 b9 _ hI9 ⟨(sS1 h2),(sS1 h3),(sS1 h4),(sS1 h5),(sS1 h6),(sS1 h7),(sS1 l2),(sS1 l3),(sS1 l4),(sS1 l5),rfl⟩ sS sS (sS1 l6) sS
 ·rw [hbf,cond_false] at qr
  have qf:x / y=bif b == c then (q:Int) else -(q:Int):=by
   rw [ql]
   cases b with
   | false=>cases c<;>rfl
   | true =>
    rw [Bool.true_and] at hbf
    rw [hbf]
    cases c<;>simp
  refine ww_join (M:=fun s2=>s2.loc=st.loc∧I37 s u b c ⟨h.rows,none,h.mods⟩ s2) ?_ (fun s2 ⟨hloc,hI⟩=>hlast s2 sq (.bool bq) sr (.bool false) (by rw [qf];exact hq) (by rw [qr];exact hgI) hI (by rw [hloc];exact l6) (by rw [hloc];exact l7))
  cases b with
  | false =>
   refine ww_seq (ww_reg (fun n k=>by simp -implicitDefEqProofs (disch:=omega) only [go_sem,reduceIte,Nat.reduceEqDiff,h2,l2,ldc_snd L4];rfl) ?_)
   exact ww_false sS (ww_skip ⟨rfl,⟨(sS1 h2),(sS1 h3),(sS1 h4),(sS1 h5),(sS1 h6),(sS1 h7),l2,l3,l4,l5,hhp⟩⟩)
  | true =>
   rw [Bool.true_and,decide_eq_false_iff_not,←hgz] at hbf
   refine ww_seq (ww_reg (fun n k=>by simp -implicitDefEqProofs (disch:=omega) only [go_sem,reduceIte,Nat.reduceEqDiff,h2,h7,l2,l7,ldc_snd L4,ldc_fst L24,len_sl hsr,decide_eq_false hbf];rfl) ?_)
   exact ww_false sS (ww_skip ⟨rfl,⟨(sS1 h2),(sS1 h3),(sS1 h4),(sS1 h5),(sS1 h6),(sS1 h7),l2,l3,l4,l5,hhp⟩⟩)
end Go.AM.S
end
section
namespace Go.AM.S
open Go Go.AM Go.Proofs NumL
open _root_.Go.AM.G (R)
set_option maxRecDepth 100000
theorem tbl39:tbl 39=some ⟨rc39,[.cell 4 26]⟩:=by kernel_rfl
theorem abs_of {v:V} {s:V} {d f:List Nat} {b:Bool} {k:Nat} (hf:NI v f (false && !f.isEmpty)) (ht:Tr0 d f) (hl:d.length≤k):IsI k v ((vl B d:Nat):Int) :=
 ⟨f,_,hf,by rw [Bool.false_and];show ((vl B d:Nat):Int)=((vl B f:Nat):Int);rw [ht.vl],by have:=ht.len;omega⟩
theorem zv_abs (d:List Nat) (b:Bool):(zv d b).natAbs=vl B d:=by unfold zv;cases b<;>simp
theorem gcd_spec {k l:Nat} {va vb:V} {x y:Int} (ha:IsI k va x) (hb:IsI l vb y) (hk:k≤300000) (hl:l≤300000):Gives 39 [va,vb] fun r=>IsI (max k l) r ((Nat.gcd x.natAbs y.natAbs:Nat):Int):=by
 obtain ⟨d,b,⟨⟨s,rfl,hs⟩,dd,cd,h0⟩,rfl,hdl⟩:=ha
 obtain ⟨e,c,⟨⟨u,rfl,hu⟩,de,ce,he0⟩,rfl,hel⟩:=hb
 rw [zv_abs,zv_abs]
 refine gives_of tbl39 fun h Q hQ=>?_
 unfold rc39
 refine sRG ?_
 obtain ⟨r1,hr1,f1,hf1,ht1⟩:=made_spec hs dd (by omega) false ⟨h.rows,none,h.mods⟩
 obtain ⟨r2,hr2,f2,hf2,ht2⟩:=made_spec hu de (by omega) false ⟨h.rows,none,h.mods⟩
 have hI1:IsI (max k l) r1 ((vl B d:Nat):Int):=abs_of (s:=s) (b:=b) hf1 ht1 (by omega)
 have hI2:IsI (max k l) r2 ((vl B e:Nat):Int):=abs_of (s:=s) (b:=b) hf2 ht2 (by omega)
 obtain ⟨s1,b1,rfl,p1,x1,q1⟩:=hI1.form
 obtain ⟨s2,b2,rfl,p2,x2,q2⟩:=hI2.form
 refine ww_seq (ww_call (hr1.and hr2) (fun n hn k=>by simp -implicitDefEqProofs (disch:=omega) only [go_sem,reduceIte,Nat.reduceEqDiff,gt_start,List.getD_cons_zero,List.getD_cons_succ,ldc_fst L24,cld2 hn.1 hs.ex (Ex1.bool _) hs.quiet rfl,cld2 hn.2 hu.ex (Ex1.bool _) hu.quiet rfl,stc_two N26 1 s1 (.bool b1) s (.bool b) _ p1.ok rfl,stc_two N26 1 s2 (.bool b2) u (.bool c) _ p2.ok rfl];exact finD_ok (by kernel_rfl)) ?_)
 refine ww_seq (ww_for (fun m st=>∃ a sa ba sb bb,IsI (max k l) (.agg [sa,.bool ba]) ((a:Nat):Int)∧IsI (max k l) (.agg [sb,.bool bb]) ((m:Nat):Int)∧Nat.gcd a m=Nat.gcd (vl B d) (vl B e)∧gt st.tm 2=.ptr (.loc 2 1) 0∧gt st.tm 3=.ptr (.loc 3 1) 0∧gt st.tm 4=.ptr (.loc 4 1) 0∧lg st.loc 2=(1,.cells false [sa,.bool ba])∧lg st.loc 3=(1,.cells false [sb,.bool bb])∧lg st.loc 4=(1,.cells false [.nils,.bool false])∧st.hp=⟨h.rows,none,h.mods⟩) (vl B e) ⟨vl B d,s1,b1,s2,b2,hI1,hI2,rfl,sSG,sSG,sS,sS,sS,sS,rfl⟩ ?_)
 intro m st ⟨a,sa,ba,sb,bb,hA,hM,hg,h2,h3,h4,l2,l3,l4,hhp⟩
 obtain ⟨pa,xa,qa⟩:=hA.nn
 obtain ⟨pb,xb,qb⟩:=hM.nn
 have hM':=hM
 obtain ⟨f,b',⟨⟨sb',eb,hsb⟩,df,cf,hf0⟩,hmv,hfl⟩:=hM'
 obtain ⟨rfl,rfl⟩:sb=sb'∧bb=b':=by simpa using eb
 have hfm:vl B f=m:=by rw [←zv_abs f bb,←hmv];simp
 rcases Nat.eq_zero_or_pos f.length with e0 | e0
 ·have ef:f=[]:=List.length_eq_zero_iff.1 e0
  have hm0:m=0:=by rw [←hfm,ef];rfl
  refine ww_seq (ww_seq (ww_reg (fun n k=>by simp -implicitDefEqProofs (disch:=omega) only [go_sem,reduceIte,Nat.reduceEqDiff,h3,l3,ldc_fst L24,len_sl hsb,e0,d_false];rfl) ?_))
  refine ww_false sS (ww_exit ?_)
  rw [if_pos rfl]
  refine ww_seq (ww_reg (fun n k=>by simp -implicitDefEqProofs (disch:=omega) only [go_sem,reduceIte,Nat.reduceEqDiff,h2,l2,h4,l4,ldc_two L26,stc_two N26 1 sa (.bool ba) .nils (.bool false) _ pa.ok rfl];rfl) ?_)
  refine ww_ret (hQ _ _ (fin_cell (x:=sa) (y:=.bool ba) (f:=false) (d:=4) (g:=1) (by kernel_rfl) (sS1 h4) sS pa (Pl.bool _) (by rw [hhp])) ?_)
  rw [←hg,hm0,Nat.gcd_zero_right]
  exact hA
 ·have hm0:0<m:=by
   rw [←hfm]
   exact Nat.pos_of_ne_zero fun q=>by have:=(vl_zero cf).1 q;subst this;simp at e0
  refine ww_seq (ww_seq (ww_reg (fun n k=>by simp -implicitDefEqProofs (disch:=omega) only [go_sem,reduceIte,Nat.reduceEqDiff,h3,l3,ldc_fst L24,len_sl hsb,d_true];rfl) ?_))
  refine ww_true sS (ww_skip (ww_block ?_))
  obtain ⟨_,hq,v,w,rfl,hv,hw⟩:=quo_spec hA hM (by omega) (by omega) ⟨h.rows,none,h.mods⟩
  rw [if_neg (by omega),←Int.natCast_emod] at hw
  obtain ⟨sv,bv,rfl,pv,xv,_⟩:=hv.form
  obtain ⟨sw,bw,rfl,pw,xw,_⟩:=hw.form
  refine ww_seq (ww_call (hq) (fun n hn k=>by simp -implicitDefEqProofs (disch:=omega) only [go_sem,reduceIte,Nat.reduceEqDiff,h2,h3,l2,l3,hhp,ldc_two L26,clc2 hn xa xb,ext_tuple,stc_two N26 ((lg st.loc 5).1+1) sv (.bool bv) .nils (.bool false) _ pv.ok rfl,stc_two N26 ((lg st.loc 6).1+1) sw (.bool bw) .nils (.bool false) _ pw.ok rfl];rfl) ?_)
  refine ww_reg (fun n k=>by simp -implicitDefEqProofs (disch:=omega) only [go_sem,reduceIte,Nat.reduceEqDiff,h2,h3,l2,l3,ldc_two L26,stc_two N26 1 sb (.bool bb) sa (.bool ba) _ pb.ok rfl,stc_two N26 1 sw (.bool bw) sb (.bool bb) _ pw.ok rfl];exact finD_ok (by kernel_rfl)) ?_
  exact ⟨a % m,Nat.mod_lt _ hm0,m,sb,bb,sw,bw,hM,hw,by rw [←hg,Nat.gcd_comm a m,Nat.gcd_rec m a,Nat.gcd_comm],(sS1 h2),(sS1 h3),(sS1 h4),sS,sS,(sS1 l4),rfl⟩
end Go.AM.S
end
section
namespace Go.AM.S
open Go Go.AM Go.Proofs NumL
open _root_.Go.AM.G (R)
set_option maxRecDepth 100000
section
variable {P:Program} {C:Cfg} {gl:Nat→Bool} {o:Oper} {loc:Lo}
structure Fr (v:V) (k:IntKind) (l:List Nat):Prop where
 out:∃ v',Sl k v' l∧∀ st,AM.exp false st v=some (v',st)
 items:∀ st,itemsOf st v=some (nl k l)
theorem Fr.nils (k:IntKind):Fr .nils k []:=⟨⟨.nils,.inr ⟨rfl,rfl⟩,Pl.nils.ex⟩,fun _=>rfl⟩
theorem Fr.lit (k:IntKind) (l:List Nat) (f:Bool):Fr (.slice none f 1 (nl k l)) k l:=⟨⟨_,.inl ⟨f,rfl⟩,fun _=>rfl⟩,fun _=>rfl⟩
theorem Fr.tok (k:IntKind) (l:List Nat) (d g:Nat):Fr (.slice (some (.loc d g)) false 1 (nl k l)) k l:=⟨⟨.slice none false 1 (nl k l),.inl ⟨false,rfl⟩,fun _=>rfl⟩,fun _=>rfl⟩
theorem Sl.fr {k:IntKind} {v:V} {l:List Nat} (h:Sl k v l):Fr v k l:=by
 rcases h with ⟨f,rfl⟩ | ⟨rfl,rfl⟩
 ·exact Fr.lit k l f
 ·exact Fr.nils k
theorem gen_front {d x y t e b:Nat} (hi:ApI P o d x y t) (hA:C.isArr t=false) (hg:gl d=false) (he:elemT P t=some e) (hl:layE P e=some (1,false)) (hb:byteE P e=some b) (hxy:x≠y)
  {k:IntKind} {l ys:List Nat} {w:V} (hw:Fr w k ys) (hn:(l.length+ys.length)*b≤70368744177664) :
  ∃ v' loc',(∀ (call:CallF) (tm:Tm) (hp:Hp) (j:V→Lo→Hp→R),gen P C call gl o (pt (pt .lf x (.slice none true 1 (nl k l))) y w) tm loc hp j=j v' loc' hp)∧Fr v' k (l++ys)∧∀ i,i≠d→lg loc' i=lg loc i:=by
 obtain ⟨hd,c,ho,hc,ha,hty,hni⟩:=hi
 have hx:gt (pt (pt .lf x (.slice none true 1 (nl k l))) y w) x=.slice none true 1 (nl k l):=by rw [gt_pt,if_neg (Ne.symm hxy),gt_pt,if_pos rfl]
 have hy:gt (pt (pt .lf x (.slice none true 1 (nl k l))) y w) y=w:=by rw [gt_pt,if_pos rfl]
 have hp1:∀ (tm:Tm) hp,locV P C gl (⟨tm,loc,hp⟩:St).ρ (⟨tm,loc,hp⟩:St).lc o=none:=by
  intro tm hp
  unfold locV
  simp only [ho,pureV,hc,ha,Option.map_none]
 have hmb:∀ n,n≤70368744177664→Nat.ble n maxBytes=true:=fun n h=>by rw [Nat.ble_eq];exact h
 cases ys with
 | nil =>
  refine ⟨.slice none true 1 (nl k l),loc,fun call tm hp j=>gen_val (st:=⟨pt (pt .lf x (.slice none true 1 (nl k l))) y w,loc,hp⟩) hd ?_,by rw [List.append_nil];exact Fr.lit k l true,fun i _=>rfl⟩
  unfold stepV
  rw [hp1]
  unfold stepG
  simp only [ho,callS,hc,hty,hd,opds,ha,List.map_cons,List.map_nil,opd_gt,hx,hy,hni,cond_true,appendV,he,hl,hb,hw.items,fits_nl,Nat.beq_refl]
  rfl
 | cons y0 ys =>
  refine ⟨.slice (some (.loc d ((lg loc d).1+1))) false 1 (nl k (l++y0::ys)),lp loc d ((lg loc d).1+1,.tok),fun call tm hp j=>gen_val (st:=⟨pt (pt .lf x (.slice none true 1 (nl k l))) y w,lp loc d ((lg loc d).1+1,.tok),hp⟩) hd ?_,Fr.tok k _ _ _,fun i hi=>by rw [lg_lp,if_neg (Ne.symm hi)]⟩
  unfold stepV
  rw [hp1]
  unfold stepG
  simp only [ho,callS,hc,hty,hd,opds,ha,List.map_cons,List.map_nil,opd_gt,hx,hy,hni,cond_true,appendV,he,hl,hb,hw.items,fits_nl,Nat.beq_refl]
  show (bif Nat.ble (((nl k l).length+(nl k (y0::ys)).length)*b) maxBytes then _ else none)=_
  rw [nl_length,nl_length,hmb _ hn]
  simp only [cond_true,hA,cond_false,noRefsL_nl,growImm,hg,addRow,lc_lg,aset_lp,nl_append]
end
theorem f79_5_6 {loc:Lo} {n:Nat} {ys:List Nat} {w:V} (hw:Fr w .i64 ys) (hn:ys.length≤1000000):∃ v' loc',(∀ (c:CallF) (tm:Tm) (hp:Hp) (j:V→Lo→Hp→R),go2 Try.f79 79 5 6 23 24 (.slice none true 1 (nl .i64 [n])) w c tm loc hp j=j v' loc' hp)∧Fr v' .i64 (n::ys)∧∀ i,i≠25→lg loc' i=lg loc i :=
 gen_front (l:=[n]) i79_5_6 (by kernel_rfl) (by kernel_rfl) (e:=3) (by kernel_rfl) (by kernel_rfl) (b:=8) (by kernel_rfl) (by decide) hw (by simp;omega)
theorem f79_12_3 {loc:Lo} {n:Nat} {ys:List Nat} {w:V} (hw:Fr w .i64 ys) (hn:ys.length≤1000000):∃ v' loc',(∀ (c:CallF) (tm:Tm) (hp:Hp) (j:V→Lo→Hp→R),go2 Try.f79 79 12 3 45 46 (.slice none true 1 (nl .i64 [n])) w c tm loc hp j=j v' loc' hp)∧Fr v' .i64 (n::ys)∧∀ i,i≠47→lg loc' i=lg loc i :=
 gen_front (l:=[n]) i79_12_3 (by kernel_rfl) (by kernel_rfl) (e:=3) (by kernel_rfl) (by kernel_rfl) (b:=8) (by kernel_rfl) (by decide) hw (by simp;omega)
theorem tbl79:tbl 79=some ⟨rc79,[.tmp 4,.tmp 5]⟩:=by kernel_rfl
theorem fin_fr_two {h:Hp} {a b:Nat} {k:IntKind} {l:List Nat} {s:St} {v w:V} (hv:gt s.tm a=v) (fv:Fr v k l) (hw:gt s.tm b=w) (pw:Ex1 w) (rw':w.noRefs=true) (hd:DG h.rows.length s.hp) :
  ∃ v',Sl k v' l∧fin Pg h [.tmp a,.tmp b] s=some (.val (.tuple [v',w]) h):=by
 obtain ⟨v',hs,he⟩:=fv.out
 refine ⟨v',hs,?_⟩
 unfold fin
 have e1:resV Pg s [.tmp a,.tmp b]=some [v,w]:=by simp only [resV,rho_gt,hv,hw,Option.map_some]
 rw [e1]
 have e2:exps false s [v,w]=some ([v',w],s):=by
  rw [show ∀ (st:St) (v:V) (r:List V),exps false st (v::r)=(match exp false st v with
   | none=>none
   | some (v',st')=>match exps false st' r with
    | none=>none
    | some (l',st'')=>some (v'::l',st'')) from fun _ _ _=>rfl]
  rw [he s]
  simp only [exps_ex [w] _ ⟨pw,trivial⟩]
 simp only [e2]
 show some (Out.val (.tuple [v',w]) (backHp h s.hp [v',w]))=_
 unfold backHp
 rw [clean_dg hd]
 have hr:=hs.noRefs
 simp only [V.noRefsL,hr,rw',Bool.and_self,cond_true]
theorem bin_leq0 (x y:Nat):bin Pg .leq 3 true (.int .i64 (cmpI x y)) (.int .i64 (.ofNat 0))=some (.bool (decide (x≤y))):=by
 unfold cmpI
 rcases Nat.lt_trichotomy x y with h | h | h
 ·rw [if_pos h,decide_eq_true (Nat.le_of_lt h)];rfl
 ·rw [if_neg (by omega),if_neg (by omega),decide_eq_true (Nat.le_of_eq h)];rfl
 ·rw [if_neg (by omega),if_pos h,decide_eq_false (by omega)];rfl
structure I79 (va vb vq vr:V) (i:Int) (h:Hp) (s:St):Prop where
 h0:gt s.tm 0=va
 h1:gt s.tm 1=vb
 h6:gt s.tm 6=vq
 h7:gt s.tm 7=vr
 h8:gt s.tm 8=.int .i64 i
 hp:s.hp=h
theorem part_spec {va vb:V} {a b:List Nat} (ha:Sl .i64 va a) (hb:Sl .i64 vb b) (da:Dg 10000 a) (db:Dg 10000 b) (cb:Cn b) (hne:b≠[]) (la:a.length≤100000) (lb:b.length≤100000) :
  Gives 79 [va,vb] fun r=>∃ s t d e,r=.tuple [s,t]∧Sl .i64 s d∧Sl .i64 t e∧Dg 10000 d∧Dg 10000 e∧Cn e∧vl 10000 d*vl 10000 b+vl 10000 e=vl 10000 a∧vl 10000 e<vl 10000 b∧d.length=a.length:=by
 have hpos:=vl_pos_of (B:=10000) cb hne (by decide)
 refine gives_of tbl79 fun h Q hQ=>?_
 unfold rc79
 refine sR ?_
 refine sR ?_
 refine ww_seq (ww_seq (ww_reg (fun n k=>by simp -implicitDefEqProofs (disch:=omega) only [go_sem,reduceIte,Nat.reduceEqDiff,gt_start,List.getD_cons_zero,List.getD_cons_succ,len_sl ha,i_dec];rfl) ?_))
 refine ww_for (fun m s=>∃ q r vq vr,m≤a.length∧I79 va vb vq vr (dn m) ⟨h.rows,none,h.mods⟩ s∧Fr vq .i64 q∧Sl .i64 vr r∧Dg 10000 q∧Dg 10000 r∧Cn r∧q.length+m=a.length∧vl 10000 (a.drop m)=vl 10000 b*vl 10000 q+vl 10000 r∧vl 10000 r<vl 10000 b) a.length ⟨[],[],.nils,.nils,Nat.le_refl _,⟨sSG,sSG,sS,sS,sS,rfl⟩,Fr.nils _,.inr ⟨rfl,rfl⟩,Dg.nil _,Dg.nil _,fun i hi=>by simp at hi,by simp,by rw [List.drop_length];simp [vl],by simpa [vl] using hpos⟩ ?_
 intro m s ⟨q,r,vq,vr,hm,⟨h0,h1,h6,h7,h8,hhp⟩,fq,sr,dq,dr,cr,hql,hv,hlt⟩
 have hrl:=len_le (B:=10000) (by decide) db cr (Nat.le_of_lt hlt)
 cases m with
 | zero =>
  refine ww_seq (ww_seq (ww_reg (fun n k=>by simp -implicitDefEqProofs (disch:=omega) only [go_sem,reduceIte,Nat.reduceEqDiff,h8,dn];rfl) ?_))
  refine ww_false sS (ww_exit ?_)
  rw [if_pos rfl]
  refine sR2 h6 h7 ?_
  obtain ⟨v',hs',hf⟩:=fin_fr_two (h:=h) (a:=4) (b:=5) (k:=.i64) (l:=q) (s:=⟨pt (pt (pt s.tm 16 (.bool false)) 4 vq) 5 vr,s.loc,s.hp⟩) (v:=vq) (w:=vr) sS fq sS sr.ex sr.noRefs (by rw [hhp];exact fun x hx=>by cases hx)
  exact ww_ret (hQ _ _ hf ⟨_,_,q,r,rfl,hs',sr,dq,dr,cr,by rw [Nat.mul_comm];simpa using hv.symm,hlt,by omega⟩)
 | succ i =>
  have h8':gt s.tm 8=.int .i64 (.ofNat i):=h8
  have hx:a.getD i 0<10000:=da.get (by decide) i
  refine ww_seq (ww_seq (ww_reg (fun n k=>by simp -implicitDefEqProofs (disch:=omega) only [go_sem,reduceIte,Nat.reduceEqDiff,h8',d_true];rfl) ?_))
  refine ww_true sS (ww_skip ?_)
  refine ww_seq (ww_block ?_)
  obtain ⟨v5,l5,happ,fv5,hfr5⟩:=f79_5_6 (loc:=s.loc) (n:=a.getD i 0) sr.fr (by omega)
  obtain ⟨w5,sw5,ew5⟩:=fv5.out
  have d5:Dg 10000 (a.getD i 0::r):=fun x hx'=>by
   rcases List.mem_cons.1 hx' with e | e
   ·rw [e];exact hx
   ·exact dr x e
  obtain ⟨_,ht,r2,⟨⟨vr2,rfl,sr2⟩,dr2,cr2,_⟩,tr2⟩:=trim_spec sw5 d5 (by simp;omega) false ⟨h.rows,none,h.mods⟩
  have vr2v:vl 10000 r2=a.getD i 0+10000*vl 10000 r:=tr2.vl 10000
  have hrl2:r2.length≤b.length+1:=by have:=tr2.len;simp at this;omega
  have hlt2:vl 10000 r2<vl 10000 b*10000:=by
   rw [vr2v]
   have:=Nat.mul_le_mul_left 10000 hlt
   rw [Nat.mul_succ] at this
   omega
  refine ww_seq (ww_call (ht) (fun n hn k=>by simp -implicitDefEqProofs (disch:=omega) only [go_sem,reduceIte,Nat.reduceEqDiff,h0,h7,h8',hhp,ia29 ha,bs29,happ,clx2 (Ex1.bool _) ew5 hn,fld31];rfl) ?_)
  refine sR ?_
  refine ww_join (M:=fun s1=>∃ lo,lo<10000∧vl 10000 b*lo≤vl 10000 r2∧vl 10000 r2<vl 10000 b*(lo+1)∧gt s1.tm 9=.int .i64 (.ofNat lo)∧I79 va vb vq vr2 (.ofNat i) ⟨h.rows,none,h.mods⟩ s1) ?_ ?_
  ·refine ww_for (fun m s1=>∃ lo hi,m+lo=hi∧lo<hi∧hi≤10000∧vl 10000 b*lo≤vl 10000 r2∧vl 10000 r2<vl 10000 b*hi∧gt s1.tm 9=.int .i64 (.ofNat lo)∧gt s1.tm 10=.int .i64 (.ofNat hi)∧I79 va vb vq vr2 (.ofNat i) ⟨h.rows,none,h.mods⟩ s1) 10000 ⟨0,10000,rfl,by decide,Nat.le_refl _,by simp,hlt2,sS,sS,⟨(sS1 h0),(sS1 h1),(sS1 h6),sS,(sS1 h8'),rfl⟩⟩ ?_
   intro m s1 ⟨lo,hi,hml,hlh,hhi,hle,hgt,g9,g10,⟨i0,i1,i6,i7,i8,ihp⟩⟩
   refine sQ2 g9 g10 ?_
   refine ww_if (by simp only [gt_pt,reduceIte];rfl) (fun hc=>ww_skip ?_) (fun hc=>ww_exit ?_)
   ·have hmid:(lo+hi) / 2<10000:=by omega
    refine ww_block ?_
    refine sR2 g9 g10 ?_
    obtain ⟨tv,htm,c,sc,dc,cc,vc,lc⟩:=times_spec hb db (by omega) hmid ⟨h.rows,none,h.mods⟩
    obtain ⟨_,hls,rfl⟩:=lessR_spec sc sr2 dc dr2 cc cr2 (by omega) (by omega) ⟨h.rows,none,h.mods⟩
    refine ww_seq (ww_call (htm.and hls) (fun n hn k=>by simp -implicitDefEqProofs (disch:=omega) only [go_sem,reduceIte,Nat.reduceEqDiff,i1,i7,ihp,clc2 hn.1 hb.ex (Ex1.int _ _),clc2 hn.2 sc.ex sr2.ex,bin_leq0];rfl) ?_)
    refine ww_if (by simp only [gt_pt,reduceIte];rfl) (fun hx=>?_) (fun hx=>?_)
    ·refine sE ?_
     exact ⟨hi - (lo+hi) / 2,by omega,(lo+hi) / 2,hi,by omega,by omega,hhi,by rw [←vc];exact hx,hgt,sS,(sS1 g10),⟨(sS1 i0),(sS1 i1),(sS1 i6),(sS1 i7),(sS1 i8),rfl⟩⟩
    ·refine sE ?_
     exact ⟨(lo+hi) / 2 - lo,by omega,lo,(lo+hi) / 2,by omega,by omega,by omega,hle,by rw [←vc];omega,(sS1 g9),sS,⟨(sS1 i0),(sS1 i1),(sS1 i6),(sS1 i7),(sS1 i8),rfl⟩⟩
   ·rw [if_pos rfl]
    have e1:hi=lo+1:=by omega
    subst e1
    exact ⟨lo,by omega,hle,hgt,(sS1 g9),⟨(sS1 i0),(sS1 i1),(sS1 i6),(sS1 i7),(sS1 i8),ihp⟩⟩
  ·intro s1 ⟨lo,hlo,hle,hgt,g9,⟨i0,i1,i6,i7,i8,ihp⟩⟩
   obtain ⟨v6,l6,happ6,fv6,hfr6⟩:=f79_12_3 (loc:=s1.loc) (n:=lo) fq (by omega)
   refine ww_seq (ww_reg (fun n k=>by simp -implicitDefEqProofs (disch:=omega) only [go_sem,reduceIte,Nat.reduceEqDiff,g9,i6,bs29,happ6];rfl) ?_)
   obtain ⟨tv,htm,c,sc,dc,cc,vc,lc⟩:=times_spec hb db (by omega) hlo ⟨h.rows,none,h.mods⟩
   have hcl:c.length≤r2.length:=len_le (B:=10000) (by decide) dr2 cc (by rw [vc];exact hle)
   obtain ⟨mv,hmi,m2,sm,dm,vm,lm⟩:=minusR_spec sr2 sc dr2 dc (by omega) hcl (by rw [vc];exact hle) ⟨h.rows,none,h.mods⟩
   obtain ⟨_,ht3,r3,⟨⟨vr3,rfl,sr3⟩,dr3,cr3,_⟩,tr3⟩:=trim_spec sm dm (by omega) false ⟨h.rows,none,h.mods⟩
   refine ww_call ((htm.and hmi).and ht3) (fun n hn k=>by simp -implicitDefEqProofs (disch:=omega) only [go_sem,reduceIte,Nat.reduceEqDiff,i1,i7,g9,ihp,clc2 hn.1.1 hb.ex (Ex1.int _ _),clc2 hn.1.2 sr2.ex sc.ex,clc2 hn.2 (Ex1.bool _) sm.ex,fld31];rfl) ?_
   refine ww_reg (fun n k=>by simp -implicitDefEqProofs (disch:=omega) only [go_sem,reduceIte,Nat.reduceEqDiff,i8,i_dec];rfl) ?_
   have v3:vl 10000 r3=vl 10000 m2:=tr3.vl 10000
   rw [vc] at vm
   refine ⟨i,by omega,lo::q,r3,v6,vr3,by omega,⟨(sS1 i0),(sS1 i1),sS,sS,sS,rfl⟩,fv6,sr3,(fun x hx'=>by rcases List.mem_cons.1 hx' with e | e;rw [e];exact hlo;exact dq x e),dr3,cr3,by simp;omega,?_,?_⟩
   ·rw [vl_drop_cons 10000 a i (by omega),hv,v3]
    simp only [vl,Nat.mul_add]
    have e1:10000*(vl 10000 b*vl 10000 q)=vl 10000 b*(10000*vl 10000 q):=by rw [←Nat.mul_assoc,←Nat.mul_assoc,Nat.mul_comm 10000]
    omega
   ·rw [v3]
    rw [Nat.mul_add,Nat.mul_one] at hgt
    omega
end Go.AM.S
end
section
namespace Go.AM.S
open Go Go.AM Go.Proofs NumL
open _root_.Go.AM.G (R)
set_option maxRecDepth 100000
theorem iZ_eql (k:IntKind) (x:Int):G.int2 .eql k x x=some (.bool true):=by
 show some (V.bool (F.eqI x x))=_
 rw [F.eqI_eq]
 simp
end Go.AM.S
end
section
namespace Go.AM.S
open Go Go.AM Go.Proofs NumL
open _root_.Go.AM.G (R)
set_option maxRecDepth 100000
end Go.AM.S
end
section
namespace Go.AM.S
open Go Go.AM Go.Proofs NumL
open _root_.Go.AM.G (R)
set_option maxRecDepth 100000
theorem cmpZ_self (x:Int):cmpZ x x=.ofNat 0:=by unfold cmpZ;rw [if_neg (by omega),if_neg (by omega)]
theorem sgn_zero {x:Int} (h:x=0):sgn x=.ofNat 0:=by rw [h];rfl
theorem wv_tup (w:Bool):wv (.tuple []) w=some false:=rfl
theorem ww_at {c:RC} {s:St} {N:St→Prop} {X:Nat→St→Prop} {Q:St→Prop} {hp:Hp} (M:Tm→Lo→Prop) (hh:s.hp=hp) (hs:M s.tm s.loc) (h:∀ tm loc,M tm loc→WW Pg kn0 tbl c ⟨tm,loc,hp⟩ N X Q):WW Pg kn0 tbl c s N X Q:=by
 subst hh;exact h s.tm s.loc hs
theorem sgn_pos {x:Int} (h:0<x):sgn x=.ofNat 1:=by unfold sgn cmpZ;rw [if_neg (by omega),if_pos h]
end Go.AM.S
end
section
namespace Go.AM.S
open Go Go.AM Go.Proofs NumL
open _root_.Go.AM.G (R)
set_option maxRecDepth 100000
section
variable {C:Cfg} {P:Program} {call:CallF} {gl:Nat→Bool} {o:Oper} {t' tm:Tm} {loc:Lo} {hp:Hp}
theorem genD_alloc {d n:Nat} {t:TypeId} {z:V} {J:JD} {X:XD} (hd:o.dst=some d) (ho:o.op=.alloc t) (hg:gl d=false) (hz:zeroV P t=some z) (hn:szOf P t=some n) (hl:z.live=true) (hc:z.cells.length=n) :
  genD P C call gl o t' loc hp J X=J (.ptr (.loc d ((lg loc d).1+1)) 0) ⟨[d],[d],false,false,false,false⟩ (lp loc d ((lg loc d).1+1,.cells false z.cells)) hp:=by
 have hp1:locV P C gl (⟨t',loc,hp⟩:St).ρ (⟨t',loc,hp⟩:St).lc o=some (.ptr (.loc d ((lg loc d).1+1)) 0,some (d,(lg loc d).1+1,.cells false z.cells)):=by
  unfold locV
  simp only [ho,hd,hg,cond_false,hz,hn,hl,hc,Nat.beq_refl,Bool.and_self,cond_true,lc_lg]
 have hf:footV P C gl (⟨t',loc,hp⟩:St).ρ (⟨t',loc,hp⟩:St).lc o=some ⟨[d],[d],false,false,false,false⟩:=by
  unfold footV
  rw [hp1]
 have hs:stepV P C gl ⟨t',loc,hp⟩ o=some (.val (.ptr (.loc d ((lg loc d).1+1)) 0) ⟨t',lp loc d ((lg loc d).1+1,.cells false z.cells),hp⟩):=by
  unfold stepV
  rw [hp1]
  simp only [applyL,aset_lp]
 unfold genD
 rw [F.e_footV,F.e_oneV,F.e_rho,F.e_lcf,hf]
 show G.onSome (oneV P C call gl ⟨t',loc,hp⟩ o) _ none=_
 unfold oneV
 rw [hs]
 have e1:F.settle hp hp ⟨[d],[d],false,false,false,false⟩ = ⟨[d],[d],false,false,false,false⟩:=by
  unfold F.settle
  rw [Nat.beq_refl,Nat.beq_refl];rfl
 simp only [putV,hd]
 show J (gt (aset t' d (.ptr (.loc d ((lg loc d).1+1)) 0)) d) (F.settle hp hp ⟨[d],[d],false,false,false,false⟩) (lp loc d ((lg loc d).1+1,.cells false z.cells)) hp=_
 rw [gt_eq,aget_aset,if_pos rfl,e1]
end
end Go.AM.S
end
section
namespace Go.AM.S
open Go Go.AM Go.Proofs NumL
open _root_.Go.AM.G (R)
set_option maxRecDepth 100000
section
variable {C:Cfg} {P:Program} {call:CallF} {gl:Nat→Bool} {o:Oper} {t' tm:Tm} {loc:Lo} {hp:Hp}
theorem locV_two {t:TypeId} {a b:Operand} {z0 z1 v w:V} {ρ:Nat→V} {lc:Nat→Nat × Row} (ho:o.op=.build t #[(0,a),(1,b)]) (h2:two P t=true) (hz:zeroV P t=some (.agg [z0,z1]))
  (ha:AM.opd ρ a=v) (hb:AM.opd ρ b=w) (hv:Pl v) (hw:Pl w):locV P C gl ρ lc o=some (.agg [v,w],none):=by
 unfold two at h2
 split at h2
 ·rename_i fs hu
  split at h2
  ·rename_i f0 f1 hfs
   simp only [Bool.and_eq_true] at h2
   obtain ⟨⟨a0,a1⟩,a2⟩:=h2
   have e:fs = #[f0,f1]:=by apply Array.toList_inj.1;rw [hfs]
   subst e
   split at a2
   ·rename_i na nb s0 s1
    simp only [Bool.and_eq_true] at a2
    have b1:na=1:=Nat.eq_of_beq_eq_true a2.1
    have b2:nb=1:=Nat.eq_of_beq_eq_true a2.2
    subst b1;subst b2
    have o0:=Nat.eq_of_beq_eq_true a0;have o1:=Nat.eq_of_beq_eq_true a1
    have i0:(P.info? f0.type).isSome=true:=by
     unfold szOf at s0
     cases h:P.info? f0.type with
     | none=>rw [h] at s0;simp at s0
     | some i=>rfl
    have i1:(P.info? f1.type).isSome=true:=by
     unfold szOf at s1
     cases h:P.info? f1.type with
     | none=>rw [h] at s1;simp at s1
     | some i=>rfl
    have e0:fieldOf P t 0=some f0:=by unfold fieldOf;rw [hu];rfl
    have e1:fieldOf P t 1=some f1:=by unfold fieldOf;rw [hu];rfl
    unfold locV
    simp only [ho,pureV,hu,hz,V.live,Bool.true_and]
    have ea:(#[f0,f1]:Array Field).all (fun f=>(P.info? f.type).isSome)=true:=by simp [i0,i1]
    rw [ea]
    have c0:V.cells (.agg [z0,z1])=[z0,z1]:=rfl
    simp only [cond_true,fillP,e0,e1,ha,hb,hv.weak,hw.weak,hv.plain,hw.plain,hv.cells,hw.cells,s0,s1,o0,o1,Option.getD_some,List.length_cons,List.length_nil,c0]
    rfl
   ·simp at a2
  ·simp at h2
 ·simp at h2
theorem gen_loc {d:Nat} {v:V} {j:V→Lo→Hp→R} (hd:o.dst=some d) (h:locV P C gl (⟨t',loc,hp⟩:St).ρ (⟨t',loc,hp⟩:St).lc o=some (v,none)):gen P C call gl o t' tm loc hp j=j v loc hp:=by
 refine gen_val (v:=v) (st:=⟨t',loc,hp⟩) hd ?_
 unfold stepV
 rw [h];rfl
end
theorem db38_2_0 (c:CallF) (t:Tm) (l:Lo) (h:Hp) (J:JD) (X:XD):gD Try.f38 38 2 0 c t l h J X=J (.agg [.bool false,.nils]) ⟨[],[],false,false,false,false⟩ l h :=
 genD_pure (C:=Cg) (gl:=Cg.glob 38) (call:=c) (o:=opA Try.f38 2 0) (d:=14) (t:=31) (l:=#[]) (by kernel_rfl) (by kernel_rfl) (by kernel_rfl)
theorem da38_4_11 (c:CallF) (t:Tm) (l:Lo) (h:Hp) (J:JD) (X:XD):gD Try.f38 38 4 11 c t l h J X=J (.ptr (.loc 8 ((lg l 8).1+1)) 0) ⟨[8],[8],false,false,false,false⟩ (lp l 8 ((lg l 8).1+1,.cells false [.bool false,.nils])) h :=
 genD_alloc (C:=Cg) (gl:=Cg.glob 38) (call:=c) (o:=opA Try.f38 4 11) (d:=8) (t:=31) (n:=2) (z:=.agg [.bool false,.nils]) (by kernel_rfl) (by kernel_rfl) (by kernel_rfl) (by kernel_rfl) (by kernel_rfl) rfl rfl
theorem da38_4_12 (c:CallF) (t:Tm) (l:Lo) (h:Hp) (J:JD) (X:XD):gD Try.f38 38 4 12 c t l h J X=J (.ptr (.loc 9 ((lg l 9).1+1)) 0) ⟨[9],[9],false,false,false,false⟩ (lp l 9 ((lg l 9).1+1,.cells false [.bool false,.nils])) h :=
 genD_alloc (C:=Cg) (gl:=Cg.glob 38) (call:=c) (o:=opA Try.f38 4 12) (d:=9) (t:=31) (n:=2) (z:=.agg [.bool false,.nils]) (by kernel_rfl) (by kernel_rfl) (by kernel_rfl) (by kernel_rfl) (by kernel_rfl) rfl rfl
theorem bt38_6_3 {v:V} (hv:Pl v) (c:CallF) (t' t:Tm) (l:Lo) (h:Hp) (j:V→Lo→Hp→R):gn Try.f38 38 6 3 c (pt t' 39 v) t l h j=j (.agg [.bool false,v]) l h :=
 gen_loc (C:=Cg) (gl:=Cg.glob 38) (call:=c) (o:=opA Try.f38 6 3) (d:=40) (by kernel_rfl) (locV_two (a:=.const (.bool false)) (b:=.tmp 39) (by kernel_rfl) (by kernel_rfl) (show zeroV Pg 31=some (.agg [.bool false,.nils]) by kernel_rfl) rfl (by rw [opd_gt,gt_pt,if_pos rfl]) (Pl.bool _) hv)
theorem bt40_1_2 {v:V} (hv:Pl v) (c:CallF) (t:Tm) (l:Lo) (h:Hp) (J:JD) (X:XD):gD Try.f40 40 1 2 c (pt t 10 v) l h J X=J (.agg [.bool false,v]) ⟨[],[],false,false,false,false⟩ l h :=
 genD_pure (C:=Cg) (gl:=Cg.glob 40) (call:=c) (o:=opA Try.f40 1 2) (d:=11) (t:=31) (l:=#[(0,.const (.bool false)),(1,.tmp 10)]) (by kernel_rfl) (by kernel_rfl) (locV_two (a:=.const (.bool false)) (b:=.tmp 10) (by kernel_rfl) (by kernel_rfl) (show zeroV Pg 31=some (.agg [.bool false,.nils]) by kernel_rfl) rfl (by rw [opd_gt,gt_pt,if_pos rfl]) (Pl.bool _) hv)
theorem bt40_1_5 {v:V} (hv:Pl v) (c:CallF) (t:Tm) (l:Lo) (h:Hp) (J:JD) (X:XD):gD Try.f40 40 1 5 c (pt t 13 v) l h J X=J (.agg [.bool false,v]) ⟨[],[],false,false,false,false⟩ l h :=
 genD_pure (C:=Cg) (gl:=Cg.glob 40) (call:=c) (o:=opA Try.f40 1 5) (d:=14) (t:=31) (l:=#[(0,.const (.bool false)),(1,.tmp 13)]) (by kernel_rfl) (by kernel_rfl) (locV_two (a:=.const (.bool false)) (b:=.tmp 13) (by kernel_rfl) (by kernel_rfl) (show zeroV Pg 31=some (.agg [.bool false,.nils]) by kernel_rfl) rfl (by rw [opd_gt,gt_pt,if_pos rfl]) (Pl.bool _) hv)
theorem da40_1_6 (c:CallF) (t:Tm) (l:Lo) (h:Hp) (J:JD) (X:XD):gD Try.f40 40 1 6 c t l h J X=J (.ptr (.loc 5 ((lg l 5).1+1)) 0) ⟨[5],[5],false,false,false,false⟩ (lp l 5 ((lg l 5).1+1,.cells false [.bool false,.nils])) h :=
 genD_alloc (C:=Cg) (gl:=Cg.glob 40) (call:=c) (o:=opA Try.f40 1 6) (d:=5) (t:=31) (n:=2) (z:=.agg [.bool false,.nils]) (by kernel_rfl) (by kernel_rfl) (by kernel_rfl) (by kernel_rfl) (by kernel_rfl) rfl rfl
theorem da40_1_7 (c:CallF) (t:Tm) (l:Lo) (h:Hp) (J:JD) (X:XD):gD Try.f40 40 1 7 c t l h J X=J (.ptr (.loc 6 ((lg l 6).1+1)) 0) ⟨[6],[6],false,false,false,false⟩ (lp l 6 ((lg l 6).1+1,.cells false [.bool false,.nils])) h :=
 genD_alloc (C:=Cg) (gl:=Cg.glob 40) (call:=c) (o:=opA Try.f40 1 7) (d:=6) (t:=31) (n:=2) (z:=.agg [.bool false,.nils]) (by kernel_rfl) (by kernel_rfl) (by kernel_rfl) (by kernel_rfl) (by kernel_rfl) rfl rfl
theorem IsR.shrink {k l:Nat} {v:V} {z:Int} (h:IsR k v z) (hz:z.natAbs<10000 ^ l):IsR l v z:=by
 obtain ⟨d,b,⟨hv,dd,cd,h0⟩,rfl,hl⟩:=h
 refine ⟨d,b,⟨hv,dd,cd,h0⟩,rfl,?_⟩
 rcases Nat.lt_or_ge l d.length with h1 | h1
 ·exfalso
  have h2:=vl_ge (B:=10000) cd (by intro e;subst e;simp at h1)
  have h3:(zr d b).natAbs=vl 10000 d:=by unfold zr;cases b<;>simp
  rw [h3] at hz
  have h4:10000 ^ l≤10000 ^ (d.length - 1):=Nat.pow_le_pow_right (by decide) (by omega)
  omega
 ·exact h1
theorem zr_abs (d:List Nat) (b:Bool):(zr d b).natAbs=vl 10000 d:=by unfold zr;cases b<;>simp
theorem IsR.abs_lt {k:Nat} {v:V} {z:Int} (h:IsR k v z):z.natAbs<10000 ^ k:=by
 obtain ⟨d,b,⟨hv,dd,cd,h0⟩,rfl,hl⟩:=h
 rw [zr_abs]
 exact vl_lt_of (by decide) dd hl
theorem IsR.nn {k:Nat} {s:V} {b:Bool} {z:Int} (h:IsR k (.agg [.bool b,s]) z):Pl s∧Ex1 (.agg [.bool b,s])∧AM.quiet (.agg [.bool b,s])=true:=by
 obtain ⟨s',b',e,p,x,q⟩:=h.form
 have e':b=b'∧s=s':=by simpa using e
 obtain ⟨rfl,rfl⟩:=e'
 exact ⟨p,x,q⟩
end Go.AM.S
end
section
namespace Go.AM.S
open Go Go.AM Go.Proofs NumL
open _root_.Go.AM.G (R)
set_option maxRecDepth 100000
theorem tbl38:tbl 38=some ⟨rc38,[.cell 4 31,.cell 5 31]⟩:=by kernel_rfl
theorem fin_cells2R {h:Hp} {a d g a2 d2 g2:Nat} {f f2:Bool} {s:St} {x y x2 y2:V} (hv:gt s.tm a=.ptr (.loc d g) 0) (hv2:gt s.tm a2=.ptr (.loc d2 g2) 0) (hr:lg s.loc d=(g,.cells f [x,y])) (hr2:lg s.loc d2=(g2,.cells f2 [x2,y2])) (hx:Pl x) (hy:Pl y) (hx2:Pl x2) (hy2:Pl y2) (hc:DG h.rows.length s.hp) :
  fin Pg h [.cell a 31,.cell a2 31] s=some (.val (.tuple [.agg [x,y],.agg [x2,y2]]) h):=fin_cells2 (by kernel_rfl) (by kernel_rfl) hv hv2 hr hr2 hx hy hx2 hy2 hc
structure I38 (s u:V) (b c:Bool) (h:Hp) (tm:Tm) (loc:Lo):Prop where
 h2:gt tm 2=.ptr (.loc 2 1) 0
 h3:gt tm 3=.ptr (.loc 3 1) 0
 h4:gt tm 4=.ptr (.loc 4 1) 0
 h5:gt tm 5=.ptr (.loc 5 1) 0
 h8:gt tm 8=.ptr (.loc 8 1) 0
 h9:gt tm 9=.ptr (.loc 9 1) 0
 l2:lg loc 2=(1,.cells false [.bool b,s])
 l3:lg loc 3=(1,.cells false [.bool c,u])
 l4:lg loc 4=(1,.cells false [.bool false,.nils])
 l5:lg loc 5=(1,.cells false [.bool false,.nils])
theorem quoR_spec {k l:Nat} {va vb:V} {x y:Int} (ha:IsR k va x) (hb:IsR l vb y) (hk:k≤90000) (hl:l≤90000):Gives 38 [va,vb] fun r=>∃ v w,r=.tuple [v,w]∧IsR k v (x / y)∧IsR (if y=0 then k else l) w (x % y):=by
 have ha0:=ha
 have hb0:=hb
 obtain ⟨d,b,⟨⟨s,rfl,hs⟩,dd,cd,h0⟩,hx,hdl⟩:=ha
 obtain ⟨e,c,⟨⟨u,rfl,hu⟩,de,ce,he0⟩,hy,hel⟩:=hb
 refine gives_of tbl38 fun h Q hQ=>?_
 unfold rc38
 refine sRG ?_
 have fin:∀ (st:St) (v0 v1 w0 w1:V) ,IsR k (.agg [v0,v1]) (x / y)→IsR (if y=0 then k else l) (.agg [w0,w1]) (x % y)→gt st.tm 4=.ptr (.loc 4 1) 0→gt st.tm 5=.ptr (.loc 5 1) 0→lg st.loc 4=(1,.cells false [v0,v1])→lg st.loc 5=(1,.cells false [w0,w1])→st.hp=⟨h.rows,none,h.mods⟩→Q st:=by
  intro st v0 v1 w0 w1 hv hw h4 h5 l4 l5 hh
  obtain ⟨sv,bv,e1,pv,_,_⟩:=hv.form
  obtain ⟨sw,bw,e2,pw,_,_⟩:=hw.form
  obtain ⟨rfl,rfl⟩:v0=.bool bv∧v1=sv:=by simpa using e1
  obtain ⟨rfl,rfl⟩:w0=.bool bw∧w1=sw:=by simpa using e2
  exact hQ _ _ (fin_cells2R (x:=.bool bv) (y:=v1) (x2:=.bool bw) (y2:=w1) (d:=4) (g:=1) (d2:=5) (g2:=1) (f:=false) (f2:=false) h4 h5 l4 l5 (Pl.bool _) pv (Pl.bool _) pw (by rw [hh];exact fun x hx=>by cases hx)) ⟨_,_,rfl,hv,hw⟩
 rcases Nat.eq_zero_or_pos e.length with ee | ee
 ·have e0:e=[]:=List.length_eq_zero_iff.1 ee
  have hy0:y=0:=by rw [hy,e0,he0 e0];rfl
  refine ww_seq (ww_seq (ww_reg (fun n k=>by simp -implicitDefEqProofs (disch:=omega) only [go_sem,reduceIte,Nat.reduceEqDiff,gt_start,List.getD_cons_zero,List.getD_cons_succ,ldc_snd L29,len_sl hu,ee,d_true];rfl) ?_))
  refine ww_true sS ?_
  refine ww_seq (ww_reg (fun n k=>by simp -implicitDefEqProofs (disch:=omega) only [go_sem,reduceIte,Nat.reduceEqDiff,gt_start,List.getD_cons_zero,List.getD_cons_succ,db38_2_0,ldc_two L31,stc_two N31 1 (.bool false) .nils (.bool false) .nils _ rfl rfl,stc_two N31 1 (.bool b) s (.bool false) .nils _ rfl hs.pl.ok];exact finD_ok (by kernel_rfl)) ?_)
  refine ww_ret (fin _ (.bool false) .nils (.bool b) s ?_ ?_ sS sS sS sS rfl)
  ·rw [hy0,Int.ediv_zero];exact zeroR.mono (Nat.zero_le _)
  ·rw [hy0,Int.emod_zero,if_pos rfl];exact ha0
 have hne:e≠[]:=fun q=>by subst q;simp at ee
 have hE:=vl_pos_of (B:=10000) ce hne (by decide)
 have hyn:y≠0:=by rw [hy];unfold zr;cases c<;>simp<;>omega
 refine ww_seq (ww_seq (ww_reg (fun n k=>by simp -implicitDefEqProofs (disch:=omega) only [go_sem,reduceIte,Nat.reduceEqDiff,gt_start,List.getD_cons_zero,List.getD_cons_succ,ldc_snd L29,len_sl hu,d_false];rfl) ?_))
 refine ww_false sS (ww_skip ?_)
 obtain ⟨_,hpt,sq,sr,q,r,rfl,hsq,hsr,dq,dr,cr,hv,hlt,hql⟩:=part_spec hs hu dd de ce hne (by omega) (by omega) ⟨h.rows,none,h.mods⟩
 have hrl:=len_le (B:=10000) (by decide) de cr (Nat.le_of_lt hlt)
 refine ww_seq (ww_call (hpt) (fun n hn k=>by simp -implicitDefEqProofs (disch:=omega) only [go_sem,reduceIte,Nat.reduceEqDiff,gt_start,List.getD_cons_zero,List.getD_cons_succ,ldc_snd L29,clc2 hn hs.ex hu.ex,ext_tuple];rfl) ?_)
 obtain ⟨_,ht1,f1,⟨⟨s1,rfl,hs1⟩,df1,cf1,hf1⟩,tr1⟩:=trim_spec hsq dq (by omega) (!(b == c)) ⟨h.rows,none,h.mods⟩
 obtain ⟨_,ht2,f2,⟨⟨s2,rfl,hs2⟩,df2,cf2,hf2⟩,tr2⟩:=trim_spec hsr dr (by omega) b ⟨h.rows,none,h.mods⟩
 have lf1:=tr1.len
 have lf2:=tr2.len
 obtain ⟨ql,qr⟩:=quo_law b c hv hlt
 have ex:x=bif b then -(vl 10000 d:Int) else (vl 10000 d:Int):=hx
 have ey:y=bif c then -(vl 10000 e:Int) else (vl 10000 e:Int):=hy
 rw [←ex,←ey] at ql qr
 have hI1:IsR k (.agg [.bool (!(b == c) && !f1.isEmpty),s1]) (bif b == c then ((vl 10000 q:Nat):Int) else -((vl 10000 q:Nat):Int)):=by
  refine ⟨f1,_,⟨⟨s1,rfl,hs1⟩,df1,cf1,hf1⟩,?_,by omega⟩
  rw [←tr1.vl 10000]
  cases b == c with
  | true=>simp [zr]
  | false=>cases f1<;>rfl
 have hI2:IsR l (.agg [.bool (b && !f2.isEmpty),s2]) (bif b then -((vl 10000 r:Nat):Int) else ((vl 10000 r:Nat):Int)):=by
  refine ⟨f2,_,⟨⟨s2,rfl,hs2⟩,df2,cf2,hf2⟩,?_,by omega⟩
  rw [←tr2.vl 10000]
  cases b with
  | false=>simp [zr]
  | true=>cases f2<;>rfl
 refine ww_seq (ww_call (ht1.and ht2) (fun n hn k=>by simp -implicitDefEqProofs (disch:=omega) only [go_sem,reduceIte,Nat.reduceEqDiff,gt_start,List.getD_cons_zero,List.getD_cons_succ,ldc_fst L4,bin_neb 4 false b c U4,da38_4_11,da38_4_12,cld2 hn.1 (Ex1.bool _) hsq.ex rfl hsq.quiet,cld2 hn.2 (Ex1.bool _) hsr.ex rfl hsr.quiet,stc_two N31 1 (.bool (!(b == c) && !f1.isEmpty)) s1 (.bool false) .nils _ rfl hs1.pl.ok,stc_two N31 1 (.bool (b && !f2.isEmpty)) s2 (.bool false) .nils _ rfl hs2.pl.ok];exact finD_ok (by kernel_rfl)) ?_)
 refine ww_join (M:=fun st=>∃ v0 v1 w0 w1,IsR k (.agg [v0,v1]) (x / y)∧IsR l (.agg [w0,w1]) (x % y)∧I38 s u b c ⟨h.rows,none,h.mods⟩ st.tm st.loc∧lg st.loc 8=(1,.cells false [v0,v1])∧lg st.loc 9=(1,.cells false [w0,w1])∧st.hp=⟨h.rows,none,h.mods⟩) ?_ ?_
 ·have hgz:(0<vl 10000 r)↔f2≠[]:=by
   rw [←tr2.vl 10000]
   constructor
   ·intro h1 e1;subst e1;simp [vl] at h1
   ·intro h1;exact vl_pos_of (B:=10000) cf2 h1 (by decide)
  refine ww_at (hp:=⟨h.rows,none,h.mods⟩) (M:=fun tm loc=>I38 s u b c ⟨h.rows,none,h.mods⟩ tm loc∧lg loc 8=(1,.cells false [.bool (!(b == c) && !f1.isEmpty),s1])∧lg loc 9=(1,.cells false [.bool (b && !f2.isEmpty),s2])) rfl ⟨⟨sSG,sSG,sS,sS,sS,sS,sS,sS,sS,sS⟩,sS,sS⟩ ?_
  intro tm loc ⟨⟨h2,h3,h4,h5,h8,h9,l2,l3,l4,l5⟩,l8,l9⟩
  have hb01:b=true∧0<vl 10000 r∨(b&&decide (0<vl 10000 r))=false:=by
   cases b with
   | false=>exact .inr rfl
   | true =>
    rcases Nat.eq_zero_or_pos (vl 10000 r) with q | q
    ·exact .inr (by rw [q];rfl)
    ·exact .inl ⟨rfl,q⟩
  rcases hb01 with ⟨rfl,hg0⟩ | hbf
  ·have hf2:(true && !f2.isEmpty)=true:=by
    have:=hgz.1 hg0
    cases f2 with
    | nil=>exact absurd rfl this
    | cons x0 l0=>rfl
   rw [hf2] at l9 hI2
   obtain ⟨b1,hb1⟩:∃ b1,(!(true == c) && !f1.isEmpty)=b1:=⟨_,rfl⟩
   rw [hb1] at l8 hI1
   rw [decide_eq_true hg0,Bool.true_and,cond_true] at qr
   rw [decide_eq_true hg0] at ql
   simp only [cond_true] at ql
   have hIE:IsR l (.agg [.bool false,u]) ((vl 10000 e:Nat):Int):=⟨e,false,⟨⟨u,rfl,hu⟩,de,ce,fun _=>rfl⟩,rfl,hel⟩
   have hEl:vl 10000 e<10000 ^ l:=vl_lt_of (by decide) de hel
   obtain ⟨r5,hr5,hI5⟩:=addR_spec hI2 hIE (by omega) (by omega) ⟨h.rows,none,h.mods⟩
   have hI5':IsR l r5 (x % y):=by
    have e1:(bif true then -((vl 10000 r:Nat):Int) else ((vl 10000 r:Nat):Int))+((vl 10000 e:Nat):Int)=x % y:=by rw [qr,cond_true];omega
    rw [e1] at hI5
    exact hI5.shrink (by rw [qr];omega)
   obtain ⟨s5,b5,rfl,p5,x5,q5⟩:=hI5'.form
   obtain ⟨p2,x2,q2⟩:=hI2.nn
   obtain ⟨pE,xE,qE⟩:=hIE.nn
   obtain ⟨p1,x1,q1⟩:=hI1.nn
   refine ww_seq (ww_reg (fun n k=>by simp -implicitDefEqProofs (disch:=omega) only [go_sem,reduceIte,Nat.reduceEqDiff,h9,l9,ldc_fst L4];rfl) ?_)
   refine ww_true sS ?_
   refine ww_seq (ww_call (hr5) (fun n hn k=>by simp -implicitDefEqProofs (disch:=omega) only [go_sem,reduceIte,Nat.reduceEqDiff,h3,h9,l3,l9,ldc_snd L29,ldc_two L31,bt38_6_3 hu.pl,clc2 hn x2 xE,stc_two N31 1 (.bool b5) s5 (.bool true) s2 _ rfl p5.ok];rfl) ?_)
   obtain ⟨r8,hr8,hI8⟩:=ofR_spec (z:=1) (by decide) (by decide) ⟨h.rows,none,h.mods⟩
   obtain ⟨s8,b8,rfl,p8,x8,q8⟩:=hI8.form
   have hr8':Runs Pg kn0 tbl 22 [.int .i64 (.ofNat 1)] ⟨h.rows,none,h.mods⟩ (.val (.agg [.bool b8,s8]) ⟨h.rows,none,h.mods⟩):=hr8
   have hbd:=Nat.lt_of_le_of_lt (Int.natAbs_ediv_le_natAbs x y) ha0.abs_lt
   cases c with
   | false =>
    obtain ⟨r9,hr9,hI9⟩:=subR_spec hI1 hI8 (by omega) (by omega) ⟨h.rows,none,h.mods⟩
    have hI9':IsR k r9 (x / y):=by
     have e1:(bif true == false then ((vl 10000 q:Nat):Int) else -((vl 10000 q:Nat):Int)) - 1=x / y:=by rw [ql];rfl
     rw [e1] at hI9
     exact hI9.shrink hbd
    obtain ⟨s9,b9,rfl,p9,x9,q9⟩:=hI9'.form
    refine ww_seq (ww_reg (fun n k=>by simp -implicitDefEqProofs (disch:=omega) only [go_sem,reduceIte,Nat.reduceEqDiff,h3,l3,ldc_fst L4];rfl) ?_)
    refine ww_false sS ?_
    refine ww_call (hr8'.and hr9) (fun n hn k=>by
     simp -implicitDefEqProofs (disch:=omega) only [go_sem,reduceIte,Nat.reduceEqDiff,h8,l8,ldc_two L31,cld1 hn.1 (Ex1.int _ _) rfl,cld2 hn.2 x1 x8 q1 q8,stc_two N31 1 (.bool b9) s9 (.bool b1) s1 _ rfl p9.ok]
     exact finD_ok (by kernel_rfl)) ?_
    exact ⟨.bool b9,s9,.bool b5,s5,hI9',hI5',⟨(sS1 h2),(sS1 h3),(sS1 h4),(sS1 h5),(sS1 h8),(sS1 h9),(sS1 l2),(sS1 l3),(sS1 l4),(sS1 l5)⟩,sS,sS,rfl⟩
   | true =>
    obtain ⟨r9,hr9,hI9⟩:=addR_spec hI1 hI8 (by omega) (by omega) ⟨h.rows,none,h.mods⟩
    have hI9':IsR k r9 (x / y):=by
     have e1:(bif true == true then ((vl 10000 q:Nat):Int) else -((vl 10000 q:Nat):Int))+1=x / y:=by rw [ql];rfl
     rw [e1] at hI9
     exact hI9.shrink hbd
    obtain ⟨s9,b9,rfl,p9,x9,q9⟩:=hI9'.form
    refine ww_seq (ww_reg (fun n k=>by simp -implicitDefEqProofs (disch:=omega) only [go_sem,reduceIte,Nat.reduceEqDiff,h3,l3,ldc_fst L4];rfl) ?_)
    refine ww_true sS ?_
    refine ww_call (hr8'.and hr9) (fun n hn k=>by
     simp -implicitDefEqProofs (disch:=omega) only [go_sem,reduceIte,Nat.reduceEqDiff,h8,l8,ldc_two L31,cld1 hn.1 (Ex1.int _ _) rfl,cld2 hn.2 x1 x8 q1 q8,stc_two N31 1 (.bool b9) s9 (.bool b1) s1 _ rfl p9.ok]
     exact finD_ok (by kernel_rfl)) ?_
    exact ⟨.bool b9,s9,.bool b5,s5,hI9',hI5',⟨(sS1 h2),(sS1 h3),(sS1 h4),(sS1 h5),(sS1 h8),(sS1 h9),(sS1 l2),(sS1 l3),(sS1 l4),(sS1 l5)⟩,sS,sS,rfl⟩
  ·have hneg:(b && !f2.isEmpty)=false:=by
    cases b with
    | false=>rfl
    | true =>
     rw [Bool.true_and,decide_eq_false_iff_not,hgz] at hbf
     cases f2 with
     | nil=>rfl
     | cons x0 l0=>exact absurd (by simp) hbf
   rw [hneg] at l9 hI2
   have qf:x / y=bif b == c then ((vl 10000 q:Nat):Int) else -((vl 10000 q:Nat):Int):=by
    rw [ql]
    cases b with
    | false=>cases c<;>rfl
    | true =>
     rw [Bool.true_and] at hbf
     rw [hbf]
     cases c<;>simp
   have rf:x % y=bif b then -((vl 10000 r:Nat):Int) else ((vl 10000 r:Nat):Int):=by
    rw [qr,hbf]
    cases b with
    | false=>rfl
    | true =>
     rw [Bool.true_and,decide_eq_false_iff_not] at hbf
     have:vl 10000 r=0:=by omega
     rw [this];rfl
   refine ww_seq (ww_reg (fun n k=>by simp -implicitDefEqProofs (disch:=omega) only [go_sem,reduceIte,Nat.reduceEqDiff,h9,l9,ldc_fst L4];rfl) ?_)
   refine ww_false sS (ww_skip ?_)
   exact ⟨_,s1,_,s2,by rw [qf];exact hI1,by rw [rf];exact hI2,⟨(sS1 h2),(sS1 h3),(sS1 h4),(sS1 h5),(sS1 h8),(sS1 h9),(sS1 l2),(sS1 l3),(sS1 l4),(sS1 l5)⟩,(sS1 l8),(sS1 l9),rfl⟩
 ·intro st ⟨v0,v1,w0,w1,hv0,hw0,⟨h2,h3,h4,h5,h8,h9,l2,l3,l4,l5⟩,l8,l9,hhp⟩
  obtain ⟨sv,bv,e1,pv,_,_⟩:=hv0.form
  obtain ⟨sw,bw,e2,pw,_,_⟩:=hw0.form
  obtain ⟨rfl,rfl⟩:v0=.bool bv∧v1=sv:=by simpa using e1
  obtain ⟨rfl,rfl⟩:w0=.bool bw∧w1=sw:=by simpa using e2
  refine ww_seq (ww_reg (fun n k=>by simp -implicitDefEqProofs (disch:=omega) only [go_sem,reduceIte,Nat.reduceEqDiff,h4,h5,h8,h9,l4,l5,l8,l9,ldc_two L31,stc_two N31 1 (.bool bv) v1 (.bool false) .nils _ rfl pv.ok,stc_two N31 1 (.bool bw) w1 (.bool false) .nils _ rfl pw.ok];exact finD_ok (by kernel_rfl)) ?_)
  exact ww_ret (fin _ _ _ _ _ hv0 (by rw [if_neg hyn];exact hw0) (sS1 h4) (sS1 h5) sS sS hhp)
end Go.AM.S
end
section
namespace Go.AM.S
open Go Go.AM Go.Proofs NumL
open _root_.Go.AM.G (R)
set_option maxRecDepth 100000
theorem tbl40:tbl 40=some ⟨rc40,[.cell 4 31]⟩:=by kernel_rfl
theorem gcdR_spec {k l:Nat} {va vb:V} {x y:Int} (ha:IsR k va x) (hb:IsR l vb y) (hk:k≤90000) (hl:l≤90000):Gives 40 [va,vb] fun r=>IsR (max k l) r ((Nat.gcd x.natAbs y.natAbs:Nat):Int):=by
 obtain ⟨d,b,⟨⟨s,rfl,hs⟩,dd,cd,h0⟩,rfl,hdl⟩:=ha
 obtain ⟨e,c,⟨⟨u,rfl,hu⟩,de,ce,he0⟩,rfl,hel⟩:=hb
 rw [zr_abs,zr_abs]
 refine gives_of tbl40 fun h Q hQ=>?_
 unfold rc40
 refine sRG ?_
 have hI1:IsR (max k l) (.agg [.bool false,s]) ((vl 10000 d:Nat):Int):=⟨d,false,⟨⟨s,rfl,hs⟩,dd,cd,fun _=>rfl⟩,rfl,by omega⟩
 have hI2:IsR (max k l) (.agg [.bool false,u]) ((vl 10000 e:Nat):Int):=⟨e,false,⟨⟨u,rfl,hu⟩,de,ce,fun _=>rfl⟩,rfl,by omega⟩
 refine ww_seq (ww_reg (fun n k=>by simp -implicitDefEqProofs (disch:=omega) only [go_sem,reduceIte,Nat.reduceEqDiff,gt_start,List.getD_cons_zero,List.getD_cons_succ,ldc_snd L29,bt40_1_2 hs.pl,bt40_1_5 hu.pl,da40_1_6,da40_1_7,stc_two N31 1 (.bool false) s (.bool false) .nils _ rfl hs.pl.ok,stc_two N31 1 (.bool false) u (.bool false) .nils _ rfl hu.pl.ok];exact finD_ok (by kernel_rfl)) ?_)
 refine ww_seq (ww_for (fun m st=>∃ a sa ba sb bb,IsR (max k l) (.agg [.bool ba,sa]) ((a:Nat):Int)∧IsR (max k l) (.agg [.bool bb,sb]) ((m:Nat):Int)∧Nat.gcd a m=Nat.gcd (vl 10000 d) (vl 10000 e)∧gt st.tm 5=.ptr (.loc 5 1) 0∧gt st.tm 6=.ptr (.loc 6 1) 0∧gt st.tm 4=.ptr (.loc 4 1) 0∧lg st.loc 5=(1,.cells false [.bool ba,sa])∧lg st.loc 6=(1,.cells false [.bool bb,sb])∧lg st.loc 4=(1,.cells false [.bool false,.nils])∧st.hp=⟨h.rows,none,h.mods⟩) (vl 10000 e) ⟨vl 10000 d,s,false,u,false,hI1,hI2,rfl,sS,sS,sS,sS,sS,sS,rfl⟩ ?_)
 intro m st ⟨a,sa,ba,sb,bb,hA,hM,hg,h5,h6,h4,l5,l6,l4,hhp⟩
 obtain ⟨pa,xa,qa⟩:=hA.nn
 obtain ⟨pb,xb,qb⟩:=hM.nn
 have hM':=hM
 obtain ⟨f,b',⟨⟨sb',eb,hsb⟩,df,cf,hf0⟩,hmv,hfl⟩:=hM'
 obtain ⟨rfl,rfl⟩:bb=b'∧sb=sb':=by simpa using eb
 have hfm:vl 10000 f=m:=by rw [←zr_abs f bb,←hmv];simp
 rcases Nat.eq_zero_or_pos f.length with e0 | e0
 ·have ef:f=[]:=List.length_eq_zero_iff.1 e0
  have hm0:m=0:=by rw [←hfm,ef];rfl
  refine ww_seq (ww_seq (ww_reg (fun n k=>by simp -implicitDefEqProofs (disch:=omega) only [go_sem,reduceIte,Nat.reduceEqDiff,h6,l6,ldc_snd L29,len_sl hsb,e0,d_false];rfl) ?_))
  refine ww_false sS (ww_exit ?_)
  rw [if_pos rfl]
  refine ww_seq (ww_reg (fun n k=>by simp -implicitDefEqProofs (disch:=omega) only [go_sem,reduceIte,Nat.reduceEqDiff,h5,l5,h4,l4,ldc_two L31,stc_two N31 1 (.bool ba) sa (.bool false) .nils _ rfl pa.ok];rfl) ?_)
  refine ww_ret (hQ _ _ (fin_cell (x:=.bool ba) (y:=sa) (f:=false) (d:=4) (g:=1) (by kernel_rfl) (sS1 h4) sS (Pl.bool _) pa (by rw [hhp])) ?_)
  rw [←hg,hm0,Nat.gcd_zero_right]
  exact hA
 ·have hm0:0<m:=by
   rw [←hfm]
   exact vl_pos_of (B:=10000) cf (fun q=>by subst q;simp at e0) (by decide)
  refine ww_seq (ww_seq (ww_reg (fun n k=>by simp -implicitDefEqProofs (disch:=omega) only [go_sem,reduceIte,Nat.reduceEqDiff,h6,l6,ldc_snd L29,len_sl hsb,d_true];rfl) ?_))
  refine ww_true sS (ww_skip (ww_block ?_))
  obtain ⟨_,hq,v,w,rfl,hv,hw⟩:=quoR_spec hA hM (by omega) (by omega) ⟨h.rows,none,h.mods⟩
  rw [if_neg (by omega),←Int.natCast_emod] at hw
  obtain ⟨sv,bv,rfl,pv,xv,_⟩:=hv.form
  obtain ⟨sw,bw,rfl,pw,xw,_⟩:=hw.form
  refine ww_seq (ww_call (hq) (fun n hn k=>by simp -implicitDefEqProofs (disch:=omega) only [go_sem,reduceIte,Nat.reduceEqDiff,h5,h6,l5,l6,hhp,ldc_two L31,clc2 hn xa xb,ext_tuple,stc_two N31 ((lg st.loc 7).1+1) (.bool bv) sv (.bool false) .nils _ rfl pv.ok,stc_two N31 ((lg st.loc 8).1+1) (.bool bw) sw (.bool false) .nils _ rfl pw.ok];rfl) ?_)
  refine ww_reg (fun n k=>by simp -implicitDefEqProofs (disch:=omega) only [go_sem,reduceIte,Nat.reduceEqDiff,h5,h6,l5,l6,ldc_two L31,stc_two N31 1 (.bool bb) sb (.bool ba) sa _ rfl pb.ok,stc_two N31 1 (.bool bw) sw (.bool bb) sb _ rfl pw.ok];exact finD_ok (by kernel_rfl)) ?_
  exact ⟨a % m,Nat.mod_lt _ hm0,m,sb,bb,sw,bw,hM,hw,by rw [←hg,Nat.gcd_comm a m,Nat.gcd_rec m a,Nat.gcd_comm],(sS1 h5),(sS1 h6),(sS1 h4),sS,sS,(sS1 l4),rfl⟩
end Go.AM.S
end
section
namespace Go.AM.S
open Go Go.AM Go.Proofs NumL
open _root_.Go.AM.G (R)
set_option maxRecDepth 100000
end Go.AM.S
end
section
namespace Go.AM.S
open Go Go.AM Go.Proofs NumL
open _root_.Go.AM.G (R)
set_option maxRecDepth 100000
section
variable {C:Cfg} {P:Program} {call:CallF} {gl:Nat→Bool} {o:Oper} {t' tm:Tm} {loc:Lo} {hp:Hp}
theorem ldc_lo {t:TypeId} (hl:F.layE P t=some (2,true)) (g:Nat) (frz:Bool) (a b c d:V):ldc P t g 0 (g,.cells frz [a,b,c,d])=some (.agg [a,b]):=by
 show (bif Nat.beq g g then G.part (F.layE P t) [a,b,c,d] 0 else none)=_
 rw [Nat.beq_refl,hl];rfl
theorem ldc_hi {t:TypeId} (hl:F.layE P t=some (2,true)) (g:Nat) (frz:Bool) (a b c d:V):ldc P t g 2 (g,.cells frz [a,b,c,d])=some (.agg [c,d]):=by
 show (bif Nat.beq g g then G.part (F.layE P t) [a,b,c,d] 2 else none)=_
 rw [Nat.beq_refl,hl];rfl
theorem ldc_four {t:TypeId} (hl:F.layE P t=some (4,true)) (g:Nat) (frz:Bool) (a b c d:V):ldc P t g 0 (g,.cells frz [a,b,c,d])=some (.agg [a,b,c,d]):=by
 show (bif Nat.beq g g then G.part (F.layE P t) [a,b,c,d] 0 else none)=_
 rw [Nat.beq_refl,hl];rfl
theorem stc_four {t:TypeId} (hl:F.lenIs P t 4=true) (g:Nat) (a b c d x y z w:V) (f:Nat × Row→R) (ha:a.cellOk=true) (hb:b.cellOk=true) (hc:c.cellOk=true) (hd:d.cellOk=true) :
  stc P t g 0 (.agg [a,b,c,d]) (g,.cells false [x,y,z,w]) f=f (g,.cells false [a,b,c,d]):=by
 show (bif Nat.beq g g&&F.allR V.cellOk [a,b,c,d]&&F.lenIs P t 4 then G.onSome (F.setAt [x,y,z,w] 0 [a,b,c,d]) _ none else none)=_
 rw [Nat.beq_refl,show F.allR V.cellOk [a,b,c,d]=true from by rw [F.allR_eq];simp [ha,hb,hc,hd],hl,F.e_setAt]
 rfl
def four (P:Program) (t:TypeId):Bool:=match P.underlying t with
 | some (.struct fs)=>(match fs.toList with
  | [f0,f1]=>Nat.beq f0.offset 0&&Nat.beq f1.offset 2&&(match szOf P f0.type,szOf P f1.type with | some a,some b=>Nat.beq a 2&&Nat.beq b 2 | _,_=>false)
  | _=>false)
 | _=>false
theorem Pl.weak1 {x:V} (h:Pl x):x.weak1=x:=by
 have h1:=h.weak
 cases x with
 | agg cs=>exact absurd rfl (h.notAgg cs)
 | _=>exact h1
theorem Pl.noLoc {x:V} (h:Pl x):x.noLoc=true:=by
 have h1:=h.plain
 cases x with
 | agg cs=>exact absurd rfl (h.notAgg cs)
 | arr=>simp [V.plain] at h1
 | dead=>simp [V.plain] at h1
 | _=>exact h1
theorem agg2 {x y:V} (hx:Pl x) (hy:Pl y):(V.agg [x,y]).weakB=.agg [x,y]∧(V.agg [x,y]).plain=true∧(V.agg [x,y]).cells=[x,y]:=by
 refine ⟨?_,?_,rfl⟩
 ·simp only [V.weakB,List.map_cons,List.map_nil,hx.weak1,hy.weak1]
 ·simp only [V.plain,V.noLoc,V.noLocL,hx.noLoc,hy.noLoc,Bool.and_self]
theorem locV_four {t:TypeId} {a b:Operand} {x y u v z0 z1 z2 z3:V} {ρ:Nat→V} {lc:Nat→Nat × Row} (ho:o.op=.build t #[(0,a),(1,b)]) (h2:four P t=true) (hz:zeroV P t=some (.agg [z0,z1,z2,z3]))
  (ha:AM.opd ρ a=.agg [x,y]) (hb:AM.opd ρ b=.agg [u,v]) (px:Pl x) (py:Pl y) (pu:Pl u) (pv:Pl v):locV P C gl ρ lc o=some (.agg [x,y,u,v],none):=by
 unfold four at h2
 split at h2
 ·rename_i fs hu
  split at h2
  ·rename_i f0 f1 hfs
   simp only [Bool.and_eq_true] at h2
   obtain ⟨⟨a0,a1⟩,a2⟩:=h2
   have e:fs = #[f0,f1]:=by apply Array.toList_inj.1;rw [hfs]
   subst e
   split at a2
   ·rename_i na nb s0 s1
    simp only [Bool.and_eq_true] at a2
    have b1:na=2:=Nat.eq_of_beq_eq_true a2.1
    have b2:nb=2:=Nat.eq_of_beq_eq_true a2.2
    subst b1;subst b2
    have o0:=Nat.eq_of_beq_eq_true a0;have o1:=Nat.eq_of_beq_eq_true a1
    have i0:(P.info? f0.type).isSome=true:=by
     unfold szOf at s0
     cases h:P.info? f0.type with
     | none=>rw [h] at s0;simp at s0
     | some i=>rfl
    have i1:(P.info? f1.type).isSome=true:=by
     unfold szOf at s1
     cases h:P.info? f1.type with
     | none=>rw [h] at s1;simp at s1
     | some i=>rfl
    have e0:fieldOf P t 0=some f0:=by unfold fieldOf;rw [hu];rfl
    have e1:fieldOf P t 1=some f1:=by unfold fieldOf;rw [hu];rfl
    obtain ⟨w1,w2,w3⟩:=agg2 px py
    obtain ⟨w4,w5,w6⟩:=agg2 pu pv
    unfold locV
    simp only [ho,pureV,hu,hz,V.live,Bool.true_and]
    have ea:(#[f0,f1]:Array Field).all (fun f=>(P.info? f.type).isSome)=true:=by simp [i0,i1]
    rw [ea]
    have c0:V.cells (.agg [z0,z1,z2,z3])=[z0,z1,z2,z3]:=rfl
    simp only [cond_true,fillP,e0,e1,ha,hb,w1,w2,w3,w4,w5,w6,s0,s1,o0,o1,Option.getD_some,List.length_cons,List.length_nil,c0]
    rfl
   ·simp at a2
  ·simp at h2
 ·simp at h2
def outV:List V→V
 | [v]=>v
 | vs=>.tuple vs
theorem fin_gen {h:Hp} {res:List ResultVar} {s:St} {vs:List V} (hr:resV P s res=some vs) (he:ExL vs) (hn:V.noRefsL vs=true) (hd:DG h.rows.length s.hp) :
  fin P h res s=some (.val (outV vs) h):=by
 unfold fin
 rw [hr]
 simp only [exps_ex vs s he]
 have hb:backHp h s.hp vs=h:=by unfold backHp;rw [clean_dg hd,hn];rfl
 match vs,hb with
 | [],hb=>show some (Out.val (.tuple []) _)=_;rw [hb];rfl
 | [v],hb=>show some (Out.val v _)=_;rw [hb];rfl
 | v::w::l,hb=>show some (Out.val (.tuple (v::w::l)) _)=_;rw [hb];rfl
theorem exp_agg4 {a b c d:V} (ha:Pl a) (hb:Pl b) (hc:Pl c) (hd:Pl d):Ex1 (.agg [a,b,c,d]):=fun st=>exp_agg (by intro v hv;simp at hv;rcases hv with rfl | rfl | rfl | rfl<;>assumption) st
end
end Go.AM.S
end
section
namespace Go.AM.S
open Go Go.AM Go.Proofs NumL
open _root_.Go.AM.G (R)
set_option maxRecDepth 100000
theorem tbl48:tbl 48=some ⟨rc48,[.cell 2 26]⟩:=by kernel_rfl
theorem tbl50:tbl 50=some ⟨rc50,[.cell 2 59]⟩:=by kernel_rfl
def IsQ (k:Nat) (v:V) (q:Rat):Prop:=∃ s b u c,v=.agg [s,.bool b,u,.bool c]∧IsI k (.agg [s,.bool b]) q.num∧IsI k (.agg [u,.bool c]) ((q.den:Int) - 1)
theorem IsQ.mono {k l:Nat} {v:V} {q:Rat} (h:IsQ k v q) (hl:k≤l):IsQ l v q:=by
 obtain ⟨s,b,u,c,e,h1,h2⟩:=h
 exact ⟨s,b,u,c,e,h1.mono hl,h2.mono hl⟩
theorem quiet4 {a b c d:V} (ha:Pl a) (hb:Pl b) (hc:Pl c) (hd:Pl d) (qa:AM.quiet (.agg [a,b])=true) (qc:AM.quiet (.agg [c,d])=true):AM.quiet (.agg [a,b,c,d])=true:=by
 simp only [AM.quiet,List.all_cons,List.all_nil,Bool.and_true] at qa qc ⊢
 simp_all
theorem IsQ.facts {k:Nat} {s u:V} {b c:Bool} (h1:∃ z,IsI k (.agg [s,.bool b]) z) (h2:∃ z,IsI k (.agg [u,.bool c]) z):Pl s∧Pl u∧Ex1 (.agg [s,.bool b,u,.bool c])∧AM.quiet (.agg [s,.bool b,u,.bool c])=true:=by
 obtain ⟨_,h1⟩:=h1;obtain ⟨_,h2⟩:=h2
 obtain ⟨p1,_,q1⟩:=h1.nn
 obtain ⟨p2,_,q2⟩:=h2.nn
 exact ⟨p1,p2,exp_agg4 p1 (Pl.bool _) p2 (Pl.bool _),quiet4 p1 (Pl.bool _) p2 (Pl.bool _) q1 q2⟩
theorem below_spec {k:Nat} {va:V} {q:Rat} (ha:IsQ k va q) (hk:k≤250000):Gives 48 [va] fun r=>IsI (max k 2+1) r (q.den:Int):=by
 obtain ⟨s,b,u,c,rfl,h1,h2⟩:=ha
 refine gives_of tbl48 fun h Q hQ=>?_
 unfold rc48
 refine sRG ?_
 obtain ⟨pu,xu,qu⟩:=h2.nn
 obtain ⟨r1,A1,I1⟩:=of_spec (z:=.ofNat 1) (by decide) (by decide) ⟨h.rows,none,h.mods⟩
 obtain ⟨r2,A2,I2⟩:=add_spec h2 I1 (by omega) (by omega) ⟨h.rows,none,h.mods⟩
 rw [show (q.den:Int) - 1+.ofNat 1=(q.den:Int) from by show (q.den:Int) - 1+1=_;omega] at I2
 obtain ⟨s2,b2,rfl,p2,_,_⟩:=I2.form
 refine ww_seq (ww_call (A1.and A2) (fun n hn k=>by simp -implicitDefEqProofs (disch:=omega) only [go_sem,reduceIte,Nat.reduceEqDiff,ldc_hi L26,cld1 hn.1 (Ex1.int _ _) rfl,cld2 hn.2 xu I1.ex qu I1.quiet,stc_two N26 1 s2 (.bool b2) .nils (.bool false) _ p2.ok rfl];exact finD_ok (by kernel_rfl)) ?_)
 exact ww_ret (hQ _ _ (fin_cell (x:=s2) (y:=.bool b2) (f:=false) (d:=2) (g:=1) (by kernel_rfl) sS sS p2 (Pl.bool _) rfl) I2)
theorem whole_q (z:Int):((z:Rat).num=z)∧(((z:Rat).den:Int) - 1=0):=⟨rfl,rfl⟩
end Go.AM.S
end
section
namespace Go.AM.S
open Go Go.AM Go.Proofs NumL
open _root_.Go.AM.G (R)
set_option maxRecDepth 100000
theorem tbl44:tbl 44=some ⟨rc44,[.cell 4 59,.tmp 5]⟩:=by kernel_rfl
theorem bt44_8_4 {x y u v:V} (px:Pl x) (py:Pl y) (pu:Pl u) (pv:Pl v) (c:CallF) (t:Tm) (l:Lo) (h:Hp) (J:JD) (X:XD):gD Try.f44 44 8 4 c (pt (pt t 33 (.agg [x,y])) 36 (.agg [u,v])) l h J X=J (.agg [x,y,u,v]) ⟨[],[],false,false,false,false⟩ l h :=
 genD_pure (C:=Cg) (gl:=Cg.glob 44) (call:=c) (o:=opA Try.f44 8 4) (d:=37) (t:=59) (l:=#[(0,.tmp 33),(1,.tmp 36)]) (by kernel_rfl) (by kernel_rfl) (locV_four (a:=.tmp 33) (b:=.tmp 36) (by kernel_rfl) (by kernel_rfl) (show zeroV Pg 59=some (.agg [.nils,.bool false,.nils,.bool false]) by kernel_rfl) (by rw [opd_gt,gt_pt,if_neg (by decide),gt_pt,if_pos rfl]) (by rw [opd_gt,gt_pt,if_pos rfl]) px py pu pv)
theorem fin_cell4_tmp {h:Hp} {a b d g:Nat} {f:Bool} {s:St} {x y z u w:V} (hv:gt s.tm a=.ptr (.loc d g) 0) (hr:lg s.loc d=(g,.cells f [x,y,z,u])) (hx:Pl x) (hy:Pl y) (hz:Pl z) (hu:Pl u) (hb:gt s.tm b=w) (hw:Pl w) (hc:DG h.rows.length s.hp) :
  fin Pg h [.cell a 59,.tmp b] s=some (.val (.tuple [.agg [x,y,z,u],w]) h):=by
 have e1:resV Pg s [.cell a 59,.tmp b]=some [.agg [x,y,z,u],w]:=by
  simp only [resV,rho_gt,hv,hb,getRow_loc hr,partV,show layE Pg 59=some (4,true) by kernel_rfl,Option.map_some]
  rfl
 exact fin_gen e1 ⟨exp_agg4 hx hy hz hu,hw.ex,trivial⟩ (by simp only [V.noRefsL,V.noRefs,hx.refs,hy.refs,hz.refs,hu.refs,hw.refs,Bool.and_self]) hc
theorem fin_cell4 {h:Hp} {a d g:Nat} {f:Bool} {s:St} {x y z u:V} (hv:gt s.tm a=.ptr (.loc d g) 0) (hr:lg s.loc d=(g,.cells f [x,y,z,u])) (hx:Pl x) (hy:Pl y) (hz:Pl z) (hu:Pl u) (hc:DG h.rows.length s.hp) :
  fin Pg h [.cell a 59] s=some (.val (.agg [x,y,z,u]) h):=by
 have e1:resV Pg s [.cell a 59]=some [.agg [x,y,z,u]]:=by
  simp only [resV,rho_gt,hv,getRow_loc hr,partV,show layE Pg 59=some (4,true) by kernel_rfl]
  rfl
 exact fin_gen e1 ⟨exp_agg4 hx hy hz hu,trivial⟩ (by simp only [V.noRefsL,V.noRefs,hx.refs,hy.refs,hz.refs,hu.refs,Bool.and_self]) hc
theorem divInt_parts {x y:Int} (hy:y≠0):(Rat.divInt x y).num=(y.sign*x) / ((Nat.gcd (y.sign*x).natAbs y.natAbs:Nat):Int)∧((Rat.divInt x y).den:Int)=((y.natAbs:Nat):Int) / ((Nat.gcd (y.sign*x).natAbs y.natAbs:Nat):Int):=by
 have e:Nat.gcd (y.sign*x).natAbs y.natAbs=Int.gcd y x:=by
  rw [Int.natAbs_mul,Int.natAbs_sign_of_ne_zero hy,Nat.one_mul,Nat.gcd_comm];rfl
 rw [e,Rat.num_divInt,Rat.den_divInt,if_neg hy]
 exact ⟨rfl,Int.natCast_ediv _ _⟩
theorem sign_neg_mul {x y:Int} (h:y<0):y.sign*x = -x:=by rw [Int.sign_eq_neg_one_of_neg h,Int.neg_mul,Int.one_mul]
theorem sign_pos_mul {x y:Int} (h:0<y):y.sign*x=x:=by rw [Int.sign_eq_one_of_pos h,Int.one_mul]
theorem ratOf_spec {k l:Nat} {va vb:V} {x y:Int} (ha:IsI k va x) (hb:IsI l vb y) (hk:k≤250000) (hl:l≤250000):Gives 44 [va,vb] fun r=>∃ v,r=.tuple [v,.bool (decide (y≠0))]∧IsQ (max k l+3) v (Rat.divInt x y):=by
 obtain ⟨s,b,rfl,ps,xs,qs⟩:=ha.form
 obtain ⟨u,c,rfl,pu,xu,qu⟩:=hb.form
 refine gives_of tbl44 fun h Q hQ=>?_
 unfold rc44
 refine sRG ?_
 obtain ⟨_,Ps,rfl⟩:=sign_spec hb (by omega) ⟨h.rows,none,h.mods⟩
 by_cases hy:y=0
 ·rw [sgn_zero hy] at Ps
  refine ww_seq (ww_seq (ww_call (Ps) (fun n hn k=>by simp -implicitDefEqProofs (disch:=omega) only [go_sem,reduceIte,Nat.reduceEqDiff,gt_start,List.getD_cons_zero,List.getD_cons_succ,ldc_two L26,clc1 hn xu,iZ_eql];rfl) ?_))
  refine ww_true sS ?_
  refine ww_seq (ww_reg (fun n k=>by simp -implicitDefEqProofs (disch:=omega) only [go_sem,reduceIte,Nat.reduceEqDiff,stc_four N59 1 .nils (.bool false) .nils (.bool false) .nils (.bool false) .nils (.bool false) _ rfl rfl rfl rfl];rfl) ?_)
  refine ww_ret (hQ _ _ (fin_cell4_tmp (x:=.nils) (y:=.bool false) (z:=.nils) (u:=.bool false) (w:=.bool false) (f:=false) (d:=4) (g:=1) sS sS Pl.nils (Pl.bool _) Pl.nils (Pl.bool _) sS (Pl.bool _) (fun x hx=>by cases hx)) ⟨_,by rw [decide_eq_false (by omega)],?_⟩)
  rw [hy,Rat.divInt_zero]
  exact ⟨_,_,_,_,rfl,zeroI.mono (Nat.zero_le _),zeroI.mono (Nat.zero_le _)⟩
 ·have hs:∃ z,sgn y=z∧bin Pg .eql 3 true (.int .i64 z) (.int .i64 (.ofNat 0))=some (.bool false)∧bin Pg .lss 3 true (.int .i64 z) (.int .i64 (.ofNat 0))=some (.bool (decide (y<0))):=by
   rcases Int.lt_or_lt_of_ne hy with e | e
   ·exact ⟨.negSucc 0,by unfold sgn cmpZ;rw [if_pos e],rfl,by rw [decide_eq_true e];rfl⟩
   ·exact ⟨.ofNat 1,sgn_pos e,rfl,by rw [decide_eq_false (by omega)];rfl⟩
  obtain ⟨z,hz,hz1,hz2⟩:=hs
  rw [hz] at Ps
  refine ww_seq (ww_seq (ww_call (Ps) (fun n hn k=>by simp -implicitDefEqProofs (disch:=omega) only [go_sem,reduceIte,Nat.reduceEqDiff,gt_start,List.getD_cons_zero,List.getD_cons_succ,ldc_two L26,clc1 hn xu,hz1];rfl) ?_))
  refine ww_false sS (ww_skip ?_)
  refine ww_join (M:=fun st=>∃ s2 b2 u2 c2,IsI k (.agg [s2,.bool b2]) (y.sign*x)∧IsI l (.agg [u2,.bool c2]) ((y.natAbs:Nat):Int)∧gt st.tm 2=.ptr (.loc 2 1) 0∧gt st.tm 3=.ptr (.loc 3 1) 0∧gt st.tm 4=.ptr (.loc 4 1) 0∧lg st.loc 2=(1,.cells false [s2,.bool b2])∧lg st.loc 3=(1,.cells false [u2,.bool c2])∧lg st.loc 4=(1,.cells false [.nils,.bool false,.nils,.bool false])∧lg st.loc 6=(0,.gone)∧st.hp=⟨h.rows,none,h.mods⟩) ?_ ?_
  ·refine ww_seq (ww_call (Ps) (fun n hn k=>by simp -implicitDefEqProofs (disch:=omega) only [go_sem,reduceIte,Nat.reduceEqDiff,gt_start,List.getD_cons_zero,List.getD_cons_succ,ldc_two L26,clc1 hn xu,hz2];rfl) ?_)
   refine ww_if (by simp only [gt_pt,reduceIte];rfl) (fun hneg=>?_) (fun hpos=>ww_skip ?_)
   ·obtain ⟨r1,A1,I1⟩:=neg_spec ha (by omega) ⟨h.rows,none,h.mods⟩
    obtain ⟨r2,A2,I2⟩:=neg_spec hb (by omega) ⟨h.rows,none,h.mods⟩
    obtain ⟨s1,b1,rfl,p1,_,_⟩:=I1.form
    obtain ⟨s2,b2,rfl,p2,_,_⟩:=I2.form
    refine ww_call (A1.and A2) (fun n hn k=>by
     simp -implicitDefEqProofs (disch:=omega) only [go_sem,reduceIte,Nat.reduceEqDiff,gt_start,List.getD_cons_zero,List.getD_cons_succ,ldc_two L26,cld1 hn.1 xs qs,cld1 hn.2 xu qu,stc_two N26 1 s1 (.bool b1) s (.bool b) _ p1.ok rfl,stc_two N26 1 s2 (.bool b2) u (.bool c) _ p2.ok rfl]
     exact finD_ok (by kernel_rfl)) ?_
    refine ⟨s1,b1,s2,b2,by rw [sign_neg_mul hneg];exact I1,?_,sSG,sSG,sS,sS,sS,sS,(by simp -implicitDefEqProofs (disch:=omega) only [go_sem,reduceIte,Nat.reduceEqDiff,lg_lf]),rfl⟩
    rw [show ((y.natAbs:Nat):Int) = -y by omega];exact I2
   ·have hp:0<y:=by omega
    refine ⟨s,b,u,c,by rw [sign_pos_mul hp];exact ha,?_,sSG,sSG,sS,sS,sS,sS,(by simp -implicitDefEqProofs (disch:=omega) only [go_sem,reduceIte,Nat.reduceEqDiff,lg_lf]),rfl⟩
    rw [show ((y.natAbs:Nat):Int)=y by omega];exact hb
  ·intro st ⟨s2,b2,u2,c2,I1,I2,h2,h3,h4,l2,l3,l4,l6,hhp⟩
   obtain ⟨p1,x1,q1⟩:=I1.nn
   obtain ⟨p2,x2,q2⟩:=I2.nn
   obtain ⟨r3,A3,I3⟩:=gcd_spec I1 I2 (by omega) (by omega) ⟨h.rows,none,h.mods⟩
   rw [Int.natAbs_natCast] at I3
   obtain ⟨s3,b3,rfl,p3,x3,q3⟩:=I3.form
   have hg:0<Nat.gcd (y.sign*x).natAbs y.natAbs:=Nat.gcd_pos_of_pos_right _ (by omega)
   refine ww_seq (ww_call (A3) (fun n hn k=>by simp -implicitDefEqProofs (disch:=omega) only [go_sem,reduceIte,Nat.reduceEqDiff,h2,h3,l2,l3,l6,hhp,ldc_two L26,clc2 hn x1 x2,stc_two N26 1 s3 (.bool b3) .nils (.bool false) _ p3.ok rfl];rfl) ?_)
   obtain ⟨_,A4,v4,w4,rfl,I4,_⟩:=quo_spec I1 I3 (by omega) (by omega) ⟨h.rows,none,h.mods⟩
   obtain ⟨s4,b4,rfl,p4,x4,q4⟩:=I4.form
   refine ww_seq (ww_call (A4) (fun n hn k=>by simp -implicitDefEqProofs (disch:=omega) only [go_sem,reduceIte,Nat.reduceEqDiff,h2,l2,ldc_two L26,clc2 hn x1 x3,ext_tuple,stc_two N26 1 s4 (.bool b4) s2 (.bool b2) _ p4.ok rfl];rfl) ?_)
   obtain ⟨_,A5,v5,w5,rfl,I5,_⟩:=quo_spec I2 I3 (by omega) (by omega) ⟨h.rows,none,h.mods⟩
   obtain ⟨s5,b5,rfl,p5,x5,q5⟩:=I5.form
   refine ww_seq (ww_call (A5) (fun n hn k=>by simp -implicitDefEqProofs (disch:=omega) only [go_sem,reduceIte,Nat.reduceEqDiff,h3,l3,ldc_two L26,clc2 hn x2 x3,ext_tuple,stc_two N26 1 s5 (.bool b5) u2 (.bool c2) _ p5.ok rfl];rfl) ?_)
   obtain ⟨r6,A6,I6⟩:=of_spec (z:=.ofNat 1) (by decide) (by decide) ⟨h.rows,none,h.mods⟩
   obtain ⟨r7,A7,I7⟩:=sub_spec I5 I6 (by omega) (by omega) ⟨h.rows,none,h.mods⟩
   obtain ⟨s7,b7,rfl,p7,x7,q7⟩:=I7.form
   obtain ⟨e1,e2⟩:=divInt_parts (x:=x) hy
   refine ww_seq (ww_call (A6.and A7) (fun n hn k=>by simp -implicitDefEqProofs (disch:=omega) only [go_sem,reduceIte,Nat.reduceEqDiff,h2,h3,h4,l2,l3,l4,ldc_two L26,cld1 hn.1 (Ex1.int _ _) rfl,cld2 hn.2 x5 I6.ex q5 I6.quiet,bt44_8_4 p4 (Pl.bool _) p7 (Pl.bool _),stc_four N59 1 s4 (.bool b4) s7 (.bool b7) .nils (.bool false) .nils (.bool false) _ p4.ok rfl p7.ok rfl];exact finD_ok (by kernel_rfl)) ?_)
   refine ww_ret (hQ _ _ (fin_cell4_tmp (x:=s4) (y:=.bool b4) (z:=s7) (u:=.bool b7) (w:=.bool true) (f:=false) (d:=4) (g:=1) (sS1 h4) sS p4 (Pl.bool _) p7 (Pl.bool _) sS (Pl.bool _) (fun x hx=>by cases hx)) ⟨_,by rw [decide_eq_true hy],s4,b4,s7,b7,rfl,?_,?_⟩)
   ·rw [e1];exact I4.mono (by omega)
   ·rw [e2];exact I7.mono (by omega)
end Go.AM.S
end
section
namespace Go.AM.S
open Go Go.AM Go.Proofs NumL
open _root_.Go.AM.G (R)
set_option maxRecDepth 100000
section
variable {C:Cfg} {P:Program} {call:CallF} {gl:Nat→Bool} {o:Oper} {t' tm:Tm} {loc:Lo} {hp:Hp} {j:V→Lo→Hp→R} {J:JD} {X:XD}
theorem settle_hp (h:Hp) (ft:Foot) (e:ft.hp=false):F.settle h h ft=ft:=by
 unfold F.settle
 rw [Nat.beq_refl,Nat.beq_refl]
 cases ft;simp only at e;subst e;rfl
theorem genD_loc {d:Nat} {v:V} {ft:Foot} (hd:o.dst=some d) (hp1:locV P C gl (⟨t',loc,hp⟩:St).ρ (⟨t',loc,hp⟩:St).lc o=some (v,none))
  (hf:footV P C gl (⟨t',loc,hp⟩:St).ρ (⟨t',loc,hp⟩:St).lc o=some ft) (he:ft.hp=false) :
  genD P C call gl o t' loc hp J X=J v ft loc hp:=by
 have hs:stepV P C gl ⟨t',loc,hp⟩ o=some (.val v ⟨t',loc,hp⟩):=by
  unfold stepV
  rw [hp1];rfl
 unfold genD
 rw [F.e_footV,F.e_oneV,F.e_rho,F.e_lcf,hf]
 show G.onSome (oneV P C call gl ⟨t',loc,hp⟩ o) _ none=_
 unfold oneV
 rw [hs]
 simp only [putV,hd]
 show J (gt (aset t' d v) d) (F.settle hp hp ft) loc hp=_
 rw [settle_hp _ _ he,gt_eq,aget_aset,if_pos rfl]
theorem genD_fn {d x:Nat} {f:Fn} {v:V} (hd:o.dst=some d) (ho:o.op=.makeFunc f #[.tmp x] #[]) (hx:gt t' x=v) :
  genD P C call gl o t' loc hp J X=J (.fn f [v] []) ⟨[],[],false,false,false,false⟩ loc hp:=by
 have e:locV P C gl (⟨t',loc,hp⟩:St).ρ (⟨t',loc,hp⟩:St).lc o=some (.fn f [v] [],none):=by
  unfold locV
  simp only [ho,pureV,List.map_cons,List.map_nil,opd_gt,hx]
  rfl
 refine genD_loc hd e ?_ rfl
 unfold footV
 rw [e]
 simp only [ho]
def isCallV (o:Oper) (x y:Nat):Bool:=match o.op with
 | .call c=>(match c.callee,c.args.toList with
  | .value (.tmp a),[.tmp b]=>Nat.beq a x&&Nat.beq b y
  | _,_=>false)
 | _=>false
theorem genD_callv {d x y:Nat} {f:FuncId} {a b r:V} (hd:o.dst=some d) (ho:isCallV o x y=true)
  (hx:gt t' x=.fn (.func f) [a] []) (hy:gt t' y=b) (hr:call f [a,b] hp=some (.val r hp)) (ea:Ex1 a) (eb:Ex1 b) (qa:AM.quiet a=true) (qb:AM.quiet b=true) :
  genD P C call gl o t' loc hp J X=J r ⟨[],[],true,false,false,false⟩ loc hp:=by
 obtain ⟨c,ho,hc,hb⟩:∃ c,o.op=.call c∧c.callee=.value (.tmp x)∧c.args.toList=[.tmp y]:=by
  unfold isCallV at ho
  split at ho
  ·rename_i c hc
   split at ho
   ·rename_i a b e1 e2
    simp only [Bool.and_eq_true] at ho
    obtain rfl:=Nat.eq_of_beq_eq_true ho.1
    obtain rfl:=Nat.eq_of_beq_eq_true ho.2
    exact ⟨c,hc,e1,e2⟩
   ·simp at ho
  ·simp at ho
 have e:locV P C gl (⟨t',loc,hp⟩:St).ρ (⟨t',loc,hp⟩:St).lc o=none:=by
  unfold locV
  simp only [ho,pureV,hc];rfl
 have hf:footV P C gl (⟨t',loc,hp⟩:St).ρ (⟨t',loc,hp⟩:St).lc o=some ⟨[],[],true,true,false,false⟩:=by
  unfold footV
  rw [e]
  simp only [ho,hc,hb,opd_gt,hx,hy,opds,List.map_cons,List.map_nil,List.all_cons,List.all_nil,qa,qb,Bool.and_self,cond_true]
 have hs:stepV P C gl ⟨t',loc,hp⟩ o=some (.enter f [a,b] ⟨t',loc,hp⟩):=by
  unfold stepV
  rw [e]
  simp only [stepG,ho,callS,hc,hb,opd_gt,hx,hy,opds,List.map_cons,List.map_nil,List.append_nil,List.cons_append,List.nil_append]
  rw [exps_ex [a,b] _ ⟨ea,eb,trivial⟩]
 unfold genD
 rw [F.e_footV,F.e_oneV,F.e_rho,F.e_lcf,hf]
 show G.onSome (oneV P C call gl ⟨t',loc,hp⟩ o) _ none=_
 unfold oneV
 rw [hs]
 simp only [hr,putV,hd]
 show J (gt (aset t' d r) d) (F.settle hp hp ⟨[],[],true,true,false,false⟩) loc hp=_
 rw [gt_eq,aget_aset,if_pos rfl,settle_pure]
theorem Gives.mono {f:FuncId} {args:List V} {p p':V→Prop} (h:Gives f args p) (hp:∀ v,p v→p' v):Gives f args p':=fun st=>by
 obtain ⟨v,h1,h2⟩:=h st
 exact ⟨v,h1,hp v h2⟩
theorem locV_four1 {t:TypeId} {a:Operand} {x y z0 z1 z2 z3:V} {ρ:Nat→V} {lc:Nat→Nat × Row} (ho:o.op=.build t #[(0,a)]) (h2:four P t=true) (hz:zeroV P t=some (.agg [z0,z1,z2,z3]))
  (ha:AM.opd ρ a=.agg [x,y]) (px:Pl x) (py:Pl y):locV P C gl ρ lc o=some (.agg [x,y,z2,z3],none):=by
 unfold four at h2
 split at h2
 ·rename_i fs hu
  split at h2
  ·rename_i f0 f1 hfs
   simp only [Bool.and_eq_true] at h2
   obtain ⟨⟨a0,a1⟩,a2⟩:=h2
   have e:fs = #[f0,f1]:=by apply Array.toList_inj.1;rw [hfs]
   subst e
   split at a2
   ·rename_i na nb s0 s1
    simp only [Bool.and_eq_true] at a2
    have b1:na=2:=Nat.eq_of_beq_eq_true a2.1
    have b2:nb=2:=Nat.eq_of_beq_eq_true a2.2
    subst b1;subst b2
    have o0:=Nat.eq_of_beq_eq_true a0
    have i0:(P.info? f0.type).isSome=true:=by
     unfold szOf at s0
     cases h:P.info? f0.type with
     | none=>rw [h] at s0;simp at s0
     | some i=>rfl
    have i1:(P.info? f1.type).isSome=true:=by
     unfold szOf at s1
     cases h:P.info? f1.type with
     | none=>rw [h] at s1;simp at s1
     | some i=>rfl
    have e0:fieldOf P t 0=some f0:=by unfold fieldOf;rw [hu];rfl
    obtain ⟨w1,w2,w3⟩:=agg2 px py
    unfold locV
    simp only [ho,pureV,hu,hz,V.live,Bool.true_and]
    have ea:(#[f0,f1]:Array Field).all (fun f=>(P.info? f.type).isSome)=true:=by simp [i0,i1]
    rw [ea]
    have c0:V.cells (.agg [z0,z1,z2,z3])=[z0,z1,z2,z3]:=rfl
    simp only [cond_true,fillP,e0,ha,w1,w2,w3,s0,o0,Option.getD_some,List.length_cons,List.length_nil,c0]
    rfl
   ·simp at a2
  ·simp at h2
 ·simp at h2
end
end Go.AM.S
end
section
namespace Go.AM.S
open Go Go.AM Go.Proofs NumL
open _root_.Go.AM.G (R)
set_option maxRecDepth 100000
theorem tbl82:tbl 82=some ⟨rc82,[.cell 4 59]⟩:=by kernel_rfl
theorem tbl55:tbl 55=some ⟨rc55,[.cell 4 59]⟩:=by kernel_rfl
theorem tbl54:tbl 54=some ⟨rc54,[.tmp 4]⟩:=by kernel_rfl
theorem b50_1_1 {x y:V} (px:Pl x) (py:Pl y) (c:CallF) (t:Tm) (l:Lo) (h:Hp) (j:V→Lo→Hp→R):go1 Try.f50 50 1 1 3 (.agg [x,y]) c t l h j=j (.agg [x,y,.nils,.bool false]) l h :=
 gen_loc (C:=Cg) (gl:=Cg.glob 50) (call:=c) (o:=opA Try.f50 1 1) (d:=4) (by kernel_rfl) (locV_four1 (t:=59) (a:=.tmp 3) (by kernel_rfl) (by kernel_rfl) (show zeroV Pg 59=some (.agg [.nils,.bool false,.nils,.bool false]) by kernel_rfl) (by rw [opd_gt,gt_pt,if_pos rfl]) px py)
theorem whole_spec {k:Nat} {va:V} {z:Int} (ha:IsI k va z):Gives 50 [va] fun r=>IsQ k r (z:Rat):=by
 obtain ⟨s,b,rfl,ps,xs,qs⟩:=ha.form
 refine gives_of tbl50 fun h Q hQ=>?_
 unfold rc50
 refine sRG ?_
 refine ww_seq (ww_reg (fun n k=>by simp -implicitDefEqProofs (disch:=omega) only [go_sem,reduceIte,Nat.reduceEqDiff,ldc_two L26,b50_1_1 ps (Pl.bool _),stc_four N59 1 s (.bool b) .nils (.bool false) .nils (.bool false) .nils (.bool false) _ ps.ok rfl rfl rfl];rfl) ?_)
 refine ww_ret (hQ _ _ (fin_cell4 (x:=s) (y:=.bool b) (z:=.nils) (u:=.bool false) (f:=false) (d:=2) (g:=1) sS sS ps (Pl.bool _) Pl.nils (Pl.bool _) (fun x hx=>by cases hx)) ⟨s,b,.nils,false,rfl,ha,?_⟩)
 rw [(whole_q z).2]
 exact zeroI.mono (Nat.zero_le _)
theorem IsQ.plain {k:Nat} {s u:V} {b c:Bool} {q:Rat} (h1:IsI k (.agg [s,.bool b]) q.num) (h2:IsI k (.agg [u,.bool c]) ((q.den:Int) - 1)):Pl s∧Pl u∧Ex1 (.agg [s,.bool b,u,.bool c])∧AM.quiet (.agg [s,.bool b,u,.bool c])=true:=IsQ.facts (k:=k) ⟨_,h1⟩ ⟨_,h2⟩
theorem ratof_spec {k l:Nat} {va vb:V} {x y:Int} (ha:IsI k va x) (hb:IsI l vb y) (hk:k≤250000) (hl:l≤250000):Gives 82 [va,vb] fun r=>IsQ (max k l+3) r (Rat.divInt x y):=by
 obtain ⟨_,A1,v,rfl,I1⟩:=ratOf_spec ha hb hk hl ⟨[],none,0⟩
 obtain ⟨s,b,rfl,ps,xs,qs⟩:=ha.form
 obtain ⟨u,c,rfl,pu,xu,qu⟩:=hb.form
 refine gives_of tbl82 fun h Q hQ=>?_
 unfold rc82
 refine sRG ?_
 obtain ⟨_,A1,v,rfl,I1⟩:=ratOf_spec ha hb hk hl ⟨h.rows,none,h.mods⟩
 obtain ⟨s1,b1,u1,c1,rfl,J1,J2⟩:=I1
 obtain ⟨p1,p2,x12,q12⟩:=IsQ.plain J1 J2
 refine ww_seq (ww_call (A1) (fun n hn k=>by simp -implicitDefEqProofs (disch:=omega) only [go_sem,reduceIte,Nat.reduceEqDiff,ldc_two L26,clc2 hn xs xu,ext_tuple,stc_four N59 1 s1 (.bool b1) u1 (.bool c1) .nils (.bool false) .nils (.bool false) _ p1.ok rfl p2.ok rfl];rfl) ?_)
 refine ww_seq (ww_reg (fun n k=>by simp -implicitDefEqProofs (disch:=omega) only [go_sem,reduceIte,Nat.reduceEqDiff,ldc_four L59,stc_four N59 1 s1 (.bool b1) u1 (.bool c1) .nils (.bool false) .nils (.bool false) _ p1.ok rfl p2.ok rfl];rfl) ?_)
 exact ww_ret (hQ _ _ (fin_cell4 (x:=s1) (y:=.bool b1) (z:=u1) (u:=.bool c1) (f:=false) (d:=4) (g:=1) sS sS p1 (Pl.bool _) p2 (Pl.bool _) (fun x hx=>by cases hx)) ⟨s1,b1,u1,c1,rfl,J1,J2⟩)
end Go.AM.S
end
section
namespace Go.AM.S
open Go Go.AM Go.Proofs NumL
open _root_.Go.AM.G (R)
set_option maxRecDepth 100000
theorem qmul_spec {k l:Nat} {va vb:V} {q p:Rat} (ha:IsQ k va q) (hb:IsQ l vb p) (hk:k≤50000) (hl:l≤50000):Gives 55 [va,vb] fun r=>IsQ (k+l+13) r (q*p):=by
 have ha0:=ha;have hb0:=hb
 obtain ⟨s,b,u,c,rfl,h1,h2⟩:=ha
 obtain ⟨s',b',u',c',rfl,h3,h4⟩:=hb
 refine gives_of tbl55 fun h Q hQ=>?_
 unfold rc55
 refine sRG ?_
 obtain ⟨_,_,x0,q0⟩:=IsQ.plain h1 h2
 obtain ⟨_,_,x0',q0'⟩:=IsQ.plain h3 h4
 obtain ⟨p1,x1,q1⟩:=h1.nn
 obtain ⟨p3,x3,q3⟩:=h3.nn
 obtain ⟨_,A1,I1⟩:=mul_spec h1 h3 (by omega) (by omega) ⟨h.rows,none,h.mods⟩
 obtain ⟨_,A2,I2⟩:=below_spec ha0 (by omega) ⟨h.rows,none,h.mods⟩
 obtain ⟨_,A3,I3⟩:=below_spec hb0 (by omega) ⟨h.rows,none,h.mods⟩
 obtain ⟨_,A4,I4⟩:=mul_spec I2 I3 (by omega) (by omega) ⟨h.rows,none,h.mods⟩
 obtain ⟨_,A5,I5⟩:=ratof_spec I1 I4 (by omega) (by omega) ⟨h.rows,none,h.mods⟩
 rw [←Rat.divInt_mul_divInt,Rat.num_divInt_den,Rat.num_divInt_den] at I5
 obtain ⟨s5,b5,u5,c5,rfl,J1,J2⟩:=I5
 obtain ⟨p5,p6,x5,q5⟩:=IsQ.plain J1 J2
 refine ww_seq (ww_call ((A1.and A2).and ((A3.and A4).and A5)) (fun n hn k=>by simp -implicitDefEqProofs (disch:=omega) only [go_sem,reduceIte,Nat.reduceEqDiff,ldc_lo L26,ldc_four L59,cld2 hn.1.1 x1 x3 q1 q3,cld1 hn.1.2 x0 q0,cld1 hn.2.1.1 x0' q0',cld2 hn.2.1.2 I2.ex I3.ex I2.quiet I3.quiet,cld2 hn.2.2 I1.ex I4.ex I1.quiet I4.quiet,stc_four N59 1 s5 (.bool b5) u5 (.bool c5) .nils (.bool false) .nils (.bool false) _ p5.ok rfl p6.ok rfl];exact finD_ok (by kernel_rfl)) ?_)
 refine ww_ret (hQ _ _ (fin_cell4 (x:=s5) (y:=.bool b5) (z:=u5) (u:=.bool c5) (f:=false) (d:=4) (g:=1) sS sS p5 (Pl.bool _) p6 (Pl.bool _) (fun x hx=>by cases hx)) ?_)
 exact IsQ.mono ⟨s5,b5,u5,c5,rfl,J1,J2⟩ (by omega)
def cmpR (q p:Rat):Int:=cmpZ (q.num*(p.den:Int)) (p.num*(q.den:Int))
theorem qcmp_spec {k l:Nat} {va vb:V} {q p:Rat} (ha:IsQ k va q) (hb:IsQ l vb p) (hk:k≤50000) (hl:l≤50000):Gives 54 [va,vb] fun r=>r=.int .i64 (cmpR q p):=by
 have ha0:=ha;have hb0:=hb
 obtain ⟨s,b,u,c,rfl,h1,h2⟩:=ha
 obtain ⟨s',b',u',c',rfl,h3,h4⟩:=hb
 refine gives_of tbl54 fun h Q hQ=>?_
 unfold rc54
 refine sRG ?_
 obtain ⟨_,_,x0,q0⟩:=IsQ.plain h1 h2
 obtain ⟨_,_,x0',q0'⟩:=IsQ.plain h3 h4
 obtain ⟨p1,x1,q1⟩:=h1.nn
 obtain ⟨p3,x3,q3⟩:=h3.nn
 obtain ⟨_,A2,I2⟩:=below_spec ha0 (by omega) ⟨h.rows,none,h.mods⟩
 obtain ⟨_,A3,I3⟩:=below_spec hb0 (by omega) ⟨h.rows,none,h.mods⟩
 obtain ⟨_,A1,I1⟩:=mul_spec h1 I3 (by omega) (by omega) ⟨h.rows,none,h.mods⟩
 obtain ⟨_,A4,I4⟩:=mul_spec h3 I2 (by omega) (by omega) ⟨h.rows,none,h.mods⟩
 obtain ⟨_,A5,rfl⟩:=cmp_spec I1 I4 (by omega) (by omega) ⟨h.rows,none,h.mods⟩
 refine ww_seq (ww_call ((A1.and A2).and ((A3.and A4).and A5)) (fun n hn k=>by simp -implicitDefEqProofs (disch:=omega) only [go_sem,reduceIte,Nat.reduceEqDiff,ldc_lo L26,ldc_four L59,cld2 hn.1.1 x1 I3.ex q1 I3.quiet,cld1 hn.1.2 x0 q0,cld1 hn.2.1.1 x0' q0',cld2 hn.2.1.2 x3 I2.ex q3 I2.quiet,cld2 hn.2.2 I1.ex I4.ex I1.quiet I4.quiet];exact finD_ok (by kernel_rfl)) ?_)
 exact ww_ret (hQ _ _ (fin_tmp (v:=.int .i64 (cmpZ (q.num*(p.den:Int)) (p.num*(q.den:Int)))) sS (Ex1.int _ _ _) rfl rfl) rfl)
end Go.AM.S
end
section
namespace Go.AM.S
open Go Go.AM Go.Proofs NumL
open _root_.Go.AM.G (R)
set_option maxRecDepth 100000
theorem tbl81:tbl 81=some ⟨rc81,[.cell 6 59]⟩:=by kernel_rfl
theorem tbl53:tbl 53=some ⟨rc53,[.cell 4 59]⟩:=by kernel_rfl
theorem tbl56:tbl 56=some ⟨rc56,[.cell 4 59]⟩:=by kernel_rfl
theorem tbl52:tbl 52=some ⟨rc52,[.cell 2 26]⟩:=by kernel_rfl
theorem da52_1_8 (c:CallF) (t:Tm) (l:Lo) (h:Hp) (J:JD) (X:XD):gD Try.f52 52 1 8 c t l h J X=J (.ptr (.loc 3 ((lg l 3).1+1)) 0) ⟨[3],[3],false,false,false,false⟩ (lp l 3 ((lg l 3).1+1,.cells false [.nils,.bool false])) h :=
 genD_alloc (C:=Cg) (gl:=Cg.glob 52) (call:=c) (o:=opA Try.f52 1 8) (d:=3) (t:=26) (n:=2) (z:=.agg [.nils,.bool false]) (by kernel_rfl) (by kernel_rfl) (by kernel_rfl) (by kernel_rfl) (by kernel_rfl) rfl rfl
theorem da52_1_9 (c:CallF) (t:Tm) (l:Lo) (h:Hp) (J:JD) (X:XD):gD Try.f52 52 1 9 c t l h J X=J (.ptr (.loc 4 ((lg l 4).1+1)) 0) ⟨[4],[4],false,false,false,false⟩ (lp l 4 ((lg l 4).1+1,.cells false [.nils,.bool false])) h :=
 genD_alloc (C:=Cg) (gl:=Cg.glob 52) (call:=c) (o:=opA Try.f52 1 9) (d:=4) (t:=26) (n:=2) (z:=.agg [.nils,.bool false]) (by kernel_rfl) (by kernel_rfl) (by kernel_rfl) (by kernel_rfl) (by kernel_rfl) rfl rfl
theorem floor_spec {k:Nat} {va:V} {q:Rat} (ha:IsQ k va q) (hk:k≤50000):Gives 52 [va] fun r=>IsI k r q.floor:=by
 have ha0:=ha
 obtain ⟨s,b,u,c,rfl,h1,h2⟩:=ha
 refine gives_of tbl52 fun h Q hQ=>?_
 unfold rc52
 refine sRG ?_
 obtain ⟨_,_,x0,q0⟩:=IsQ.plain h1 h2
 obtain ⟨p1,x1,q1⟩:=h1.nn
 obtain ⟨_,A2,I2⟩:=below_spec ha0 (by omega) ⟨h.rows,none,h.mods⟩
 obtain ⟨_,A5,v,w,rfl,I5,I6⟩:=quo_spec h1 I2 (by omega) (by omega) ⟨h.rows,none,h.mods⟩
 rw [←Rat.floor_def] at I5
 obtain ⟨s5,b5,rfl,p5,x5,q5⟩:=I5.form
 obtain ⟨s6,b6,rfl,p6,x6,q6⟩:=I6.form
 refine ww_seq (ww_call (A2.and A5) (fun n hn k=>by simp -implicitDefEqProofs (disch:=omega) only [go_sem,reduceIte,Nat.reduceEqDiff,ldc_lo L26,ldc_four L59,cld1 hn.1 x0 q0,cld2 hn.2 x1 I2.ex q1 I2.quiet,ext_tuple,da52_1_8,da52_1_9,lg_lf,stc_two N26 1 s5 (.bool b5) .nils (.bool false) _ p5.ok rfl,stc_two N26 1 s6 (.bool b6) .nils (.bool false) _ p6.ok rfl];exact finD_ok (by kernel_rfl)) ?_)
 refine ww_seq (ww_reg (fun n k=>by simp -implicitDefEqProofs (disch:=omega) only [go_sem,reduceIte,Nat.reduceEqDiff,ldc_two L26,stc_two N26 1 s5 (.bool b5) .nils (.bool false) _ p5.ok rfl];rfl) ?_)
 exact ww_ret (hQ _ _ (fin_cell (x:=s5) (y:=.bool b5) (f:=false) (d:=2) (g:=1) (by kernel_rfl) sS sS p5 (Pl.bool _) rfl) I5)
theorem fn53_1_7 (v:V) (c:CallF) (t:Tm) (l:Lo) (h:Hp) (J:JD) (X:XD):gD Try.f53 53 1 7 c (pt t 11 v) l h J X=J (.fn (.func 25) [v] []) ⟨[],[],false,false,false,false⟩ l h :=
 genD_fn (C:=Cg) (gl:=Cg.glob 53) (call:=c) (o:=opA Try.f53 1 7) (d:=12) (x:=11) (by kernel_rfl) (by kernel_rfl) (by rw [gt_pt,if_pos rfl])
theorem fn56_1_7 (v:V) (c:CallF) (t:Tm) (l:Lo) (h:Hp) (J:JD) (X:XD):gD Try.f56 56 1 7 c (pt t 11 v) l h J X=J (.fn (.func 27) [v] []) ⟨[],[],false,false,false,false⟩ l h :=
 genD_fn (C:=Cg) (gl:=Cg.glob 56) (call:=c) (o:=opA Try.f56 1 7) (d:=12) (x:=11) (by kernel_rfl) (by kernel_rfl) (by rw [gt_pt,if_pos rfl])
theorem cv81_1_6 {f:FuncId} {a b r:V} {c:CallF} {h:Hp} (hr:c f [a,b] h=some (.val r h)) (ea:Ex1 a) (eb:Ex1 b) (qa:AM.quiet a=true) (qb:AM.quiet b=true) (t:Tm) (l:Lo) (J:JD) (X:XD):gD Try.f81 81 1 6 c (pt (pt t 7 (.fn (.func f) [a] [])) 12 b) l h J X=J r ⟨[],[],true,false,false,false⟩ l h :=
 genD_callv (C:=Cg) (gl:=Cg.glob 81) (call:=c) (o:=opA Try.f81 1 6) (d:=13) (x:=7) (y:=12) (by kernel_rfl) (by kernel_rfl) (by rw [gt_pt,if_neg (by decide),gt_pt,if_pos rfl]) (by rw [gt_pt,if_pos rfl]) hr ea eb qa qb
theorem ex_fn {f:FuncId} {x y:V} (hx:Pl x) (hy:Pl y):Ex1 (.fn (.func f) [.agg [x,y]] []):=fun st=>by
 have e:(V.fn (.func f) [.agg [x,y]] []).noLoc=true:=by simp only [V.noLoc,V.noLocL,hx.noLoc,hy.noLoc,Bool.and_self]
 show (bif (V.fn (.func f) [.agg [x,y]] []).live&&(V.fn (.func f) [.agg [x,y]] []).noLoc then _ else none)=_
 rw [e];rfl
theorem cld3 {f:FuncId} {v w u:V} {call:CallF} {loc:Lo} {hp:Hp} {j:JD} {x:XD} {r:V} (hc:call f [v,w,u] hp=some (.val r hp)) (h1:Ex1 v) (h2:Ex1 w) (h3:Ex1 u) (q1:AM.quiet v=true) (q2:AM.quiet w=true) (q3:AM.quiet u=true):clD call f [v,w,u] loc hp j x=j r ⟨[],[],true,false,false,false⟩ loc hp:=clD_pure hc ⟨h1,h2,h3,trivial⟩ (by simp [q1,q2,q3])
theorem crossed_spec {k l m n:Nat} {va vb w:V} {q p:Rat} {f:FuncId} {x z:Int} (ha:IsQ k va q) (hb:IsQ l vb p) (hw:IsI m w x) (hk:k≤50000) (hl:l≤50000) (hn0:n≤250000)
  (hf:∀ v,IsI (l+(max k 2+1)) v (p.num*q.den)→Gives f [w,v] fun r=>IsI n r z) :
  Gives 81 [va,vb,.fn (.func f) [w] []] fun r=>IsQ (max n (k+l+8)+3) r (Rat.divInt z (q.den*p.den)):=by
 have ha0:=ha;have hb0:=hb
 obtain ⟨s,b,u,c,rfl,h1,h2⟩:=ha
 obtain ⟨s',b',u',c',rfl,h3,h4⟩:=hb
 refine gives_of tbl81 fun h Q hQ=>?_
 unfold rc81
 refine sRG ?_
 obtain ⟨_,_,x0,q0⟩:=IsQ.plain h1 h2
 obtain ⟨_,_,x0',q0'⟩:=IsQ.plain h3 h4
 obtain ⟨p3,x3,q3⟩:=h3.nn
 obtain ⟨_,A2,I2⟩:=below_spec ha0 (by omega) ⟨h.rows,none,h.mods⟩
 obtain ⟨_,A3,I3⟩:=below_spec hb0 (by omega) ⟨h.rows,none,h.mods⟩
 obtain ⟨_,A1,I1⟩:=mul_spec h3 I2 (by omega) (by omega) ⟨h.rows,none,h.mods⟩
 obtain ⟨_,A6,I6⟩:=hf _ I1 ⟨h.rows,none,h.mods⟩
 obtain ⟨_,A4,I4⟩:=mul_spec I2 I3 (by omega) (by omega) ⟨h.rows,none,h.mods⟩
 obtain ⟨_,A5,I5⟩:=ratof_spec I6 (I4.mono (l:=k+l+8) (by omega)) (by omega) (by omega) ⟨h.rows,none,h.mods⟩
 obtain ⟨s5,b5,u5,c5,rfl,J1,J2⟩:=I5
 obtain ⟨p5,p6,x5,q5⟩:=IsQ.plain J1 J2
 refine ww_seq (ww_call (((A1.and A2).and A6).and ((A3.and A4).and A5)) (fun n hn k=>by simp -implicitDefEqProofs (disch:=omega) only [go_sem,reduceIte,Nat.reduceEqDiff,gt_start,List.getD_cons_zero,List.getD_cons_succ,ldc_lo L26,ldc_four L59,cld2 hn.1.1.1 x3 I2.ex q3 I2.quiet,cld1 hn.1.1.2 x0 q0,cv81_1_6 hn.1.2 hw.ex I1.ex hw.quiet I1.quiet,cld1 hn.2.1.1 x0' q0',cld2 hn.2.1.2 I2.ex I3.ex I2.quiet I3.quiet,cld2 hn.2.2 I6.ex I4.ex I6.quiet I4.quiet,stc_four N59 1 s5 (.bool b5) u5 (.bool c5) .nils (.bool false) .nils (.bool false) _ p5.ok rfl p6.ok rfl];exact finD_ok (by kernel_rfl)) ?_)
 exact ww_ret (hQ _ _ (fin_cell4 (x:=s5) (y:=.bool b5) (z:=u5) (u:=.bool c5) (f:=false) (d:=6) (g:=1) sS sS p5 (Pl.bool _) p6 (Pl.bool _) (fun x hx=>by cases hx)) ⟨s5,b5,u5,c5,rfl,J1,J2⟩)
theorem den_ne (q:Rat):((q.den:Nat):Int)≠0:=by have:=q.den_pos;omega
theorem qadd_spec {k l:Nat} {va vb:V} {q p:Rat} (ha:IsQ k va q) (hb:IsQ l vb p) (hk:k≤50000) (hl:l≤50000):Gives 53 [va,vb] fun r=>IsQ (k+l+12) r (q+p):=by
 have ha0:=ha;have hb0:=hb
 obtain ⟨s,b,u,c,rfl,h1,h2⟩:=ha
 obtain ⟨s',b',u',c',rfl,h3,h4⟩:=hb
 refine gives_of tbl53 fun h Q hQ=>?_
 unfold rc53
 refine sRG ?_
 obtain ⟨_,_,x0,q0⟩:=IsQ.plain h1 h2
 obtain ⟨_,_,x0',q0'⟩:=IsQ.plain h3 h4
 obtain ⟨p1,x1,q1⟩:=h1.nn
 obtain ⟨_,A3,I3⟩:=below_spec hb0 (by omega) ⟨h.rows,none,h.mods⟩
 obtain ⟨_,A1,I1⟩:=mul_spec h1 I3 (by omega) (by omega) ⟨h.rows,none,h.mods⟩
 obtain ⟨s4,b4,rfl,p4,x4,q4⟩:=I1.form
 obtain ⟨_,A5,I5⟩:=crossed_spec (n:=k+l+5) ha0 hb0 I1 hk hl (by omega) (fun v hv=>(add_spec I1 hv (by omega) (by omega)).mono fun _ hr=>hr.mono (by omega)) ⟨h.rows,none,h.mods⟩
 rw [←Rat.divInt_add_divInt _ _ (den_ne q) (den_ne p),Rat.num_divInt_den,Rat.num_divInt_den] at I5
 obtain ⟨s5,b5,u5,c5,rfl,J1,J2⟩:=I5
 obtain ⟨p5,p6,x5,q5⟩:=IsQ.plain J1 J2
 refine ww_seq (ww_call ((A3.and A1).and A5) (fun n hn k=>by simp -implicitDefEqProofs (disch:=omega) only [go_sem,reduceIte,Nat.reduceEqDiff,ldc_lo L26,ldc_four L59,cld1 hn.1.1 x0' q0',cld2 hn.1.2 x1 I3.ex q1 I3.quiet,fn53_1_7,cld3 hn.2 x0 x0' (ex_fn p4 (Pl.bool _)) q0 q0' rfl,stc_four N59 1 s5 (.bool b5) u5 (.bool c5) .nils (.bool false) .nils (.bool false) _ p5.ok rfl p6.ok rfl];exact finD_ok (by kernel_rfl)) ?_)
 exact ww_ret (hQ _ _ (fin_cell4 (x:=s5) (y:=.bool b5) (z:=u5) (u:=.bool c5) (f:=false) (d:=4) (g:=1) sS sS p5 (Pl.bool _) p6 (Pl.bool _) (fun x hx=>by cases hx)) (IsQ.mono ⟨s5,b5,u5,c5,rfl,J1,J2⟩ (by omega)))
theorem qsub_spec {k l:Nat} {va vb:V} {q p:Rat} (ha:IsQ k va q) (hb:IsQ l vb p) (hk:k≤50000) (hl:l≤50000):Gives 56 [va,vb] fun r=>IsQ (k+l+12) r (q - p):=by
 have ha0:=ha;have hb0:=hb
 obtain ⟨s,b,u,c,rfl,h1,h2⟩:=ha
 obtain ⟨s',b',u',c',rfl,h3,h4⟩:=hb
 refine gives_of tbl56 fun h Q hQ=>?_
 unfold rc56
 refine sRG ?_
 obtain ⟨_,_,x0,q0⟩:=IsQ.plain h1 h2
 obtain ⟨_,_,x0',q0'⟩:=IsQ.plain h3 h4
 obtain ⟨p1,x1,q1⟩:=h1.nn
 obtain ⟨_,A3,I3⟩:=below_spec hb0 (by omega) ⟨h.rows,none,h.mods⟩
 obtain ⟨_,A1,I1⟩:=mul_spec h1 I3 (by omega) (by omega) ⟨h.rows,none,h.mods⟩
 obtain ⟨s4,b4,rfl,p4,x4,q4⟩:=I1.form
 obtain ⟨_,A5,I5⟩:=crossed_spec (n:=k+l+5) ha0 hb0 I1 hk hl (by omega) (fun v hv=>(sub_spec I1 hv (by omega) (by omega)).mono fun _ hr=>hr.mono (by omega)) ⟨h.rows,none,h.mods⟩
 rw [←Rat.divInt_sub_divInt _ _ (den_ne q) (den_ne p),Rat.num_divInt_den,Rat.num_divInt_den] at I5
 obtain ⟨s5,b5,u5,c5,rfl,J1,J2⟩:=I5
 obtain ⟨p5,p6,x5,q5⟩:=IsQ.plain J1 J2
 refine ww_seq (ww_call ((A3.and A1).and A5) (fun n hn k=>by simp -implicitDefEqProofs (disch:=omega) only [go_sem,reduceIte,Nat.reduceEqDiff,ldc_lo L26,ldc_four L59,cld1 hn.1.1 x0' q0',cld2 hn.1.2 x1 I3.ex q1 I3.quiet,fn56_1_7,cld3 hn.2 x0 x0' (ex_fn p4 (Pl.bool _)) q0 q0' rfl,stc_four N59 1 s5 (.bool b5) u5 (.bool c5) .nils (.bool false) .nils (.bool false) _ p5.ok rfl p6.ok rfl];exact finD_ok (by kernel_rfl)) ?_)
 exact ww_ret (hQ _ _ (fin_cell4 (x:=s5) (y:=.bool b5) (z:=u5) (u:=.bool c5) (f:=false) (d:=4) (g:=1) sS sS p5 (Pl.bool _) p6 (Pl.bool _) (fun x hx=>by cases hx)) (IsQ.mono ⟨s5,b5,u5,c5,rfl,J1,J2⟩ (by omega)))
end Go.AM.S
end
section
namespace Go.AM.S
open Go Go.AM Go.Proofs NumL
open _root_.Go.AM.G (R)
set_option maxRecDepth 100000
end Go.AM.S
end
section
namespace Go.AM.S
open Go Go.AM Go.Proofs NumL
open _root_.Go.AM.G (R)
set_option maxRecDepth 100000
theorem tbl45:tbl 45=some ⟨rc45,[.cell 4 63,.tmp 5]⟩:=by kernel_rfl
def IsF (k:Nat) (v:V) (q:Rat):Prop:=∃ b s c u,v=.agg [.bool b,s,.bool c,u]∧IsR k (.agg [.bool b,s]) q.num∧IsR k (.agg [.bool c,u]) (q.den:Int)
theorem IsF.mono {k l:Nat} {v:V} {q:Rat} (h:IsF k v q) (hl:k≤l):IsF l v q:=by
 obtain ⟨s,b,u,c,e,h1,h2⟩:=h
 exact ⟨s,b,u,c,e,h1.mono hl,h2.mono hl⟩
theorem IsF.plain {k:Nat} {s u:V} {b c:Bool} {x y:Int} (h1:IsR k (.agg [.bool b,s]) x) (h2:IsR k (.agg [.bool c,u]) y):Pl s∧Pl u∧Ex1 (.agg [.bool b,s,.bool c,u])∧AM.quiet (.agg [.bool b,s,.bool c,u])=true:=by
 obtain ⟨p1,_,q1⟩:=h1.nn
 obtain ⟨p2,_,q2⟩:=h2.nn
 exact ⟨p1,p2,exp_agg4 (Pl.bool _) p1 (Pl.bool _) p2,quiet4 (Pl.bool _) p1 (Pl.bool _) p2 q1 q2⟩
theorem locV_fourB {P:Program} {C:Cfg} {gl:Nat→Bool} {o:Oper} {t:TypeId} {a:Operand} {x y z0 z1 z2 z3:V} {ρ:Nat→V} {lc:Nat→Nat × Row} (ho:o.op=.build t #[(1,a)]) (h2:four P t=true) (hz:zeroV P t=some (.agg [z0,z1,z2,z3]))
  (ha:AM.opd ρ a=.agg [x,y]) (px:Pl x) (py:Pl y):locV P C gl ρ lc o=some (.agg [z0,z1,x,y],none):=by
 unfold four at h2
 split at h2
 ·rename_i fs hu
  split at h2
  ·rename_i f0 f1 hfs
   simp only [Bool.and_eq_true] at h2
   obtain ⟨⟨a0,a1⟩,a2⟩:=h2
   have e:fs = #[f0,f1]:=by apply Array.toList_inj.1;rw [hfs]
   subst e
   split at a2
   ·rename_i na nb s0 s1
    simp only [Bool.and_eq_true] at a2
    have b1:na=2:=Nat.eq_of_beq_eq_true a2.1
    have b2:nb=2:=Nat.eq_of_beq_eq_true a2.2
    subst b1;subst b2
    have o1:=Nat.eq_of_beq_eq_true a1
    have i0:(P.info? f0.type).isSome=true:=by
     unfold szOf at s0
     cases h:P.info? f0.type with
     | none=>rw [h] at s0;simp at s0
     | some i=>rfl
    have i1:(P.info? f1.type).isSome=true:=by
     unfold szOf at s1
     cases h:P.info? f1.type with
     | none=>rw [h] at s1;simp at s1
     | some i=>rfl
    have e1:fieldOf P t 1=some f1:=by unfold fieldOf;rw [hu];rfl
    obtain ⟨w1,w2,w3⟩:=agg2 px py
    unfold locV
    simp only [ho,pureV,hu,hz,V.live,Bool.true_and]
    have ea:(#[f0,f1]:Array Field).all (fun f=>(P.info? f.type).isSome)=true:=by simp [i0,i1]
    rw [ea]
    have c0:V.cells (.agg [z0,z1,z2,z3])=[z0,z1,z2,z3]:=rfl
    simp only [cond_true,fillP,e1,ha,w1,w2,w3,s1,o1,Option.getD_some,List.length_cons,List.length_nil,c0]
    rfl
   ·simp at a2
  ·simp at h2
 ·simp at h2
theorem b45_2_1 {x y:V} (px:Pl x) (py:Pl y) (c:CallF) (t:Tm) (l:Lo) (h:Hp) (j:V→Lo→Hp→R):go1 Try.f45 45 2 1 14 (.agg [x,y]) c t l h j=j (.agg [.bool false,.nils,x,y]) l h :=
 gen_loc (C:=Cg) (gl:=Cg.glob 45) (call:=c) (o:=opA Try.f45 2 1) (d:=15) (by kernel_rfl) (locV_fourB (t:=63) (a:=.tmp 14) (by kernel_rfl) (by kernel_rfl) (show zeroV Pg 63=some (.agg [.bool false,.nils,.bool false,.nils]) by kernel_rfl) (by rw [opd_gt,gt_pt,if_pos rfl]) px py)
theorem b45_8_2 {x y u v:V} (px:Pl x) (py:Pl y) (pu:Pl u) (pv:Pl v) (c:CallF) (t:Tm) (l:Lo) (h:Hp) (j:V→Lo→Hp→R):go2 Try.f45 45 8 2 38 39 (.agg [x,y]) (.agg [u,v]) c t l h j=j (.agg [x,y,u,v]) l h :=
 gen_loc (C:=Cg) (gl:=Cg.glob 45) (call:=c) (o:=opA Try.f45 8 2) (d:=40) (by kernel_rfl) (locV_four (a:=.tmp 38) (b:=.tmp 39) (by kernel_rfl) (by kernel_rfl) (show zeroV Pg 63=some (.agg [.bool false,.nils,.bool false,.nils]) by kernel_rfl) (by rw [opd_gt,gt_pt,if_neg (by decide),gt_pt,if_pos rfl]) (by rw [opd_gt,gt_pt,if_pos rfl]) px py pu pv)
theorem fin_cell4f_tmp {h:Hp} {a b d g:Nat} {f:Bool} {s:St} {x y z u w:V} (hv:gt s.tm a=.ptr (.loc d g) 0) (hr:lg s.loc d=(g,.cells f [x,y,z,u])) (hx:Pl x) (hy:Pl y) (hz:Pl z) (hu:Pl u) (hb:gt s.tm b=w) (hw:Pl w) (hc:DG h.rows.length s.hp) :
  fin Pg h [.cell a 63,.tmp b] s=some (.val (.tuple [.agg [x,y,z,u],w]) h):=by
 have e1:resV Pg s [.cell a 63,.tmp b]=some [.agg [x,y,z,u],w]:=by
  simp only [resV,rho_gt,hv,hb,getRow_loc hr,partV,show layE Pg 63=some (4,true) by kernel_rfl,Option.map_some]
  rfl
 exact fin_gen e1 ⟨exp_agg4 hx hy hz hu,hw.ex,trivial⟩ (by simp only [V.noRefsL,V.noRefs,hx.refs,hy.refs,hz.refs,hu.refs,hw.refs,Bool.and_self]) hc
theorem frac_spec {k l:Nat} {va vb:V} {x y:Int} (ha:IsR k va x) (hb:IsR l vb y) (hk:k≤90000) (hl:l≤90000):Gives 45 [va,vb] fun r=>∃ v,r=.tuple [v,.bool (decide (y≠0))]∧IsF (max k l+5) v (Rat.divInt x y):=by
 obtain ⟨s,b,rfl,ps,xs,qs⟩:=ha.form
 obtain ⟨u,c,rfl,pu,xu,qu⟩:=hb.form
 refine gives_of tbl45 fun h Q hQ=>?_
 unfold rc45
 refine sRG ?_
 obtain ⟨_,Ps,rfl⟩:=signR_spec hb (by omega) ⟨h.rows,none,h.mods⟩
 by_cases hy:y=0
 ·rw [sgn_zero hy] at Ps
  refine ww_seq (ww_seq (ww_call (Ps) (fun n hn k=>by simp -implicitDefEqProofs (disch:=omega) only [go_sem,reduceIte,Nat.reduceEqDiff,gt_start,List.getD_cons_zero,List.getD_cons_succ,ldc_two L31,clc1 hn xu,iZ_eql];rfl) ?_))
  obtain ⟨_,A1,I1⟩:=ofR_spec (z:=.ofNat 1) (by decide) (by decide) ⟨h.rows,none,h.mods⟩
  obtain ⟨s1,b1,rfl,p1,_,_⟩:=I1.form
  refine ww_true sS ?_
  refine ww_seq (ww_call (A1) (fun n hn k=>by simp -implicitDefEqProofs (disch:=omega) only [go_sem,reduceIte,Nat.reduceEqDiff,clc1 hn (Ex1.int _ _),b45_2_1 (Pl.bool _) p1,stc_four N63 1 (.bool false) .nils (.bool b1) s1 (.bool false) .nils (.bool false) .nils _ rfl rfl rfl p1.ok];rfl) ?_)
  refine ww_ret (hQ _ _ (fin_cell4f_tmp (x:=.bool false) (y:=.nils) (z:=.bool b1) (u:=s1) (w:=.bool false) (f:=false) (d:=4) (g:=1) sS sS (Pl.bool _) Pl.nils (Pl.bool _) p1 sS (Pl.bool _) (fun x hx=>by cases hx)) ⟨_,by rw [decide_eq_false (by omega)],?_⟩)
  rw [hy,Rat.divInt_zero]
  exact ⟨_,_,_,_,rfl,zeroR.mono (Nat.zero_le _),I1.mono (by omega)⟩
 ·have hs:∃ z,sgn y=z∧bin Pg .eql 3 true (.int .i64 z) (.int .i64 (.ofNat 0))=some (.bool false)∧bin Pg .lss 3 true (.int .i64 z) (.int .i64 (.ofNat 0))=some (.bool (decide (y<0))):=by
   rcases Int.lt_or_lt_of_ne hy with e | e
   ·exact ⟨.negSucc 0,by unfold sgn cmpZ;rw [if_pos e],rfl,by rw [decide_eq_true e];rfl⟩
   ·exact ⟨.ofNat 1,sgn_pos e,rfl,by rw [decide_eq_false (by omega)];rfl⟩
  obtain ⟨z,hz,hz1,hz2⟩:=hs
  rw [hz] at Ps
  refine ww_seq (ww_seq (ww_call (Ps) (fun n hn k=>by simp -implicitDefEqProofs (disch:=omega) only [go_sem,reduceIte,Nat.reduceEqDiff,gt_start,List.getD_cons_zero,List.getD_cons_succ,ldc_two L31,clc1 hn xu,hz1];rfl) ?_))
  refine ww_false sS (ww_skip ?_)
  refine ww_join (M:=fun st=>∃ s2 b2 u2 c2,IsR k (.agg [.bool b2,s2]) (y.sign*x)∧IsR l (.agg [.bool c2,u2]) ((y.natAbs:Nat):Int)∧gt st.tm 2=.ptr (.loc 2 1) 0∧gt st.tm 3=.ptr (.loc 3 1) 0∧gt st.tm 4=.ptr (.loc 4 1) 0∧lg st.loc 2=(1,.cells false [.bool b2,s2])∧lg st.loc 3=(1,.cells false [.bool c2,u2])∧lg st.loc 4=(1,.cells false [.bool false,.nils,.bool false,.nils])∧lg st.loc 6=(0,.gone)∧lg st.loc 7=(0,.gone)∧lg st.loc 8=(0,.gone)∧lg st.loc 9=(0,.gone)∧lg st.loc 10=(0,.gone)∧st.hp=⟨h.rows,none,h.mods⟩) ?_ ?_
  ·refine ww_seq (ww_call (Ps) (fun n hn k=>by simp -implicitDefEqProofs (disch:=omega) only [go_sem,reduceIte,Nat.reduceEqDiff,gt_start,List.getD_cons_zero,List.getD_cons_succ,ldc_two L31,clc1 hn xu,hz2];rfl) ?_)
   refine ww_if (by simp only [gt_pt,reduceIte];rfl) (fun hneg=>?_) (fun hpos=>ww_skip ?_)
   ·obtain ⟨r1,A1,I1⟩:=negR_spec ha (by omega) ⟨h.rows,none,h.mods⟩
    obtain ⟨r2,A2,I2⟩:=negR_spec hb (by omega) ⟨h.rows,none,h.mods⟩
    obtain ⟨s1,b1,rfl,p1,_,_⟩:=I1.form
    obtain ⟨s2,b2,rfl,p2,_,_⟩:=I2.form
    refine ww_call (A1.and A2) (fun n hn k=>by
     simp -implicitDefEqProofs (disch:=omega) only [go_sem,reduceIte,Nat.reduceEqDiff,gt_start,List.getD_cons_zero,List.getD_cons_succ,ldc_two L31,cld1 hn.1 xs qs,cld1 hn.2 xu qu,stc_two N31 1 (.bool b1) s1 (.bool b) s _ rfl p1.ok,stc_two N31 1 (.bool b2) s2 (.bool c) u _ rfl p2.ok]
     exact finD_ok (by kernel_rfl)) ?_
    refine ⟨s1,b1,s2,b2,by rw [sign_neg_mul hneg];exact I1,?_,sSG,sSG,sS,sS,sS,sS,(by simp -implicitDefEqProofs (disch:=omega) only [go_sem,reduceIte,Nat.reduceEqDiff,lg_lf]),(by simp -implicitDefEqProofs (disch:=omega) only [go_sem,reduceIte,Nat.reduceEqDiff,lg_lf]),(by simp -implicitDefEqProofs (disch:=omega) only [go_sem,reduceIte,Nat.reduceEqDiff,lg_lf]),(by simp -implicitDefEqProofs (disch:=omega) only [go_sem,reduceIte,Nat.reduceEqDiff,lg_lf]),(by simp -implicitDefEqProofs (disch:=omega) only [go_sem,reduceIte,Nat.reduceEqDiff,lg_lf]),rfl⟩
    rw [show ((y.natAbs:Nat):Int) = -y by omega];exact I2
   ·have hp:0<y:=by omega
    refine ⟨s,b,u,c,by rw [sign_pos_mul hp];exact ha,?_,sSG,sSG,sS,sS,sS,sS,(by simp -implicitDefEqProofs (disch:=omega) only [go_sem,reduceIte,Nat.reduceEqDiff,lg_lf]),(by simp -implicitDefEqProofs (disch:=omega) only [go_sem,reduceIte,Nat.reduceEqDiff,lg_lf]),(by simp -implicitDefEqProofs (disch:=omega) only [go_sem,reduceIte,Nat.reduceEqDiff,lg_lf]),(by simp -implicitDefEqProofs (disch:=omega) only [go_sem,reduceIte,Nat.reduceEqDiff,lg_lf]),(by simp -implicitDefEqProofs (disch:=omega) only [go_sem,reduceIte,Nat.reduceEqDiff,lg_lf]),rfl⟩
    rw [show ((y.natAbs:Nat):Int)=y by omega];exact hb
  ·intro st ⟨s2,b2,u2,c2,I1,I2,h2,h3,h4,l2,l3,l4,l6,l7,l8,l9,l10,hhp⟩
   obtain ⟨p1,x1,q1⟩:=I1.nn
   obtain ⟨p2,x2,q2⟩:=I2.nn
   obtain ⟨r3,A3,I3⟩:=gcdR_spec I1 I2 (by omega) (by omega) ⟨h.rows,none,h.mods⟩
   rw [Int.natAbs_natCast] at I3
   obtain ⟨s3,b3,rfl,p3,x3,q3⟩:=I3.form
   refine ww_seq (ww_call (A3) (fun n hn k=>by simp -implicitDefEqProofs (disch:=omega) only [go_sem,reduceIte,Nat.reduceEqDiff,h2,h3,l2,l3,l6,hhp,ldc_two L31,clc2 hn x1 x2,stc_two N31 1 (.bool b3) s3 (.bool false) .nils _ rfl p3.ok];rfl) ?_)
   obtain ⟨_,A4,v4,w4,rfl,I4,J4⟩:=quoR_spec I1 I3 (by omega) (by omega) ⟨h.rows,none,h.mods⟩
   obtain ⟨s4,b4,rfl,p4,x4,q4⟩:=I4.form
   obtain ⟨s4',b4',rfl,p4',_,_⟩:=J4.form
   refine ww_seq (ww_call (A4) (fun n hn k=>by simp -implicitDefEqProofs (disch:=omega) only [go_sem,reduceIte,Nat.reduceEqDiff,h2,l2,l7,l8,ldc_two L31,clc2 hn x1 x3,ext_tuple,stc_two N31 1 (.bool b4) s4 (.bool false) .nils _ rfl p4.ok,stc_two N31 1 (.bool b4') s4' (.bool false) .nils _ rfl p4'.ok];rfl) ?_)
   obtain ⟨_,A5,v5,w5,rfl,I5,J5⟩:=quoR_spec I2 I3 (by omega) (by omega) ⟨h.rows,none,h.mods⟩
   obtain ⟨s5,b5,rfl,p5,x5,q5⟩:=I5.form
   obtain ⟨s5',b5',rfl,p5',_,_⟩:=J5.form
   refine ww_seq (ww_call (A5) (fun n hn k=>by simp -implicitDefEqProofs (disch:=omega) only [go_sem,reduceIte,Nat.reduceEqDiff,h3,l3,l9,l10,ldc_two L31,clc2 hn x2 x3,ext_tuple,stc_two N31 1 (.bool b5) s5 (.bool false) .nils _ rfl p5.ok,stc_two N31 1 (.bool b5') s5' (.bool false) .nils _ rfl p5'.ok];rfl) ?_)
   obtain ⟨e1,e2⟩:=divInt_parts (x:=x) hy
   refine ww_seq (ww_reg (fun n k=>by simp -implicitDefEqProofs (disch:=omega) only [go_sem,reduceIte,Nat.reduceEqDiff,h4,l4,ldc_two L31,b45_8_2 (Pl.bool _) p4 (Pl.bool _) p5,stc_four N63 1 (.bool b4) s4 (.bool b5) s5 (.bool false) .nils (.bool false) .nils _ rfl p4.ok rfl p5.ok];rfl) ?_)
   refine ww_ret (hQ _ _ (fin_cell4f_tmp (x:=.bool b4) (y:=s4) (z:=.bool b5) (u:=s5) (w:=.bool true) (f:=false) (d:=4) (g:=1) (sS1 h4) sS (Pl.bool _) p4 (Pl.bool _) p5 sS (Pl.bool _) (fun x hx=>by cases hx)) ⟨_,by rw [decide_eq_true hy],b4,s4,b5,s5,rfl,?_,?_⟩)
   ·rw [e1];exact I4.mono (by omega)
   ·rw [e2];exact I5.mono (by omega)
end Go.AM.S
end
section
namespace Go.AM.S
open Go Go.AM Go.Proofs NumL
open _root_.Go.AM.G (R)
set_option maxRecDepth 100000
end Go.AM.S
end
section
namespace Go.AM.S
open Go Go.AM Go.Proofs NumL
open _root_.Go.AM.G (R)
set_option maxRecDepth 100000
theorem tbl42:tbl 42=some ⟨rc42,[.tmp 2]⟩:=by kernel_rfl
theorem tbl43:tbl 43=some ⟨rc43,[.cell 2 26,.cell 3 31]⟩:=by kernel_rfl
theorem tbl51:tbl 51=some ⟨rc51,[.cell 4 59,.cell 5 63]⟩:=by kernel_rfl
theorem known2_any (n:Nat):fn Pg kn0 tbl (n+40) 41 [] noHp=some (.val (.bool true) noHp):=by kernel_rfl
theorem known2_runs:Runs Pg kn0 tbl 41 [] noHp (.val (.bool true) noHp):=⟨40,fun n hn=>by
 obtain ⟨m,rfl⟩:=Nat.exists_eq_add_of_le hn
 rw [Nat.add_comm];exact known2_any m⟩
theorem light2_spec (f:Bool) (l:List Str) (hl:l.length≤1000000):Gives 42 [.slice none f 1 (l.map .str)] fun r=>r=.bool (l.all fun s=>decide (s.n≤120)):=by
 refine gives_of tbl42 fun h Q hQ=>?_
 have done:∀ (st:St) (b:Bool),b=(l.all fun s=>decide (s.n≤120))→gt st.tm 2=.bool b→st.hp=⟨h.rows,none,h.mods⟩→Q st:=by
  intro st b e h2 hh
  exact hQ st _ (fin_tmpD h2 (Ex1.bool _) (by rw [hh];exact fun x hx=>by cases hx) rfl) (by rw [e])
 unfold rc42
 refine sR ?_
 refine ww_joinX (fun s=>(∀ s ∈ l,s.n≤120)∧s.hp=⟨h.rows,none,h.mods⟩) ?_ (fun s ⟨a,ah⟩=>?_)
 ·refine sR ?_
  refine ww_for (fun m s=>∃ i,m+i=l.length∧gt s.tm 0=.slice none f 1 (l.map .str)∧gt s.tm 3=.int .i64 (.ofNat i)∧(∀ x ∈ l.take i,x.n≤120)∧s.hp=⟨h.rows,none,h.mods⟩) l.length ⟨0,rfl,sSG,sS,(fun x hx=>by simp at hx),rfl⟩ ?_
  intro m s ⟨i,hm,h0,h3,hle,hh⟩
  refine ww_seq (ww_seq (ww_reg (fun n k=>by simp -implicitDefEqProofs (disch:=omega) only [go_sem,reduceIte,Nat.reduceEqDiff,h0,h3,len_slice,List.length_map];rfl) ?_))
  refine ww_if (by simp only [gt_pt,reduceIte];rfl) (fun hi=>ww_skip ?_) (fun hi=>ww_exit ?_)
  ·have hx:(l.map V.str)[i]? = some (.str l[i]):=by simp [hi]
   have hmem:l[i] ∈ l:=List.getElem_mem _
   refine ww_seq (ww_block ?_)
   refine ww_seq (ww_reg (fun n k=>by simp -implicitDefEqProofs (disch:=omega) only [go_sem,reduceIte,Nat.reduceEqDiff,h0,h3,ia_any E79 L9 none f .i64 (l.map .str) i (.str l[i]) hx rfl];rfl) ?_)
   refine ww_if (by simp only [gt_pt,reduceIte];rfl) (fun hbig=>?_) (fun hbig=>ww_skip ?_)
   ·refine sR ?_
    refine ww_ret (done _ false ?_ sS hh)
    symm
    rw [List.all_eq_false]
    exact ⟨l[i],hmem,by simp;omega⟩
   ·refine sE1 h3 ?_
    refine ⟨m - 1,by omega,i+1,by omega,(sS1 h0),sS,?_,hh⟩
    intro x hx
    rw [List.take_add_one] at hx
    rcases List.mem_append.1 hx with hx | hx
    ·exact hle x hx
    ·simp [hi] at hx
     subst hx
     omega
  ·rw [if_pos rfl]
   refine ⟨?_,hh⟩
   rw [List.take_of_length_le (by omega)] at hle
   exact hle
 ·refine sR ?_
  refine ww_ret (done _ true ?_ sS ah)
  symm
  rw [List.all_eq_true]
  exact fun s hs=>decide_eq_true (a s hs)
theorem of43_spec {l:List Nat} (hd:Dg 256 l) (hl:l.length≤300):Gives 43 [.str (sl l)] fun r=>∃ v w z,r=.tuple [v,w]∧IsI 1002 v z∧IsR 252 w z:=by
 refine gives_of tbl43 fun h Q hQ=>?_
 unfold rc43
 refine sR ?_
 obtain ⟨_,hp1,v,rfl,hvI⟩:=parse_spec hd (by omega) ⟨h.rows,none,h.mods⟩
 obtain ⟨w,hp2,hwR⟩:=mustR_spec hd (by omega) ⟨h.rows,none,h.mods⟩
 obtain ⟨sv,bv,rfl,pv,ev,qv⟩:=hvI.form
 obtain ⟨sw,bw,rfl,pw,ew,qw⟩:=hwR.form
 refine ww_seq (ww_call (hp1) (fun n hn k=>by simp -implicitDefEqProofs (disch:=omega) only [go_sem,reduceIte,Nat.reduceEqDiff,gt_start,List.getD_cons_zero,List.getD_cons_succ,clc1 hn (Ex1.str _),ext_tuple,stc_two N26 1 sv (.bool bv) .nils (.bool false) _ pv.ok rfl];rfl) ?_)
 refine ww_seq (ww_call (hp2) (fun n hn k=>by simp -implicitDefEqProofs (disch:=omega) only [go_sem,reduceIte,Nat.reduceEqDiff,gt_start,List.getD_cons_zero,List.getD_cons_succ,ldc_two L26,cld1 hn (Ex1.str _) rfl,stc_two N26 1 sv (.bool bv) .nils (.bool false) _ pv.ok rfl,stc_two N31 1 (.bool bw) sw (.bool false) .nils _ rfl pw.ok];exact finD_ok (by kernel_rfl)) ?_)
 exact ww_ret (hQ _ _ (fin_cells2 (x:=sv) (y:=.bool bv) (x2:=.bool bw) (y2:=sw) (d:=2) (g:=1) (d2:=3) (g2:=1) (f:=false) (f2:=false) (by kernel_rfl) (by kernel_rfl) sS sS sS sS pv (Pl.bool _) (Pl.bool _) pw (fun x hx=>by cases hx)) ⟨_,_,zOf l,rfl,hvI,hwR⟩)
theorem IsQ.ex {k:Nat} {v:V} {q:Rat} (h:IsQ k v q):Ex1 v∧AM.quiet v=true:=by
 obtain ⟨s,b,u,c,rfl,h1,h2⟩:=h
 exact (IsQ.plain h1 h2).2.2
theorem IsF.ex {k:Nat} {v:V} {q:Rat} (h:IsF k v q):Ex1 v∧AM.quiet v=true:=by
 obtain ⟨s,b,u,c,rfl,h1,h2⟩:=h
 exact (IsF.plain h1 h2).2.2
end Go.AM.S
end
section
namespace Go.AM.S
open Go Go.AM Go.Proofs NumL
open _root_.Go.AM.G (R)
set_option maxRecDepth 100000
theorem fin_cells4 {h:Hp} {a d g a2 d2 g2:Nat} {f f2:Bool} {s:St} {x y z u x2 y2 z2 u2:V} (hv:gt s.tm a=.ptr (.loc d g) 0) (hv2:gt s.tm a2=.ptr (.loc d2 g2) 0) (hr:lg s.loc d=(g,.cells f [x,y,z,u])) (hr2:lg s.loc d2=(g2,.cells f2 [x2,y2,z2,u2])) (hx:Pl x) (hy:Pl y) (hz:Pl z) (hu:Pl u) (hx2:Pl x2) (hy2:Pl y2) (hz2:Pl z2) (hu2:Pl u2) (hc:DG h.rows.length s.hp) :
  fin Pg h [.cell a 59,.cell a2 63] s=some (.val (.tuple [.agg [x,y,z,u],.agg [x2,y2,z2,u2]]) h):=by
 have e1:resV Pg s [.cell a 59,.cell a2 63]=some [.agg [x,y,z,u],.agg [x2,y2,z2,u2]]:=by
  simp only [resV,rho_gt,hv,hv2,getRow_loc hr,getRow_loc hr2,partV,show layE Pg 59=some (4,true) by kernel_rfl,show layE Pg 63=some (4,true) by kernel_rfl,Option.map_some]
  rfl
 exact fin_gen e1 ⟨exp_agg4 hx hy hz hu,exp_agg4 hx2 hy2 hz2 hu2,trivial⟩ (by simp only [V.noRefsL,V.noRefs,hx.refs,hy.refs,hz.refs,hu.refs,hx2.refs,hy2.refs,hz2.refs,hu2.refs,Bool.and_self]) hc
theorem frac51_spec {l m:List Nat} (hdl:Dg 256 l) (hl:l.length≤300) (hdm:Dg 256 m) (hm:m.length≤300):Gives 51 [.str (sl l),.str (sl m)] fun r=>∃ v w q,r=.tuple [v,w]∧IsQ 1005 v q∧IsF 257 w q:=by
 refine gives_of tbl51 fun h Q hQ=>?_
 unfold rc51
 obtain ⟨_,Pa,va,wa,x,rfl,Ia,Ja⟩:=of43_spec hdl hl ⟨h.rows,none,h.mods⟩
 obtain ⟨_,Pb,vb,wb,y,rfl,Ib,Jb⟩:=of43_spec hdm hm ⟨h.rows,none,h.mods⟩
 obtain ⟨sa,ba,rfl,pa,ea,ua⟩:=Ia.form
 obtain ⟨ta,da,rfl,qa,fa,ga⟩:=Ja.form
 obtain ⟨sb,bb,rfl,pb,eb,ub⟩:=Ib.form
 obtain ⟨tb,db,rfl,qb,fb,gb⟩:=Jb.form
 refine sR ?_
 refine ww_seq (ww_call (Pa) (fun n hn k=>by simp -implicitDefEqProofs (disch:=omega) only [go_sem,reduceIte,Nat.reduceEqDiff,gt_start,List.getD_cons_zero,List.getD_cons_succ,clc1 hn (Ex1.str _),ext_tuple,stc_two N26 1 sa (.bool ba) .nils (.bool false) _ pa.ok rfl,stc_two N31 1 (.bool da) ta (.bool false) .nils _ rfl qa.ok];rfl) ?_)
 refine ww_seq (ww_call (Pb) (fun n hn k=>by simp -implicitDefEqProofs (disch:=omega) only [go_sem,reduceIte,Nat.reduceEqDiff,gt_start,List.getD_cons_zero,List.getD_cons_succ,clc1 hn (Ex1.str _),ext_tuple,stc_two N26 1 sb (.bool bb) .nils (.bool false) _ pb.ok rfl,stc_two N31 1 (.bool db) tb (.bool false) .nils _ rfl qb.ok];rfl) ?_)
 obtain ⟨_,Ps,rfl⟩:=sign_spec Ib (by omega) ⟨h.rows,none,h.mods⟩
 refine ww_join (M:=fun st=>∃ s2 b2 t2 d2 z,IsI 1002 (.agg [s2,.bool b2]) z∧IsR 252 (.agg [.bool d2,t2]) z∧gt st.tm 4=.ptr (.loc 4 1) 0∧gt st.tm 5=.ptr (.loc 5 1) 0∧gt st.tm 6=.ptr (.loc 6 1) 0∧gt st.tm 7=.ptr (.loc 7 1) 0∧gt st.tm 8=.ptr (.loc 8 1) 0∧gt st.tm 9=.ptr (.loc 9 1) 0∧lg st.loc 4=(1,.cells false [.nils,.bool false,.nils,.bool false])∧lg st.loc 5=(1,.cells false [.bool false,.nils,.bool false,.nils])∧lg st.loc 6=(1,.cells false [sa,.bool ba])∧lg st.loc 7=(1,.cells false [.bool da,ta])∧lg st.loc 8=(1,.cells false [s2,.bool b2])∧lg st.loc 9=(1,.cells false [.bool d2,t2])∧lg st.loc 10=(0,.gone)∧lg st.loc 12=(0,.gone)∧st.hp=⟨h.rows,none,h.mods⟩) ?_ ?_
 ·have hs:bin Pg .eql 3 true (.int .i64 (sgn y)) (.int .i64 (.ofNat 0))=some (.bool (decide (y=0))):=by
   rcases Int.lt_trichotomy y 0 with e | e | e
   ·rw [show sgn y=.negSucc 0 by unfold sgn cmpZ;rw [if_pos e],decide_eq_false (by omega)];rfl
   ·rw [sgn_zero e,decide_eq_true e];rfl
   ·rw [sgn_pos e,decide_eq_false (by omega)];rfl
  refine ww_seq (ww_call (Ps) (fun n hn k=>by simp -implicitDefEqProofs (disch:=omega) only [go_sem,reduceIte,Nat.reduceEqDiff,ldc_two L26,clc1 hn eb,hs];rfl) ?_)
  refine ww_if (by simp only [gt_pt,reduceIte];rfl) (fun hz=>?_) (fun hz=>ww_skip ?_)
  ·obtain ⟨_,A1,I1⟩:=of_spec (z:=.ofNat 1) (by decide) (by decide) ⟨h.rows,none,h.mods⟩
   obtain ⟨_,A2,I2⟩:=ofR_spec (z:=.ofNat 1) (by decide) (by decide) ⟨h.rows,none,h.mods⟩
   obtain ⟨s1,b1,rfl,p1,_,_⟩:=I1.form
   obtain ⟨t1,d1,rfl,q1,_,_⟩:=I2.form
   refine ww_call (A1.and A2) (fun n hn k=>by simp -implicitDefEqProofs (disch:=omega) only [go_sem,reduceIte,Nat.reduceEqDiff,clc1 hn.1 (Ex1.int _ _),clc1 hn.2 (Ex1.int _ _),stc_two N26 1 s1 (.bool b1) sb (.bool bb) _ p1.ok rfl,stc_two N31 1 (.bool d1) t1 (.bool db) tb _ rfl q1.ok];rfl) ?_
   exact ⟨s1,b1,t1,d1,_,I1.mono (by omega),I2.mono (by omega),sS,sS,sS,sS,sS,sS,sS,sS,sS,sS,sS,sS,(by simp -implicitDefEqProofs (disch:=omega) only [go_sem,reduceIte,Nat.reduceEqDiff,lg_lf]),(by simp -implicitDefEqProofs (disch:=omega) only [go_sem,reduceIte,Nat.reduceEqDiff,lg_lf]),rfl⟩
  ·exact ⟨sb,bb,tb,db,y,Ib,Jb,sS,sS,sS,sS,sS,sS,sS,sS,sS,sS,sS,sS,(by simp -implicitDefEqProofs (disch:=omega) only [go_sem,reduceIte,Nat.reduceEqDiff,lg_lf]),(by simp -implicitDefEqProofs (disch:=omega) only [go_sem,reduceIte,Nat.reduceEqDiff,lg_lf]),rfl⟩
 ·intro st ⟨s2,b2,t2,d2,z,I2,J2,h4,h5,h6,h7,h8,h9,l4,l5,l6,l7,l8,l9,l10,l12,hhp⟩
  obtain ⟨p2,e2,u2⟩:=I2.nn
  obtain ⟨q2,f2,g2⟩:=J2.nn
  obtain ⟨_,A1,v,rfl,Q1⟩:=ratOf_spec Ia I2 (by omega) (by omega) ⟨h.rows,none,h.mods⟩
  obtain ⟨_,A2,w,rfl,F1⟩:=frac_spec Ja J2 (by omega) (by omega) ⟨h.rows,none,h.mods⟩
  have Q1':=Q1;have F1':=F1
  obtain ⟨s3,b3,u3,c3,rfl,K1,K2⟩:=Q1
  obtain ⟨b4,s4,c4,u4,rfl,K3,K4⟩:=F1
  obtain ⟨p3,p3',_,_⟩:=IsQ.plain K1 K2
  obtain ⟨p4,p4',_,_⟩:=IsF.plain K3 K4
  refine ww_seq (ww_call (A1) (fun n hn k=>by simp -implicitDefEqProofs (disch:=omega) only [go_sem,reduceIte,Nat.reduceEqDiff,h6,h8,l6,l8,l10,hhp,ldc_two L26,clc2 hn ea e2,ext_tuple,stc_four N59 1 s3 (.bool b3) u3 (.bool c3) .nils (.bool false) .nils (.bool false) _ p3.ok rfl p3'.ok rfl];rfl) ?_)
  refine ww_seq (ww_call (A2) (fun n hn k=>by simp -implicitDefEqProofs (disch:=omega) only [go_sem,reduceIte,Nat.reduceEqDiff,h7,h9,l7,l9,l12,ldc_two L31,clc2 hn fa f2,ext_tuple,stc_four N63 1 (.bool b4) s4 (.bool c4) u4 (.bool false) .nils (.bool false) .nils _ rfl p4.ok rfl p4'.ok];rfl) ?_)
  refine ww_seq (ww_reg (fun n k=>by simp -implicitDefEqProofs (disch:=omega) only [go_sem,reduceIte,Nat.reduceEqDiff,h4,h5,l4,l5,ldc_four L59,ldc_four L63,stc_four N59 1 s3 (.bool b3) u3 (.bool c3) .nils (.bool false) .nils (.bool false) _ p3.ok rfl p3'.ok rfl,stc_four N63 1 (.bool b4) s4 (.bool c4) u4 (.bool false) .nils (.bool false) .nils _ rfl p4.ok rfl p4'.ok];exact finD_ok (by kernel_rfl)) ?_)
  exact ww_ret (hQ _ _ (fin_cells4 (x:=s3) (y:=.bool b3) (z:=u3) (u:=.bool c3) (x2:=.bool b4) (y2:=s4) (z2:=.bool c4) (u2:=u4) (d:=4) (g:=1) (d2:=5) (g2:=1) (f:=false) (f2:=false) (sS1 h4) (sS1 h5) sS sS p3 (Pl.bool _) p3' (Pl.bool _) (Pl.bool _) p4 (Pl.bool _) p4' (fun x hx=>by cases hx)) ⟨_,_,_,rfl,Q1'.mono (by omega),F1'.mono (by omega)⟩)
end Go.AM.S
end
section
namespace Go.AM.S
open Go Go.AM Go.Proofs NumL
open _root_.Go.AM.G (R)
set_option maxRecDepth 100000
theorem IsQ.form {k:Nat} {v:V} {q:Rat} (h:IsQ k v q):∃ s b u c,v=.agg [s,.bool b,u,.bool c]∧Pl s∧Pl u:=by
 obtain ⟨s,b,u,c,rfl,h1,h2⟩:=h
 exact ⟨s,b,u,c,rfl,h1.nn.1,h2.nn.1⟩
theorem IsF.form {k:Nat} {v:V} {q:Rat} (h:IsF k v q):∃ b s c u,v=.agg [.bool b,s,.bool c,u]∧Pl s∧Pl u:=by
 obtain ⟨s,b,u,c,rfl,h1,h2⟩:=h
 exact ⟨s,b,u,c,rfl,h1.nn.1,h2.nn.1⟩
theorem cmpR_congr {q p q' p':Rat} (h1:q<p↔q'<p') (h2:p<q↔p'<q'):cmpR q p=cmpR q' p':=by
 rw [Rat.lt_iff,Rat.lt_iff] at h1 h2
 unfold cmpR cmpZ
 simp only [h1,h2]
theorem cmpR_zero {q p:Rat} (h:q=p):cmpR q p=.ofNat 0:=by rw [h];exact cmpZ_self _
theorem cmpR_lt {q p:Rat} (h:q<p):cmpR q p=.negSucc 0:=if_pos ((Rat.lt_iff _ _).1 h)
theorem cmpR_gt {q p:Rat} (h:p<q):cmpR q p=.ofNat 1:=by
 have h1:=(Rat.lt_iff _ _).1 h
 unfold cmpR cmpZ
 rw [if_neg (by omega),if_pos h1]
theorem bs79_6 (s t u v w x:Str):bs Pg 79 6 [(0,.str s),(1,.str t),(2,.str u),(3,.str v),(4,.str w),(5,.str x)]=some (.slice none true 1 [.str s,.str t,.str u,.str v,.str w,.str x]):=by
 unfold bs
 rw [E79]
 change G.onSome (F.layE Pg 9) (fun p=>G.onSome (F.zeroV Pg 9) (fun z=>bif (Nat.mul 6 p.fst).ble 16777216&&F.noRefsR z&&z.live&&(F.lenR z.cells).beq p.fst then G.onSome (filE p.fst [(0,V.str s),(1,V.str t),(2,V.str u),(3,V.str v),(4,V.str w),(5,V.str x)] (F.repR 6 z)) (fun l=>some (V.slice none true p.fst l)) none else none) none) none=_
 rw [L9]
 change G.onSome (F.zeroV Pg 9) (fun z=>bif (Nat.mul 6 1).ble 16777216&&F.noRefsR z&&z.live&&(F.lenR z.cells).beq 1 then G.onSome (filE 1 [(0,V.str s),(1,V.str t),(2,V.str u),(3,V.str v),(4,V.str w),(5,V.str x)] (F.repR 6 z)) (fun l=>some (V.slice none true 1 l)) none else none) none=_
 rw [Z9]
 rfl
end Go.AM.S
end
section
namespace Go.AM.S
open Go Go.AM Go.Proofs NumL
open _root_.Go.AM.G (R)
set_option maxRecDepth 100000
end Go.AM.S
end
section
namespace Go.AM.S
open Go Go.AM Go.Proofs NumL
open _root_.Go.AM.G (R)
set_option maxRecDepth 100000
theorem da10_8_8 (c:CallF) (t:Tm) (l:Lo) (h:Hp) (J:JD) (X:XD):gD Try.f10 10 8 8 c t l h J X=J (.ptr (.loc 19 ((lg l 19).1+1)) 0) ⟨[19],[19],false,false,false,false⟩ (lp l 19 ((lg l 19).1+1,.cells false [.nils,.bool false,.nils,.bool false])) h :=
 genD_alloc (C:=Cg) (gl:=Cg.glob 10) (call:=c) (o:=opA Try.f10 8 8) (d:=19) (t:=59) (n:=4) (z:=.agg [.nils,.bool false,.nils,.bool false]) (by kernel_rfl) (by kernel_rfl) (by kernel_rfl) (by kernel_rfl) (by kernel_rfl) rfl rfl
theorem da10_8_9 (c:CallF) (t:Tm) (l:Lo) (h:Hp) (J:JD) (X:XD):gD Try.f10 10 8 9 c t l h J X=J (.ptr (.loc 20 ((lg l 20).1+1)) 0) ⟨[20],[20],false,false,false,false⟩ (lp l 20 ((lg l 20).1+1,.cells false [.nils,.bool false,.nils,.bool false])) h :=
 genD_alloc (C:=Cg) (gl:=Cg.glob 10) (call:=c) (o:=opA Try.f10 8 9) (d:=20) (t:=59) (n:=4) (z:=.agg [.nils,.bool false,.nils,.bool false]) (by kernel_rfl) (by kernel_rfl) (by kernel_rfl) (by kernel_rfl) (by kernel_rfl) rfl rfl
theorem un_negR (q p:Rat):G.un .neg (.int .i64 (cmpR p q))=some (.int .i64 (cmpR q p)):=by
 rcases (show q<p∨q=p∨p<q by grind) with e | e | e
 ·rw [cmpR_lt e,cmpR_gt e];rfl
 ·rw [cmpR_zero e,cmpR_zero e.symm];rfl
 ·rw [cmpR_gt e,cmpR_lt e];rfl
theorem cmp_ge {q p:Rat} (h:p≤q):G.int2 .geq .i64 (cmpR q p) (.ofNat 0)=some (.bool true):=by
 rcases (show q=p∨p<q by grind) with e | e
 ·rw [cmpR_zero e];rfl
 ·rw [cmpR_gt e];rfl
theorem cmp_nge {q p:Rat} (h:¬p≤q):G.int2 .geq .i64 (cmpR q p) (.ofNat 0)=some (.bool false):=by
 rw [cmpR_lt (show q<p by grind)];rfl
theorem cmp_le {q p:Rat} (h:q≤p):G.int2 .leq .i64 (cmpR q p) (.ofNat 0)=some (.bool true):=by
 rcases (show q=p∨q<p by grind) with e | e
 ·rw [cmpR_zero e];rfl
 ·rw [cmpR_lt e];rfl
theorem cmp_lt {q p:Rat} (h:q<p):G.int2 .lss .i64 (cmpR q p) (.ofNat 0)=some (.bool true):=by rw [cmpR_lt h];rfl
theorem tbl10:tbl 10=some ⟨rc10,[.tmp 12]⟩:=by kernel_rfl
theorem law10 {l m o p r s:List Nat} (hdl:Dg 256 l) (hdm:Dg 256 m) (hdo:Dg 256 o) (hdp:Dg 256 p) (hdr:Dg 256 r) (hds:Dg 256 s):Runs Pg kn0 tbl 10 [.str (sl l),.str (sl m),.str (sl o),.str (sl p),.str (sl r),.str (sl s)] noHp (.val (.bool true) noHp):=by
 suffices hw:WW Pg kn0 tbl rc10 ⟨startTm [.str (sl l),.str (sl m),.str (sl o),.str (sl p),.str (sl r),.str (sl s)],.lf,⟨noHp.rows,none,noHp.mods⟩⟩ (fun _=>False) (fun _ _=>False) (fun s=>∃ o,fin Pg noHp [.tmp 12] s=some o∧o=.val (.bool true) noHp) by
  obtain ⟨o,h1,h2⟩:=runs_ex (kn:=kn0) (h:=noHp) rfl tbl10 (ww_mono hw (fun s hs=>hs.elim) (fun _ _ h=>h) (fun s h=>h))
  subst h2
  exact h1
 have done:∀ (st:St),gt st.tm 12=.bool true→st.hp=noHp→∃ o,fin Pg noHp [.tmp 12] st=some o∧o=.val (.bool true) noHp:=by
  intro st h4 hh
  exact ⟨_,fin_tmpD h4 (Ex1.bool _) (by rw [hh];exact fun x hx=>by cases hx) rfl,rfl⟩
 have ehp:(⟨noHp.rows,none,noHp.mods⟩:Hp)=noHp:=rfl
 rw [ehp]
 unfold rc10
 refine sR ?_
 refine ww_seq (ww_seq (ww_call (known2_runs) (fun n hn k=>by simp -implicitDefEqProofs (disch:=omega) only [go_sem,reduceIte,Nat.reduceEqDiff,clc0 hn];rfl) ?_))
 refine ww_false sS (ww_skip ?_)
 obtain ⟨_,hlt0,rfl⟩:=light2_spec true [sl l,sl m,sl o,sl p,sl r,sl s] (by simp) noHp
 have eall:([sl l,sl m,sl o,sl p,sl r,sl s].all fun s=>decide (s.n≤120))=decide (l.length≤120∧m.length≤120∧o.length≤120∧p.length≤120∧r.length≤120∧s.length≤120):=by
  show (decide (l.length≤120)&&(decide (m.length≤120)&&(decide (o.length≤120)&&(decide (p.length≤120)&&(decide (r.length≤120)&&(decide (s.length≤120)&&true))))))=_
  simp only [Bool.and_true,Bool.decide_and]
 rw [eall] at hlt0
 have hlt:Runs Pg kn0 tbl 42 [.slice none true 1 [.str (sl l),.str (sl m),.str (sl o),.str (sl p),.str (sl r),.str (sl s)]] noHp (.val (.bool (decide (l.length≤120∧m.length≤120∧o.length≤120∧p.length≤120∧r.length≤120∧s.length≤120))) noHp):=hlt0
 refine ww_seq (ww_seq (ww_call (hlt) (fun n hn k=>by simp -implicitDefEqProofs (disch:=omega) only [go_sem,reduceIte,Nat.reduceEqDiff,gt_start,List.getD_cons_zero,List.getD_cons_succ,bs79_6,clc1 hn (fun _=>rfl)];rfl) ?_))
 by_cases hl:l.length≤120∧m.length≤120∧o.length≤120∧p.length≤120∧r.length≤120∧s.length≤120
 rotate_left
 ·rw [decide_eq_false hl]
  refine ww_true sS ?_
  refine sR ?_
  exact ww_ret (done _ sS rfl)
 rw [decide_eq_true hl]
 refine ww_false sS (ww_skip ?_)
 obtain ⟨_,Pa,va,wa,x,rfl,Ia,Ja⟩:=frac51_spec hdl (show l.length≤300 by have:=hl.1;omega) hdm (show m.length≤300 by have:=hl.2.1;omega) noHp
 have ea:=Ia.ex.1;have ua:=Ia.ex.2;have fea:=Ja.ex.1;have fua:=Ja.ex.2
 obtain ⟨_,Pb,vb,wb,y,rfl,Ib,Jb⟩:=frac51_spec hdo (show o.length≤300 by have:=hl.2.2.1;omega) hdp (show p.length≤300 by have:=hl.2.2.2.1;omega) noHp
 have eb:=Ib.ex.1;have ub:=Ib.ex.2;have feb:=Jb.ex.1;have fub:=Jb.ex.2
 obtain ⟨_,Pc,vc,wc,z,rfl,Ic,Jc⟩:=frac51_spec hdr (show r.length≤300 by have:=hl.2.2.2.2.1;omega) hds (show s.length≤300 by have:=hl.2.2.2.2.2;omega) noHp
 have ec:=Ic.ex.1;have uc:=Ic.ex.2;have fec:=Jc.ex.1;have fuc:=Jc.ex.2
 obtain ⟨r1,A1,I1⟩:=floor_spec Ia (by omega) noHp
 have e1:=I1.ex;have u1:=I1.quiet
 obtain ⟨r2,A2,I2⟩:=whole_spec I1 noHp
 have e2:=I2.ex.1;have u2:=I2.ex.2
 obtain ⟨r3,A3,I3⟩:=of_spec (z:=.ofNat 1) (by decide) (by decide) noHp
 have e3:=I3.ex;have u3:=I3.quiet
 obtain ⟨r4,A4,I4⟩:=add_spec I1 I3 (by omega) (by omega) noHp
 have e4:=I4.ex;have u4:=I4.quiet
 obtain ⟨r5,A5,I5⟩:=whole_spec I4 noHp
 have e5:=I5.ex.1;have u5:=I5.ex.2
 have Iu:=I2;have eu:=e2;have uu:=u2;have Iv:=I5;have ev:=e5;have uv:=u5
 obtain ⟨r21,A21,I21⟩:=qadd_spec Ia Ib (by omega) (by omega) noHp
 have e21:=I21.ex.1;have u21:=I21.ex.2
 obtain ⟨r22,A22,I22⟩:=qadd_spec Ib Ia (by omega) (by omega) noHp
 have e22:=I22.ex.1;have u22:=I22.ex.2
 obtain ⟨_,A23,rfl⟩:=qcmp_spec I21 I22 (by omega) (by omega) noHp
 rw [cmpR_zero (show x+y=y+x by grind)] at A23
 obtain ⟨r24,A24,I24⟩:=qadd_spec Ib Ic (by omega) (by omega) noHp
 have e24:=I24.ex.1;have u24:=I24.ex.2
 obtain ⟨r25,A25,I25⟩:=qadd_spec Ia I24 (by omega) (by omega) noHp
 have e25:=I25.ex.1;have u25:=I25.ex.2
 obtain ⟨r26,A26,I26⟩:=qadd_spec I21 Ic (by omega) (by omega) noHp
 have e26:=I26.ex.1;have u26:=I26.ex.2
 obtain ⟨_,A27,rfl⟩:=qcmp_spec I25 I26 (by omega) (by omega) noHp
 rw [cmpR_zero (show x+(y+z)=x+y+z by grind)] at A27
 obtain ⟨r28,A28,I28⟩:=qmul_spec Ib Ic (by omega) (by omega) noHp
 have e28:=I28.ex.1;have u28:=I28.ex.2
 obtain ⟨r29,A29,I29⟩:=qmul_spec Ia I28 (by omega) (by omega) noHp
 have e29:=I29.ex.1;have u29:=I29.ex.2
 obtain ⟨r30,A30,I30⟩:=qmul_spec Ia Ib (by omega) (by omega) noHp
 have e30:=I30.ex.1;have u30:=I30.ex.2
 obtain ⟨r31,A31,I31⟩:=qmul_spec I30 Ic (by omega) (by omega) noHp
 have e31:=I31.ex.1;have u31:=I31.ex.2
 obtain ⟨_,A32,rfl⟩:=qcmp_spec I29 I31 (by omega) (by omega) noHp
 rw [cmpR_zero (show x*(y*z)=x*y*z by grind)] at A32
 obtain ⟨r33,A33,I33⟩:=qmul_spec Ia I24 (by omega) (by omega) noHp
 have e33:=I33.ex.1;have u33:=I33.ex.2
 obtain ⟨r34,A34,I34⟩:=qmul_spec Ia Ic (by omega) (by omega) noHp
 have e34:=I34.ex.1;have u34:=I34.ex.2
 obtain ⟨r35,A35,I35⟩:=qadd_spec I30 I34 (by omega) (by omega) noHp
 have e35:=I35.ex.1;have u35:=I35.ex.2
 obtain ⟨_,A36,rfl⟩:=qcmp_spec I33 I35 (by omega) (by omega) noHp
 rw [cmpR_zero (show x*(y+z)=x*y+x*z by grind)] at A36
 obtain ⟨r37,A37,I37⟩:=qsub_spec Ia Ib (by omega) (by omega) noHp
 have e37:=I37.ex.1;have u37:=I37.ex.2
 obtain ⟨r38,A38,I38⟩:=qadd_spec I37 Ib (by omega) (by omega) noHp
 have e38:=I38.ex.1;have u38:=I38.ex.2
 obtain ⟨_,A39,rfl⟩:=qcmp_spec I38 Ia (by omega) (by omega) noHp
 rw [cmpR_zero (show x - y+y=x by grind)] at A39
 obtain ⟨_,A40,rfl⟩:=qcmp_spec Ia Ib (by omega) (by omega) noHp
 obtain ⟨_,A41,rfl⟩:=qcmp_spec Ib Ia (by omega) (by omega) noHp
 obtain ⟨_,A42,rfl⟩:=qcmp_spec Ib Ic (by omega) (by omega) noHp
 obtain ⟨_,A43,rfl⟩:=qcmp_spec Ia Ic (by omega) (by omega) noHp
 obtain ⟨_,A44,rfl⟩:=qcmp_spec Iu Ia (by omega) (by omega) noHp
 obtain ⟨_,A45,rfl⟩:=qcmp_spec Ia Iv (by omega) (by omega) noHp
 obtain ⟨r46,A46,I46⟩:=qadd_spec Ia Ic (by omega) (by omega) noHp
 have e46:=I46.ex.1;have u46:=I46.ex.2
 obtain ⟨_,A47,rfl⟩:=qcmp_spec I46 I24 (by omega) (by omega) noHp
 rw [cmpR_congr (show x+z<y+z↔x<y by grind) (show y+z<x+z↔y<x by grind)] at A47
 obtain ⟨sa,ba,ra,ca,rfl,paa,pba⟩:=Ia.form
 obtain ⟨da,ta,ga,ya,rfl,qaa,qba⟩:=Ja.form
 obtain ⟨sb,bb,rb,cb,rfl,pab,pbb⟩:=Ib.form
 obtain ⟨db,tb,gb,yb,rfl,qab,qbb⟩:=Jb.form
 obtain ⟨sc,bc,rc,cc,rfl,pac,pbc⟩:=Ic.form
 obtain ⟨dc,tc,gc,yc,rfl,qac,qbc⟩:=Jc.form
 refine ww_seq (ww_call (Pa) (fun n hn k=>by simp -implicitDefEqProofs (disch:=omega) only [go_sem,reduceIte,Nat.reduceEqDiff,gt_start,List.getD_cons_zero,List.getD_cons_succ,clc2 hn (Ex1.str _) (Ex1.str _),ext_tuple,stc_four N59 1 sa (.bool ba) ra (.bool ca) .nils (.bool false) .nils (.bool false) _ paa.ok rfl pba.ok rfl,stc_four N63 1 (.bool da) ta (.bool ga) ya (.bool false) .nils (.bool false) .nils _ rfl qaa.ok rfl qba.ok];rfl) ?_)
 refine ww_seq (ww_call (Pb) (fun n hn k=>by simp -implicitDefEqProofs (disch:=omega) only [go_sem,reduceIte,Nat.reduceEqDiff,gt_start,List.getD_cons_zero,List.getD_cons_succ,clc2 hn (Ex1.str _) (Ex1.str _),ext_tuple,stc_four N59 1 sb (.bool bb) rb (.bool cb) .nils (.bool false) .nils (.bool false) _ pab.ok rfl pbb.ok rfl,stc_four N63 1 (.bool db) tb (.bool gb) yb (.bool false) .nils (.bool false) .nils _ rfl qab.ok rfl qbb.ok];rfl) ?_)
 refine ww_seq (ww_call (Pc) (fun n hn k=>by simp -implicitDefEqProofs (disch:=omega) only [go_sem,reduceIte,Nat.reduceEqDiff,gt_start,List.getD_cons_zero,List.getD_cons_succ,clc2 hn (Ex1.str _) (Ex1.str _),ext_tuple,stc_four N59 1 sc (.bool bc) rc (.bool cc) .nils (.bool false) .nils (.bool false) _ pac.ok rfl pbc.ok rfl,stc_four N63 1 (.bool dc) tc (.bool gc) yc (.bool false) .nils (.bool false) .nils _ rfl qac.ok rfl qbc.ok];rfl) ?_)
 obtain ⟨su,bu,ru,cu,rfl,pau,pbu⟩:=Iu.form
 obtain ⟨sv,bv,rv,cv,rfl,pav,pbv⟩:=Iv.form
 refine ww_at (M:=fun tm loc=>gt tm 13=.ptr (.loc 13 1) 0∧gt tm 15=.ptr (.loc 15 1) 0∧gt tm 17=.ptr (.loc 17 1) 0∧lg loc 13=(1,.cells false [sa,.bool ba,ra,.bool ca])∧lg loc 15=(1,.cells false [sb,.bool bb,rb,.bool cb])∧lg loc 17=(1,.cells false [sc,.bool bc,rc,.bool cc])∧lg loc 19=(0,.gone)∧lg loc 20=(0,.gone)) rfl ⟨sS,sS,sS,sS,sS,sS,(by simp -implicitDefEqProofs (disch:=omega) only [go_sem,reduceIte,Nat.reduceEqDiff,lg_lf]),(by simp -implicitDefEqProofs (disch:=omega) only [go_sem,reduceIte,Nat.reduceEqDiff,lg_lf])⟩ ?_
 intro tm loc ⟨h13,h15,h17,l13,l15,l17,l19,l20⟩
 refine ww_seq (ww_call (((A1).and (A2)).and ((A3).and ((A4).and (A5)))) (fun n hn k=>by simp -implicitDefEqProofs (disch:=omega) only [go_sem,reduceIte,Nat.reduceEqDiff,h13,h15,h17,l13,l15,l17,l19,l20,ldc_four L59,da10_8_8,da10_8_9,stc_four N59 1 su (.bool bu) ru (.bool cu) .nils (.bool false) .nils (.bool false) _ pau.ok rfl pbu.ok rfl,stc_four N59 1 sv (.bool bv) rv (.bool cv) .nils (.bool false) .nils (.bool false) _ pav.ok rfl pbv.ok rfl,↓cld1 hn.1.1 ea ua,↓cld1 hn.1.2 e1 u1,↓cld1 hn.2.1 (Ex1.int _ _) rfl,↓cld2 hn.2.2.1 e1 e3 u1 u3,↓cld1 hn.2.2.2 e4 u4];exact finD_ok (by kernel_rfl)) ?_)
 refine ww_at (M:=fun tm loc=>gt tm 13=.ptr (.loc 13 1) 0∧gt tm 15=.ptr (.loc 15 1) 0∧gt tm 17=.ptr (.loc 17 1) 0∧gt tm 19=.ptr (.loc 19 1) 0∧gt tm 20=.ptr (.loc 20 1) 0∧lg loc 13=(1,.cells false [sa,.bool ba,ra,.bool ca])∧lg loc 15=(1,.cells false [sb,.bool bb,rb,.bool cb])∧lg loc 17=(1,.cells false [sc,.bool bc,rc,.bool cc])∧lg loc 19=(1,.cells false [su,.bool bu,ru,.bool cu])∧lg loc 20=(1,.cells false [sv,.bool bv,rv,.bool cv])) rfl ⟨(by simp -implicitDefEqProofs (disch:=omega) only [go_sem,reduceIte,Nat.reduceEqDiff,h13,h15,h17,l13,l15,l17]),(by simp -implicitDefEqProofs (disch:=omega) only [go_sem,reduceIte,Nat.reduceEqDiff,h13,h15,h17,l13,l15,l17]),(by simp -implicitDefEqProofs (disch:=omega) only [go_sem,reduceIte,Nat.reduceEqDiff,h13,h15,h17,l13,l15,l17]),(by simp -implicitDefEqProofs (disch:=omega) only [go_sem,reduceIte,Nat.reduceEqDiff,h13,h15,h17,l13,l15,l17]),(by simp -implicitDefEqProofs (disch:=omega) only [go_sem,reduceIte,Nat.reduceEqDiff,h13,h15,h17,l13,l15,l17]),(by simp -implicitDefEqProofs (disch:=omega) only [go_sem,reduceIte,Nat.reduceEqDiff,h13,h15,h17,l13,l15,l17]),(by simp -implicitDefEqProofs (disch:=omega) only [go_sem,reduceIte,Nat.reduceEqDiff,h13,h15,h17,l13,l15,l17]),(by simp -implicitDefEqProofs (disch:=omega) only [go_sem,reduceIte,Nat.reduceEqDiff,h13,h15,h17,l13,l15,l17]),(by simp -implicitDefEqProofs (disch:=omega) only [go_sem,reduceIte,Nat.reduceEqDiff,h13,h15,h17,l13,l15,l17]),(by simp -implicitDefEqProofs (disch:=omega) only [go_sem,reduceIte,Nat.reduceEqDiff,h13,h15,h17,l13,l15,l17])⟩ ?_
 intro tm2 loc2 ⟨k13,k15,k17,k19,k20,m13,m15,m17,m19,m20⟩
 have x1:=un_negR x y
 have x2:=cmp_le (Rat.floor_le x)
 have x3:=cmp_lt (show x<((x.floor+Int.ofNat 1:Int):Rat) from Rat.lt_floor_add_one x)
 by_cases hxy:y≤x
 ·have x4:=cmp_ge hxy
  refine ww_seq (ww_call (((((A21).and ((A22).and (A23))).and ((A24).and ((A25).and (A26)))).and (((A27).and ((A28).and (A29))).and (((A30).and (A31)).and ((A32).and (A33))))).and ((((A34).and ((A35).and (A36))).and (((A37).and (A38)).and ((A39).and (A40)))).and (((A41).and ((A42).and (A43))).and (((A44).and (A45)).and ((A46).and (A47)))))) (fun n hn k=>by simp -implicitDefEqProofs (disch:=omega) only [go_sem,reduceIte,Nat.reduceEqDiff,k13,k15,k17,k19,k20,m13,m15,m17,m19,m20,ldc_four L59,wv_tup,i_eql,iZ_eql,d_true,x1,x2,x3,x4,↓cld2 hn.1.1.1.1 ea eb ua ub,↓cld2 hn.1.1.1.2.1 eb ea ub ua,↓cld2 hn.1.1.1.2.2 e21 e22 u21 u22,↓cld2 hn.1.1.2.1 eb ec ub uc,↓cld2 hn.1.1.2.2.1 ea e24 ua u24,↓cld2 hn.1.1.2.2.2 e21 ec u21 uc,↓cld2 hn.1.2.1.1 e25 e26 u25 u26,↓cld2 hn.1.2.1.2.1 eb ec ub uc,↓cld2 hn.1.2.1.2.2 ea e28 ua u28,↓cld2 hn.1.2.2.1.1 ea eb ua ub,↓cld2 hn.1.2.2.1.2 e30 ec u30 uc,↓cld2 hn.1.2.2.2.1 e29 e31 u29 u31,↓cld2 hn.1.2.2.2.2 ea e24 ua u24,↓cld2 hn.2.1.1.1 ea ec ua uc,↓cld2 hn.2.1.1.2.1 e30 e34 u30 u34,↓cld2 hn.2.1.1.2.2 e33 e35 u33 u35,↓cld2 hn.2.1.2.1.1 ea eb ua ub,↓cld2 hn.2.1.2.1.2 e37 eb u37 ub,↓cld2 hn.2.1.2.2.1 e38 ea u38 ua,↓cld2 hn.2.1.2.2.2 ea eb ua ub,↓cld2 hn.2.2.1.1 eb ea ub ua,↓cld2 hn.2.2.1.2.1 eb ec ub uc,↓cld2 hn.2.2.1.2.2 ea ec ua uc,↓cld2 hn.2.2.2.1.1 eu ea uu ua,↓cld2 hn.2.2.2.1.2 ea ev ua uv,↓cld2 hn.2.2.2.2.1 ea ec ua uc,↓cld2 hn.2.2.2.2.2 e46 e24 u46 u24];exact finD_ok (by kernel_rfl)) ?_)
  exact ww_ret (done _ sS rfl)
 ·have x4:=cmp_nge hxy
  by_cases hyz:z≤y
  ·have x5:=cmp_ge hyz
   refine ww_seq (ww_call (((((A21).and ((A22).and (A23))).and ((A24).and ((A25).and (A26)))).and (((A27).and ((A28).and (A29))).and (((A30).and (A31)).and ((A32).and (A33))))).and ((((A34).and ((A35).and (A36))).and (((A37).and (A38)).and ((A39).and (A40)))).and (((A41).and ((A42).and (A43))).and (((A44).and (A45)).and ((A46).and (A47)))))) (fun n hn k=>by simp -implicitDefEqProofs (disch:=omega) only [go_sem,reduceIte,Nat.reduceEqDiff,k13,k15,k17,k19,k20,m13,m15,m17,m19,m20,ldc_four L59,wv_tup,i_eql,iZ_eql,d_true,x1,x2,x3,x4,x5,↓cld2 hn.1.1.1.1 ea eb ua ub,↓cld2 hn.1.1.1.2.1 eb ea ub ua,↓cld2 hn.1.1.1.2.2 e21 e22 u21 u22,↓cld2 hn.1.1.2.1 eb ec ub uc,↓cld2 hn.1.1.2.2.1 ea e24 ua u24,↓cld2 hn.1.1.2.2.2 e21 ec u21 uc,↓cld2 hn.1.2.1.1 e25 e26 u25 u26,↓cld2 hn.1.2.1.2.1 eb ec ub uc,↓cld2 hn.1.2.1.2.2 ea e28 ua u28,↓cld2 hn.1.2.2.1.1 ea eb ua ub,↓cld2 hn.1.2.2.1.2 e30 ec u30 uc,↓cld2 hn.1.2.2.2.1 e29 e31 u29 u31,↓cld2 hn.1.2.2.2.2 ea e24 ua u24,↓cld2 hn.2.1.1.1 ea ec ua uc,↓cld2 hn.2.1.1.2.1 e30 e34 u30 u34,↓cld2 hn.2.1.1.2.2 e33 e35 u33 u35,↓cld2 hn.2.1.2.1.1 ea eb ua ub,↓cld2 hn.2.1.2.1.2 e37 eb u37 ub,↓cld2 hn.2.1.2.2.1 e38 ea u38 ua,↓cld2 hn.2.1.2.2.2 ea eb ua ub,↓cld2 hn.2.2.1.1 eb ea ub ua,↓cld2 hn.2.2.1.2.1 eb ec ub uc,↓cld2 hn.2.2.1.2.2 ea ec ua uc,↓cld2 hn.2.2.2.1.1 eu ea uu ua,↓cld2 hn.2.2.2.1.2 ea ev ua uv,↓cld2 hn.2.2.2.2.1 ea ec ua uc,↓cld2 hn.2.2.2.2.2 e46 e24 u46 u24];exact finD_ok (by kernel_rfl)) ?_)
   exact ww_ret (done _ sS rfl)
  ·have x5:=cmp_nge hyz
   have x6:=cmp_lt (show x<z by grind)
   refine ww_seq (ww_call (((((A21).and ((A22).and (A23))).and ((A24).and ((A25).and (A26)))).and (((A27).and ((A28).and (A29))).and (((A30).and (A31)).and ((A32).and (A33))))).and ((((A34).and ((A35).and (A36))).and (((A37).and (A38)).and ((A39).and (A40)))).and (((A41).and ((A42).and (A43))).and (((A44).and (A45)).and ((A46).and (A47)))))) (fun n hn k=>by simp -implicitDefEqProofs (disch:=omega) only [go_sem,reduceIte,Nat.reduceEqDiff,k13,k15,k17,k19,k20,m13,m15,m17,m19,m20,ldc_four L59,wv_tup,i_eql,iZ_eql,d_true,x1,x2,x3,x4,x5,x6,↓cld2 hn.1.1.1.1 ea eb ua ub,↓cld2 hn.1.1.1.2.1 eb ea ub ua,↓cld2 hn.1.1.1.2.2 e21 e22 u21 u22,↓cld2 hn.1.1.2.1 eb ec ub uc,↓cld2 hn.1.1.2.2.1 ea e24 ua u24,↓cld2 hn.1.1.2.2.2 e21 ec u21 uc,↓cld2 hn.1.2.1.1 e25 e26 u25 u26,↓cld2 hn.1.2.1.2.1 eb ec ub uc,↓cld2 hn.1.2.1.2.2 ea e28 ua u28,↓cld2 hn.1.2.2.1.1 ea eb ua ub,↓cld2 hn.1.2.2.1.2 e30 ec u30 uc,↓cld2 hn.1.2.2.2.1 e29 e31 u29 u31,↓cld2 hn.1.2.2.2.2 ea e24 ua u24,↓cld2 hn.2.1.1.1 ea ec ua uc,↓cld2 hn.2.1.1.2.1 e30 e34 u30 u34,↓cld2 hn.2.1.1.2.2 e33 e35 u33 u35,↓cld2 hn.2.1.2.1.1 ea eb ua ub,↓cld2 hn.2.1.2.1.2 e37 eb u37 ub,↓cld2 hn.2.1.2.2.1 e38 ea u38 ua,↓cld2 hn.2.1.2.2.2 ea eb ua ub,↓cld2 hn.2.2.1.1 eb ea ub ua,↓cld2 hn.2.2.1.2.1 eb ec ub uc,↓cld2 hn.2.2.1.2.2 ea ec ua uc,↓cld2 hn.2.2.2.1.1 eu ea uu ua,↓cld2 hn.2.2.2.1.2 ea ev ua uv,↓cld2 hn.2.2.2.2.1 ea ec ua uc,↓cld2 hn.2.2.2.2.2 e46 e24 u46 u24];exact finD_ok (by kernel_rfl)) ?_)
   exact ww_ret (done _ sS rfl)
end Go.AM.S
end
section
namespace Go.AM.S
open Go Go.AM Go.Proofs
set_option maxRecDepth 100000
theorem ok10:FOk Pg Cg 10 ⟨rc10,Try.f10.results.toList⟩:=fok (kp:=kp10) rfl Try.func10 (by kernel_rfl) (by kernel_rfl) (by kernel_rfl)
theorem ok21:FOk Pg Cg 21 ⟨rc21,Try.f21.results.toList⟩:=fok (kp:=kp21) rfl Try.func21 (by kernel_rfl) (by kernel_rfl) (by kernel_rfl)
theorem ok27:FOk Pg Cg 27 ⟨rc27,Try.f27.results.toList⟩:=fok (kp:=kp27) rfl Try.func27 (by kernel_rfl) (by kernel_rfl) (by kernel_rfl)
theorem ok32:FOk Pg Cg 32 ⟨rc32,Try.f32.results.toList⟩:=fok (kp:=kp32) rfl Try.func32 (by kernel_rfl) (by kernel_rfl) (by kernel_rfl)
theorem ok37:FOk Pg Cg 37 ⟨rc37,Try.f37.results.toList⟩:=fok (kp:=kp37) rfl Try.func37 (by kernel_rfl) (by kernel_rfl) (by kernel_rfl)
theorem ok41:FOk Pg Cg 41 ⟨rc41,Try.f41.results.toList⟩:=fok (kp:=kp41) rfl Try.func41 (by kernel_rfl) (by kernel_rfl) (by kernel_rfl)
theorem ok45:FOk Pg Cg 45 ⟨rc45,Try.f45.results.toList⟩:=fok (kp:=kp45) rfl Try.func45 (by kernel_rfl) (by kernel_rfl) (by kernel_rfl)
theorem ok51:FOk Pg Cg 51 ⟨rc51,Try.f51.results.toList⟩:=fok (kp:=kp51) rfl Try.func51 (by kernel_rfl) (by kernel_rfl) (by kernel_rfl)
theorem ok55:FOk Pg Cg 55 ⟨rc55,Try.f55.results.toList⟩:=fok (kp:=kp55) rfl Try.func55 (by kernel_rfl) (by kernel_rfl) (by kernel_rfl)
theorem ok65:FOk Pg Cg 65 ⟨rc65,Try.f65.results.toList⟩:=fok (kp:=kp65) rfl Try.func65 (by kernel_rfl) (by kernel_rfl) (by kernel_rfl)
theorem ok69:FOk Pg Cg 69 ⟨rc69,Try.f69.results.toList⟩:=fok (kp:=kp69) rfl Try.func69 (by kernel_rfl) (by kernel_rfl) (by kernel_rfl)
theorem ok73:FOk Pg Cg 73 ⟨rc73,Try.f73.results.toList⟩:=fok (kp:=kp73) rfl Try.func73 (by kernel_rfl) (by kernel_rfl) (by kernel_rfl)
theorem ok77:FOk Pg Cg 77 ⟨rc77,Try.f77.results.toList⟩:=fok (kp:=kp77) rfl Try.func77 (by kernel_rfl) (by kernel_rfl) (by kernel_rfl)
theorem ok82:FOk Pg Cg 82 ⟨rc82,Try.f82.results.toList⟩:=fok (kp:=kp82) rfl Try.func82 (by kernel_rfl) (by kernel_rfl) (by kernel_rfl)
theorem ok86:FOk Pg Cg 86 ⟨rc86,Try.f86.results.toList⟩:=fok (kp:=kp86) rfl Try.func86 (by kernel_rfl) (by kernel_rfl) (by kernel_rfl)
end Go.AM.S
end
section
namespace Go.AM.S
open Go Go.AM Go.Proofs
set_option maxRecDepth 100000
theorem ok15:FOk Pg Cg 15 ⟨rc15,Try.f15.results.toList⟩:=fok (kp:=kp15) rfl Try.func15 (by kernel_rfl) (by kernel_rfl) (by kernel_rfl)
theorem ok22:FOk Pg Cg 22 ⟨rc22,Try.f22.results.toList⟩:=fok (kp:=kp22) rfl Try.func22 (by kernel_rfl) (by kernel_rfl) (by kernel_rfl)
theorem ok28:FOk Pg Cg 28 ⟨rc28,Try.f28.results.toList⟩:=fok (kp:=kp28) rfl Try.func28 (by kernel_rfl) (by kernel_rfl) (by kernel_rfl)
theorem ok33:FOk Pg Cg 33 ⟨rc33,Try.f33.results.toList⟩:=fok (kp:=kp33) rfl Try.func33 (by kernel_rfl) (by kernel_rfl) (by kernel_rfl)
theorem ok38:FOk Pg Cg 38 ⟨rc38,Try.f38.results.toList⟩:=fok (kp:=kp38) rfl Try.func38 (by kernel_rfl) (by kernel_rfl) (by kernel_rfl)
theorem ok42:FOk Pg Cg 42 ⟨rc42,Try.f42.results.toList⟩:=fok (kp:=kp42) rfl Try.func42 (by kernel_rfl) (by kernel_rfl) (by kernel_rfl)
theorem ok46:FOk Pg Cg 46 ⟨rc46,Try.f46.results.toList⟩:=fok (kp:=kp46) rfl Try.func46 (by kernel_rfl) (by kernel_rfl) (by kernel_rfl)
theorem ok52:FOk Pg Cg 52 ⟨rc52,Try.f52.results.toList⟩:=fok (kp:=kp52) rfl Try.func52 (by kernel_rfl) (by kernel_rfl) (by kernel_rfl)
theorem ok56:FOk Pg Cg 56 ⟨rc56,Try.f56.results.toList⟩:=fok (kp:=kp56) rfl Try.func56 (by kernel_rfl) (by kernel_rfl) (by kernel_rfl)
theorem ok66:FOk Pg Cg 66 ⟨rc66,Try.f66.results.toList⟩:=fok (kp:=kp66) rfl Try.func66 (by kernel_rfl) (by kernel_rfl) (by kernel_rfl)
theorem ok70:FOk Pg Cg 70 ⟨rc70,Try.f70.results.toList⟩:=fok (kp:=kp70) rfl Try.func70 (by kernel_rfl) (by kernel_rfl) (by kernel_rfl)
theorem ok74:FOk Pg Cg 74 ⟨rc74,Try.f74.results.toList⟩:=fok (kp:=kp74) rfl Try.func74 (by kernel_rfl) (by kernel_rfl) (by kernel_rfl)
theorem ok78:FOk Pg Cg 78 ⟨rc78,Try.f78.results.toList⟩:=fok (kp:=kp78) rfl Try.func78 (by kernel_rfl) (by kernel_rfl) (by kernel_rfl)
theorem ok83:FOk Pg Cg 83 ⟨rc83,Try.f83.results.toList⟩:=fok (kp:=kp83) rfl Try.func83 (by kernel_rfl) (by kernel_rfl) (by kernel_rfl)
theorem ok87:FOk Pg Cg 87 ⟨rc87,Try.f87.results.toList⟩:=fok (kp:=kp87) rfl Try.func87 (by kernel_rfl) (by kernel_rfl) (by kernel_rfl)
end Go.AM.S
end
section
namespace Go.AM.S
open Go Go.AM Go.Proofs
set_option maxRecDepth 100000
theorem ok16:FOk Pg Cg 16 ⟨rc16,Try.f16.results.toList⟩:=fok (kp:=kp16) rfl Try.func16 (by kernel_rfl) (by kernel_rfl) (by kernel_rfl)
theorem ok25:FOk Pg Cg 25 ⟨rc25,Try.f25.results.toList⟩:=fok (kp:=kp25) rfl Try.func25 (by kernel_rfl) (by kernel_rfl) (by kernel_rfl)
theorem ok29:FOk Pg Cg 29 ⟨rc29,Try.f29.results.toList⟩:=fok (kp:=kp29) rfl Try.func29 (by kernel_rfl) (by kernel_rfl) (by kernel_rfl)
theorem ok35:FOk Pg Cg 35 ⟨rc35,Try.f35.results.toList⟩:=fok (kp:=kp35) rfl Try.func35 (by kernel_rfl) (by kernel_rfl) (by kernel_rfl)
theorem ok39:FOk Pg Cg 39 ⟨rc39,Try.f39.results.toList⟩:=fok (kp:=kp39) rfl Try.func39 (by kernel_rfl) (by kernel_rfl) (by kernel_rfl)
theorem ok43:FOk Pg Cg 43 ⟨rc43,Try.f43.results.toList⟩:=fok (kp:=kp43) rfl Try.func43 (by kernel_rfl) (by kernel_rfl) (by kernel_rfl)
theorem ok48:FOk Pg Cg 48 ⟨rc48,Try.f48.results.toList⟩:=fok (kp:=kp48) rfl Try.func48 (by kernel_rfl) (by kernel_rfl) (by kernel_rfl)
theorem ok53:FOk Pg Cg 53 ⟨rc53,Try.f53.results.toList⟩:=fok (kp:=kp53) rfl Try.func53 (by kernel_rfl) (by kernel_rfl) (by kernel_rfl)
theorem ok63:FOk Pg Cg 63 ⟨rc63,Try.f63.results.toList⟩:=fok (kp:=kp63) rfl Try.func63 (by kernel_rfl) (by kernel_rfl) (by kernel_rfl)
theorem ok67:FOk Pg Cg 67 ⟨rc67,Try.f67.results.toList⟩:=fok (kp:=kp67) rfl Try.func67 (by kernel_rfl) (by kernel_rfl) (by kernel_rfl)
theorem ok71:FOk Pg Cg 71 ⟨rc71,Try.f71.results.toList⟩:=fok (kp:=kp71) rfl Try.func71 (by kernel_rfl) (by kernel_rfl) (by kernel_rfl)
theorem ok75:FOk Pg Cg 75 ⟨rc75,Try.f75.results.toList⟩:=fok (kp:=kp75) rfl Try.func75 (by kernel_rfl) (by kernel_rfl) (by kernel_rfl)
theorem ok79:FOk Pg Cg 79 ⟨rc79,Try.f79.results.toList⟩:=fok (kp:=kp79) rfl Try.func79 (by kernel_rfl) (by kernel_rfl) (by kernel_rfl)
theorem ok84:FOk Pg Cg 84 ⟨rc84,Try.f84.results.toList⟩:=fok (kp:=kp84) rfl Try.func84 (by kernel_rfl) (by kernel_rfl) (by kernel_rfl)
theorem ok88:FOk Pg Cg 88 ⟨rc88,Try.f88.results.toList⟩:=fok (kp:=kp88) rfl Try.func88 (by kernel_rfl) (by kernel_rfl) (by kernel_rfl)
end Go.AM.S
end
section
namespace Go.AM.S
open Go Go.AM Go.Proofs
set_option maxRecDepth 100000
theorem ok18:FOk Pg Cg 18 ⟨rc18,Try.f18.results.toList⟩:=fok (kp:=kp18) rfl Try.func18 (by kernel_rfl) (by kernel_rfl) (by kernel_rfl)
theorem ok26:FOk Pg Cg 26 ⟨rc26,Try.f26.results.toList⟩:=fok (kp:=kp26) rfl Try.func26 (by kernel_rfl) (by kernel_rfl) (by kernel_rfl)
theorem ok31:FOk Pg Cg 31 ⟨rc31,Try.f31.results.toList⟩:=fok (kp:=kp31) rfl Try.func31 (by kernel_rfl) (by kernel_rfl) (by kernel_rfl)
theorem ok36:FOk Pg Cg 36 ⟨rc36,Try.f36.results.toList⟩:=fok (kp:=kp36) rfl Try.func36 (by kernel_rfl) (by kernel_rfl) (by kernel_rfl)
theorem ok40:FOk Pg Cg 40 ⟨rc40,Try.f40.results.toList⟩:=fok (kp:=kp40) rfl Try.func40 (by kernel_rfl) (by kernel_rfl) (by kernel_rfl)
theorem ok44:FOk Pg Cg 44 ⟨rc44,Try.f44.results.toList⟩:=fok (kp:=kp44) rfl Try.func44 (by kernel_rfl) (by kernel_rfl) (by kernel_rfl)
theorem ok50:FOk Pg Cg 50 ⟨rc50,Try.f50.results.toList⟩:=fok (kp:=kp50) rfl Try.func50 (by kernel_rfl) (by kernel_rfl) (by kernel_rfl)
theorem ok54:FOk Pg Cg 54 ⟨rc54,Try.f54.results.toList⟩:=fok (kp:=kp54) rfl Try.func54 (by kernel_rfl) (by kernel_rfl) (by kernel_rfl)
theorem ok64:FOk Pg Cg 64 ⟨rc64,Try.f64.results.toList⟩:=fok (kp:=kp64) rfl Try.func64 (by kernel_rfl) (by kernel_rfl) (by kernel_rfl)
theorem ok68:FOk Pg Cg 68 ⟨rc68,Try.f68.results.toList⟩:=fok (kp:=kp68) rfl Try.func68 (by kernel_rfl) (by kernel_rfl) (by kernel_rfl)
theorem ok72:FOk Pg Cg 72 ⟨rc72,Try.f72.results.toList⟩:=fok (kp:=kp72) rfl Try.func72 (by kernel_rfl) (by kernel_rfl) (by kernel_rfl)
theorem ok76:FOk Pg Cg 76 ⟨rc76,Try.f76.results.toList⟩:=fok (kp:=kp76) rfl Try.func76 (by kernel_rfl) (by kernel_rfl) (by kernel_rfl)
theorem ok81:FOk Pg Cg 81 ⟨rc81,Try.f81.results.toList⟩:=fok (kp:=kp81) rfl Try.func81 (by kernel_rfl) (by kernel_rfl) (by kernel_rfl)
theorem ok85:FOk Pg Cg 85 ⟨rc85,Try.f85.results.toList⟩:=fok (kp:=kp85) rfl Try.func85 (by kernel_rfl) (by kernel_rfl) (by kernel_rfl)
theorem ok89:FOk Pg Cg 89 ⟨rc89,Try.f89.results.toList⟩:=fok (kp:=kp89) rfl Try.func89 (by kernel_rfl) (by kernel_rfl) (by kernel_rfl)
end Go.AM.S
end
section
namespace Go.AM.S
open Go Go.AM Go.Proofs
set_option maxRecDepth 100000
theorem tbl_ok:∀ p ∈ tblL,FOk Pg Cg p.1 p.2:=by
 unfold tblL
 simp only [List.forall_mem_cons,List.not_mem_nil,false_imp_iff,implies_true,and_true]
 exact ⟨ok10,ok15,ok16,ok18,ok21,ok22,ok25,ok26,ok27,ok28,ok29,ok31,ok32,ok33,ok35,ok36,ok37,ok38,ok39,ok40,ok41,ok42,ok43,ok44,ok45,ok46,ok48,ok50,ok51,ok52,ok53,ok54,ok55,ok56,ok63,ok64,ok65,ok66,ok67,ok68,ok69,ok70,ok71,ok72,ok73,ok74,ok75,ok76,ok77,ok78,ok79,ok81,ok82,ok83,ok84,ok85,ok86,ok87,ok88,ok89⟩
theorem use_ok:tblL.map (·.1)=cUse:=rfl
theorem seat_eq (kn:Kn) (n:Nat):S.fn Pg kn tbl n=fnV Pg Cg kn n:=by
 refine fn_eq (fun f fc h=>⟨?_,?_⟩) (fun f h=>?_) n
 ·have:=lkL_mem h
  show cUse.contains f=true
  rw [←use_ok,List.contains_iff_mem]
  exact List.mem_map.2 ⟨(f,fc),this,rfl⟩
 ·exact tbl_ok _ (lkL_mem h)
 ·have:=lkL_none h
  show cUse.contains f=false
  rw [←use_ok]
  cases hb:(tblL.map (·.1)).contains f with
  | false=>rfl
  | true=>exact absurd (List.contains_iff_mem.1 hb) this
end Go.AM.S
end
section
namespace Go.AM.S
open Go Go.AM Go.Proofs
set_option maxRecDepth 100000
theorem prog_ok:progOk Pg Cg=true:=by kernel_rfl
end Go.AM.S
end
