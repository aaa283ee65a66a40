/- Part 5 of the proof: what it says stands at its theorems. -/
import Derived.Test.YtooliddjiiilfaaNdA4
import Derived.Test.YtooliddjiiilfaaNdA2
import Derived.KernelRfl
set_option linter.unusedVariables false
set_option linter.unusedSimpArgs false
set_option linter.unusedSectionVars false
section
namespace Go.AM.S
open Go Go.AM Go.Proofs NumL
open _root_.Go.AM.G (R)
set_option maxRecDepth 100000
theorem tbl40:tbl 40=some ⟨rc40,[.cell 4 31]⟩:=by kernel_rfl
theorem gcdR_spec {k l:Nat} {va vb:V} {x y:Int} (ha:IsR k va x) (hb:IsR l vb y) (hk:k≤90000) (hl:l≤90000):Gives 40 [va,vb] fun r=>IsR (max k l) r ((Nat.gcd x.natAbs y.natAbs:Nat):Int):=by
 obtain ⟨d,b,⟨⟨s,rfl,hs⟩,dd,cd,h0⟩,rfl,hdl⟩:=ha
 obtain ⟨e,c,⟨⟨u,rfl,hu⟩,de,ce,he0⟩,rfl,hel⟩:=hb
 rw [zr_abs,zr_abs]
 refine gives_of tbl40 fun h Q hQ=>?_
 unfold rc40
 refine sRG ?_
 have hI1:IsR (max k l) (.agg [.bool false,s]) ((vl 10000 d:Nat):Int):=⟨d,false,⟨⟨s,rfl,hs⟩,dd,cd,fun _=>rfl⟩,rfl,by omega⟩
 have hI2:IsR (max k l) (.agg [.bool false,u]) ((vl 10000 e:Nat):Int):=⟨e,false,⟨⟨u,rfl,hu⟩,de,ce,fun _=>rfl⟩,rfl,by omega⟩
 refine ww_seq (ww_reg (fun n k=>by simp -implicitDefEqProofs (disch:=omega) only [go_sem,reduceIte,Nat.reduceEqDiff,gt_start,List.getD_cons_zero,List.getD_cons_succ,ldc_snd L29,bt40_1_2 hs.pl,bt40_1_5 hu.pl,da40_1_6,da40_1_7,stc_two N31 1 (.bool false) s (.bool false) .nils _ rfl hs.pl.ok,stc_two N31 1 (.bool false) u (.bool false) .nils _ rfl hu.pl.ok];exact finD_ok (by kernel_rfl)) ?_)
 refine ww_seq (ww_for (fun m st=>∃ a sa ba sb bb,IsR (max k l) (.agg [.bool ba,sa]) ((a:Nat):Int)∧IsR (max k l) (.agg [.bool bb,sb]) ((m:Nat):Int)∧Nat.gcd a m=Nat.gcd (vl 10000 d) (vl 10000 e)∧gt st.tm 5=.ptr (.loc 5 1) 0∧gt st.tm 6=.ptr (.loc 6 1) 0∧gt st.tm 4=.ptr (.loc 4 1) 0∧lg st.loc 5=(1,.cells false [.bool ba,sa])∧lg st.loc 6=(1,.cells false [.bool bb,sb])∧lg st.loc 4=(1,.cells false [.bool false,.nils])∧st.hp=⟨h.rows,none,h.mods⟩) (vl 10000 e) ⟨vl 10000 d,s,false,u,false,hI1,hI2,rfl,sS,sS,sS,sS,sS,sS,rfl⟩ ?_)
 intro m st ⟨a,sa,ba,sb,bb,hA,hM,hg,h5,h6,h4,l5,l6,l4,hhp⟩
 obtain ⟨pa,xa,qa⟩:=hA.nn
 obtain ⟨pb,xb,qb⟩:=hM.nn
 have hM':=hM
 obtain ⟨f,b',⟨⟨sb',eb,hsb⟩,df,cf,hf0⟩,hmv,hfl⟩:=hM'
 obtain ⟨rfl,rfl⟩:bb=b'∧sb=sb':=by simpa using eb
 have hfm:vl 10000 f=m:=by rw [←zr_abs f bb,←hmv];simp
 rcases Nat.eq_zero_or_pos f.length with e0 | e0
 ·have ef:f=[]:=List.length_eq_zero_iff.1 e0
  have hm0:m=0:=by rw [←hfm,ef];rfl
  refine ww_seq (ww_seq (ww_reg (fun n k=>by simp -implicitDefEqProofs (disch:=omega) only [go_sem,reduceIte,Nat.reduceEqDiff,h6,l6,ldc_snd L29,len_sl hsb,e0,d_false];rfl) ?_))
  refine ww_false sS (ww_exit ?_)
  rw [if_pos rfl]
  refine ww_seq (ww_reg (fun n k=>by simp -implicitDefEqProofs (disch:=omega) only [go_sem,reduceIte,Nat.reduceEqDiff,h5,l5,h4,l4,ldc_two L31,stc_two N31 1 (.bool ba) sa (.bool false) .nils _ rfl pa.ok];rfl) ?_)
  refine ww_ret (hQ _ _ (fin_cell (x:=.bool ba) (y:=sa) (f:=false) (d:=4) (g:=1) (by kernel_rfl) (sS1 h4) sS (Pl.bool _) pa (by rw [hhp])) ?_)
  rw [←hg,hm0,Nat.gcd_zero_right]
  exact hA
 ·have hm0:0<m:=by
   rw [←hfm]
   exact vl_pos_of (B:=10000) cf (fun q=>by subst q;simp at e0) (by decide)
  refine ww_seq (ww_seq (ww_reg (fun n k=>by simp -implicitDefEqProofs (disch:=omega) only [go_sem,reduceIte,Nat.reduceEqDiff,h6,l6,ldc_snd L29,len_sl hsb,d_true];rfl) ?_))
  refine ww_true sS (ww_skip (ww_block ?_))
  obtain ⟨_,hq,v,w,rfl,hv,hw⟩:=quoR_spec hA hM (by omega) (by omega) ⟨h.rows,none,h.mods⟩
  rw [if_neg (by omega),←Int.natCast_emod] at hw
  obtain ⟨sv,bv,rfl,pv,xv,_⟩:=hv.form
  obtain ⟨sw,bw,rfl,pw,xw,_⟩:=hw.form
  refine ww_seq (ww_call (hq) (fun n hn k=>by simp -implicitDefEqProofs (disch:=omega) only [go_sem,reduceIte,Nat.reduceEqDiff,h5,h6,l5,l6,hhp,ldc_two L31,clc2 hn xa xb,ext_tuple,stc_two N31 ((lg st.loc 7).1+1) (.bool bv) sv (.bool false) .nils _ rfl pv.ok,stc_two N31 ((lg st.loc 8).1+1) (.bool bw) sw (.bool false) .nils _ rfl pw.ok];rfl) ?_)
  refine ww_reg (fun n k=>by simp -implicitDefEqProofs (disch:=omega) only [go_sem,reduceIte,Nat.reduceEqDiff,h5,h6,l5,l6,ldc_two L31,stc_two N31 1 (.bool bb) sb (.bool ba) sa _ rfl pb.ok,stc_two N31 1 (.bool bw) sw (.bool bb) sb _ rfl pw.ok];exact finD_ok (by kernel_rfl)) ?_
  exact ⟨a % m,Nat.mod_lt _ hm0,m,sb,bb,sw,bw,hM,hw,by rw [←hg,Nat.gcd_comm a m,Nat.gcd_rec m a,Nat.gcd_comm],(sS1 h5),(sS1 h6),(sS1 h4),sS,sS,(sS1 l4),rfl⟩
end Go.AM.S
end
section
namespace Go.AM.S
open Go Go.AM Go.Proofs NumL
open _root_.Go.AM.G (R)
set_option maxRecDepth 100000
theorem i_eql_neg (k:IntKind) (m n:Nat):G.int2 .eql k (.negSucc m) (.ofNat n)=some (.bool false):=rfl
theorem bs79_2 (s t:Str):bs Pg 79 2 [(0,.str s),(1,.str t)]=some (.slice none true 1 [.str s,.str t]):=by
 unfold bs
 rw [E79]
 change G.onSome (F.layE Pg 9) (fun p=>G.onSome (F.zeroV Pg 9) (fun z=>bif (Nat.mul 2 p.fst).ble 16777216&&F.noRefsR z&&z.live&&(F.lenR z.cells).beq p.fst then G.onSome (filE p.fst [(0,V.str s),(1,V.str t)] (F.repR 2 z)) (fun l=>some (V.slice none true p.fst l)) none else none) none) none=_
 rw [L9]
 change G.onSome (F.zeroV Pg 9) (fun z=>bif (Nat.mul 2 1).ble 16777216&&F.noRefsR z&&z.live&&(F.lenR z.cells).beq 1 then G.onSome (filE 1 [(0,V.str s),(1,V.str t)] (F.repR 2 z)) (fun l=>some (V.slice none true 1 l)) none else none) none=_
 rw [Z9]
 rfl
theorem tbl6:tbl 6=some ⟨rc6,[.tmp 4]⟩:=by kernel_rfl
theorem law6 {l m:List Nat} (hdl:Dg 256 l) (hdm:Dg 256 m):Runs Pg kn0 tbl 6 [.str (sl l),.str (sl m)] noHp (.val (.bool true) noHp):=by
 suffices hw:WW Pg kn0 tbl rc6 ⟨startTm [.str (sl l),.str (sl m)],.lf,⟨noHp.rows,none,noHp.mods⟩⟩ (fun _=>False) (fun _ _=>False) (fun s=>∃ o,fin Pg noHp [.tmp 4] s=some o∧o=.val (.bool true) noHp) by
  obtain ⟨o,h1,h2⟩:=runs_ex (kn:=kn0) (h:=noHp) rfl tbl6 (ww_mono hw (fun s hs=>hs.elim) (fun _ _ h=>h) (fun s h=>h))
  subst h2
  exact h1
 have done:∀ (st:St),gt st.tm 4=.bool true→st.hp=noHp→∃ o,fin Pg noHp [.tmp 4] st=some o∧o=.val (.bool true) noHp:=by
  intro st h4 hh
  exact ⟨_,fin_tmpD h4 (Ex1.bool _) (by rw [hh];exact fun x hx=>by cases hx) rfl,rfl⟩
 have ehp:(⟨noHp.rows,none,noHp.mods⟩:Hp)=noHp:=rfl
 rw [ehp]
 unfold rc6
 refine sR ?_
 refine ww_seq (ww_seq (ww_call (known_runs) (fun n hn k=>by simp -implicitDefEqProofs (disch:=omega) only [go_sem,reduceIte,Nat.reduceEqDiff,clc0 hn];rfl) ?_))
 refine ww_false sS (ww_skip ?_)
 obtain ⟨_,hlt0,rfl⟩:=light_spec true [sl l,sl m] (by simp) noHp
 have eall:([sl l,sl m].all fun s=>decide (s.n≤300))=decide (l.length≤300∧m.length≤300):=by
  show (decide (l.length≤300)&&(decide (m.length≤300)&&true))=_
  simp only [Bool.and_true,Bool.decide_and]
 rw [eall] at hlt0
 have hlt:Runs Pg kn0 tbl 14 [.slice none true 1 [.str (sl l),.str (sl m)]] noHp (.val (.bool (decide (l.length≤300∧m.length≤300))) noHp):=hlt0
 refine ww_seq (ww_seq (ww_call (hlt) (fun n hn k=>by simp -implicitDefEqProofs (disch:=omega) only [go_sem,reduceIte,Nat.reduceEqDiff,gt_start,List.getD_cons_zero,List.getD_cons_succ,bs79_2,clc1 hn (fun _=>rfl)];rfl) ?_))
 by_cases hl:l.length≤300∧m.length≤300
 rotate_left
 ·rw [decide_eq_false hl]
  refine ww_true sS ?_
  refine sR ?_
  exact ww_ret (done _ sS rfl)
 rw [decide_eq_true hl]
 refine ww_false sS (ww_skip ?_)
 obtain ⟨_,Pa,va,wa,x,rfl,Ia,Ja⟩:=of24_spec hdl hl.1 noHp
 have ea:=Ia.ex;have ua:=Ia.quiet
 obtain ⟨_,Pb,vb,wb,y,rfl,Ib,Jb⟩:=of24_spec hdm hl.2 noHp
 have eb:=Ib.ex;have ub:=Ib.quiet
 obtain ⟨_,Q1,vq,vr,rfl,Iq,Ir0⟩:=quo_spec Ia Ib (by omega) (by omega) noHp
 have Ir:IsI 1002 vr (x % y):=Ir0.mono (l:=1002) (by split<;>omega)
 obtain ⟨_,Q2,wq,wr,rfl,Jq,Jr0⟩:=quoR_spec Ja Jb (by omega) (by omega) noHp
 have Jr:IsR 252 wr (x % y):=Jr0.mono (l:=252) (by split<;>omega)
 have eq:=Iq.ex;have uq:=Iq.quiet;have er:=Ir.ex;have ur:=Ir.quiet
 have fa:=Ja.ex;have ga:=Ja.quiet;have fb:=Jb.ex;have gb:=Jb.quiet
 have fq:=Jq.ex;have gq:=Jq.quiet;have fr:=Jr.ex;have gr:=Jr.quiet
 obtain ⟨_,A1,rfl⟩:=same_spec Iq Jq (by omega) (by omega) noHp
 obtain ⟨_,A2,rfl⟩:=same_spec Ir Jr (by omega) (by omega) noHp
 obtain ⟨r3,A3,I3⟩:=gcd_spec Ia Ib (by omega) (by omega) noHp
 obtain ⟨q3,B3,J3⟩:=gcdR_spec Ja Jb (by omega) (by omega) noHp
 have e3:=I3.ex;have u3:=I3.quiet;have f3:=J3.ex;have g3:=J3.quiet
 obtain ⟨_,S3,rfl⟩:=same_spec I3 J3 (by omega) (by omega) noHp
 obtain ⟨r4,A4,I4⟩:=mul_spec Ib Iq (by omega) (by omega) noHp
 have e4:=I4.ex;have u4:=I4.quiet
 obtain ⟨r5,A5,I5⟩:=add_spec I4 Ir (by omega) (by omega) noHp
 have e5:=I5.ex;have u5:=I5.quiet
 obtain ⟨_,A6,rfl⟩:=cmp_spec I5 Ia (by omega) (by omega) noHp
 rw [cmpZ_eq (show y*(x / y)+x % y=x from Int.mul_ediv_add_emod x y)] at A6
 rw [decide_eq_true rfl] at A1 A2 S3
 obtain ⟨rn,Pn,In⟩:=neg_spec Ib (by omega) noHp
 have en:=In.ex;have un:=In.quiet
 obtain ⟨_,Ps,rfl⟩:=sign_spec Ib (by omega) noHp
 obtain ⟨_,Pr,rfl⟩:=sign_spec Ir (by omega) noHp
 obtain ⟨sa,ba,rfl,pa,_,_⟩:=Ia.form
 obtain ⟨ta,da,rfl,qa,_,_⟩:=Ja.form
 obtain ⟨sb,bb,rfl,pb,_,_⟩:=Ib.form
 obtain ⟨tb,db,rfl,qb,_,_⟩:=Jb.form
 refine ww_seq (ww_call (Pa) (fun n hn k=>by simp -implicitDefEqProofs (disch:=omega) only [go_sem,reduceIte,Nat.reduceEqDiff,gt_start,List.getD_cons_zero,List.getD_cons_succ,clc1 hn (Ex1.str _),ext_tuple,stc_two N26 1 sa (.bool ba) .nils (.bool false) _ pa.ok rfl,stc_two N31 1 (.bool da) ta (.bool false) .nils _ rfl qa.ok];rfl) ?_)
 refine ww_seq (ww_call (Pb) (fun n hn k=>by simp -implicitDefEqProofs (disch:=omega) only [go_sem,reduceIte,Nat.reduceEqDiff,gt_start,List.getD_cons_zero,List.getD_cons_succ,clc1 hn (Ex1.str _),ext_tuple,stc_two N26 1 sb (.bool bb) .nils (.bool false) _ pb.ok rfl,stc_two N31 1 (.bool db) tb (.bool false) .nils _ rfl qb.ok];rfl) ?_)
 obtain ⟨sq,bq,rfl,pq,_,_⟩:=Iq.form
 obtain ⟨sr,br,rfl,pr,_,_⟩:=Ir.form
 obtain ⟨tq,dq,rfl,hpq,_,_⟩:=Jq.form
 obtain ⟨tr,dr,rfl,hpr,_,_⟩:=Jr.form
 obtain ⟨sn,bn,rfl,pn,_,_⟩:=In.form
 refine ww_seq (ww_call (Q1) (fun n hn k=>by simp -implicitDefEqProofs (disch:=omega) only [go_sem,reduceIte,Nat.reduceEqDiff,ldc_two L26,clc2 hn ea eb,ext_tuple,stc_two N26 1 sq (.bool bq) .nils (.bool false) _ pq.ok rfl,stc_two N26 1 sr (.bool br) .nils (.bool false) _ pr.ok rfl];rfl) ?_)
 refine ww_seq (ww_call (Q2) (fun n hn k=>by simp -implicitDefEqProofs (disch:=omega) only [go_sem,reduceIte,Nat.reduceEqDiff,ldc_two L31,clc2 hn fa fb,ext_tuple,stc_two N31 1 (.bool dq) tq (.bool false) .nils _ rfl hpq.ok,stc_two N31 1 (.bool dr) tr (.bool false) .nils _ rfl hpr.ok];rfl) ?_)
 refine ww_at (M:=fun tm loc=>gt tm 5=.ptr (.loc 5 1) 0∧gt tm 6=.ptr (.loc 6 1) 0∧gt tm 7=.ptr (.loc 7 1) 0∧gt tm 8=.ptr (.loc 8 1) 0∧gt tm 9=.ptr (.loc 9 1) 0∧gt tm 10=.ptr (.loc 10 1) 0∧gt tm 11=.ptr (.loc 11 1) 0∧gt tm 12=.ptr (.loc 12 1) 0∧lg loc 5=(1,.cells false [sa,.bool ba])∧lg loc 6=(1,.cells false [.bool da,ta])∧lg loc 7=(1,.cells false [sb,.bool bb])∧lg loc 8=(1,.cells false [.bool db,tb])∧lg loc 9=(1,.cells false [sq,.bool bq])∧lg loc 10=(1,.cells false [sr,.bool br])∧lg loc 11=(1,.cells false [.bool dq,tq])∧lg loc 12=(1,.cells false [.bool dr,tr])∧lg loc 13=(0,.gone)) rfl ⟨sS,sS,sS,sS,sS,sS,sS,sS,sS,sS,sS,sS,sS,sS,sS,sS,(by simp -implicitDefEqProofs (disch:=omega) only [go_sem,reduceIte,Nat.reduceEqDiff,lg_lf])⟩ ?_
 intro tm loc ⟨h5,h6,h7,h8,h9,h10,h11,h12,l5,l6,l7,l8,l9,l10,l11,l12,l13⟩
 refine ww_seq (ww_seq (ww_call ((((A1).and (A2)).and ((A3).and (B3))).and (((S3).and (A4)).and ((A5).and (A6)))) (fun n hn k=>by
  simp -implicitDefEqProofs (disch:=omega) only [go_sem,reduceIte,Nat.reduceEqDiff,h5,h6,h7,h8,h9,h10,h11,h12,l5,l6,l7,l8,l9,l10,l11,l12,ldc_two L26,ldc_two L31,wv_tup,i_neq,d_false,↓cld2 hn.1.1.1 eq fq uq gq,↓cld2 hn.1.1.2 er fr ur gr,↓cld2 hn.1.2.1 ea eb ua ub,↓cld2 hn.1.2.2 fa fb ga gb,↓cld2 hn.2.1.1 e3 f3 u3 g3,↓cld2 hn.2.1.2 eb eq ub uq,↓cld2 hn.2.2.1 e4 er u4 ur,↓cld2 hn.2.2.2 e5 ea u5 ua]
  exact finD_ok (by kernel_rfl)) ?_))
 refine ww_false sS (ww_skip ?_)
 refine ww_seq (ww_reg (fun n k=>by simp -implicitDefEqProofs (disch:=omega) only [go_sem,reduceIte,Nat.reduceEqDiff,h7,l7,l13,ldc_two L26,stc_two N26 1 sb (.bool bb) .nils (.bool false) _ pb.ok rfl];rfl) ?_)
 refine ww_join (M:=fun st=>∃ sw bw,IsI 1002 (.agg [sw,.bool bw]) ((y.natAbs:Nat):Int)∧gt st.tm 7=.ptr (.loc 7 1) 0∧gt st.tm 10=.ptr (.loc 10 1) 0∧gt st.tm 13=.ptr (.loc 13 1) 0∧lg st.loc 7=(1,.cells false [sb,.bool bb])∧lg st.loc 10=(1,.cells false [sr,.bool br])∧lg st.loc 13=(1,.cells false [sw,.bool bw])∧st.hp=noHp) ?_ ?_
 ·by_cases hz:y<0
  ·have hs:sgn y=.negSucc 0:=by unfold sgn cmpZ;rw [if_pos hz]
   rw [hs] at Ps
   refine ww_seq (ww_call (Ps) (fun n hn k=>by simp -implicitDefEqProofs (disch:=omega) only [go_sem,reduceIte,Nat.reduceEqDiff,h7,l7,ldc_two L26,clc1 hn eb,i_lss_neg];rfl) ?_)
   refine ww_true sS ?_
   refine ww_call (Pn) (fun n hn k=>by simp -implicitDefEqProofs (disch:=omega) only [go_sem,reduceIte,Nat.reduceEqDiff,h7,l7,ldc_two L26,clc1 hn eb,stc_two N26 1 sn (.bool bn) sb (.bool bb) _ pn.ok rfl];rfl) ?_
   refine ⟨sn,bn,?_,(sS1 h7),(sS1 h10),sS,(sS1 l7),(sS1 l10),sS,rfl⟩
   rw [show ((y.natAbs:Nat):Int) = -y by omega];exact In
  ·have hs:∃ q,sgn y=.ofNat q:=by
    unfold sgn cmpZ
    rw [if_neg (by omega)]
    split
    ·exact ⟨1,rfl⟩
    ·exact ⟨0,rfl⟩
   obtain ⟨q,hs⟩:=hs
   rw [hs] at Ps
   refine ww_seq (ww_call (Ps) (fun n hn k=>by simp -implicitDefEqProofs (disch:=omega) only [go_sem,reduceIte,Nat.reduceEqDiff,h7,l7,ldc_two L26,clc1 hn eb,i_lss,d_false];rfl) ?_)
   refine ww_false sS (ww_skip ?_)
   refine ⟨sb,bb,?_,(sS1 h7),(sS1 h10),sS,(sS1 l7),(sS1 l10),sS,rfl⟩
   rw [show ((y.natAbs:Nat):Int)=y by omega];exact Ib
 ·intro st ⟨sw,bw,Iw,h7,h10,h13,l7,l10,l13,hh⟩
  obtain ⟨tm2,loc2,hp2⟩:=st
  have hh':hp2=noHp:=hh
  subst hh'
  have ew:=Iw.ex
  obtain ⟨_,Pc,rfl⟩:=cmp_spec Ir Iw (by omega) (by omega) noHp
  by_cases hy:y=0
  ·rw [sgn_zero hy] at Ps
   refine ww_seq (ww_call (Ps) (fun n hn k=>by simp -implicitDefEqProofs (disch:=omega) only [go_sem,reduceIte,Nat.reduceEqDiff,h7,l7,ldc_two L26,↓clc1 hn eb,iZ_eql,wv_tup];rfl) ?_)
   exact ww_ret (done _ sS rfl)
  ·have hr0:0≤x % y:=Int.emod_nonneg x hy
   have hr1:x % y<((y.natAbs:Nat):Int):=by
    have:=Int.emod_lt x hy
    omega
   have hc:cmpZ (x % y) ((y.natAbs:Nat):Int)=.negSucc 0:=by unfold cmpZ;rw [if_pos hr1]
   have hs:∃ q,sgn (x % y)=.ofNat q:=by
    unfold sgn cmpZ
    rw [if_neg (by omega)]
    split
    ·exact ⟨1,rfl⟩
    ·exact ⟨0,rfl⟩
   obtain ⟨q,hs⟩:=hs
   rw [hc] at Pc
   rw [hs] at Pr
   by_cases hz:y<0
   ·have hsy:sgn y=.negSucc 0:=by unfold sgn cmpZ;rw [if_pos hz]
    rw [hsy] at Ps
    refine ww_seq (ww_call ((Ps.and Pr).and Pc) (fun n hn k=>by simp -implicitDefEqProofs (disch:=omega) only [go_sem,reduceIte,Nat.reduceEqDiff,h7,h10,h13,l7,l10,l13,ldc_two L26,↓clc1 hn.1.1 eb,↓clc1 hn.1.2 er,↓clc2 hn.2 er ew,i_eql_neg,i_geq,i_lss_neg,d_true,wv_tup];rfl) ?_)
    exact ww_ret (done _ sS rfl)
   ·rw [sgn_pos (show 0<y by omega)] at Ps
    refine ww_seq (ww_call ((Ps.and Pr).and Pc) (fun n hn k=>by simp -implicitDefEqProofs (disch:=omega) only [go_sem,reduceIte,Nat.reduceEqDiff,h7,h10,h13,l7,l10,l13,ldc_two L26,↓clc1 hn.1.1 eb,↓clc1 hn.1.2 er,↓clc2 hn.2 er ew,i_eql,i_geq,i_lss_neg,d_true,d_false,wv_tup];rfl) ?_)
    exact ww_ret (done _ sS rfl)
end Go.AM.S
end
section
namespace Go.AM.S
open Go Go.AM Go.Proofs
set_option maxRecDepth 100000
theorem ok6:FOk Pg Cg 6 ⟨rc6,Try.f6.results.toList⟩:=fok (kp:=kp6) rfl Try.func6 (by kernel_rfl) (by kernel_rfl) (by kernel_rfl)
theorem ok16:FOk Pg Cg 16 ⟨rc16,Try.f16.results.toList⟩:=fok (kp:=kp16) rfl Try.func16 (by kernel_rfl) (by kernel_rfl) (by kernel_rfl)
theorem ok22:FOk Pg Cg 22 ⟨rc22,Try.f22.results.toList⟩:=fok (kp:=kp22) rfl Try.func22 (by kernel_rfl) (by kernel_rfl) (by kernel_rfl)
theorem ok26:FOk Pg Cg 26 ⟨rc26,Try.f26.results.toList⟩:=fok (kp:=kp26) rfl Try.func26 (by kernel_rfl) (by kernel_rfl) (by kernel_rfl)
theorem ok31:FOk Pg Cg 31 ⟨rc31,Try.f31.results.toList⟩:=fok (kp:=kp31) rfl Try.func31 (by kernel_rfl) (by kernel_rfl) (by kernel_rfl)
theorem ok37:FOk Pg Cg 37 ⟨rc37,Try.f37.results.toList⟩:=fok (kp:=kp37) rfl Try.func37 (by kernel_rfl) (by kernel_rfl) (by kernel_rfl)
theorem ok64:FOk Pg Cg 64 ⟨rc64,Try.f64.results.toList⟩:=fok (kp:=kp64) rfl Try.func64 (by kernel_rfl) (by kernel_rfl) (by kernel_rfl)
theorem ok68:FOk Pg Cg 68 ⟨rc68,Try.f68.results.toList⟩:=fok (kp:=kp68) rfl Try.func68 (by kernel_rfl) (by kernel_rfl) (by kernel_rfl)
theorem ok72:FOk Pg Cg 72 ⟨rc72,Try.f72.results.toList⟩:=fok (kp:=kp72) rfl Try.func72 (by kernel_rfl) (by kernel_rfl) (by kernel_rfl)
theorem ok76:FOk Pg Cg 76 ⟨rc76,Try.f76.results.toList⟩:=fok (kp:=kp76) rfl Try.func76 (by kernel_rfl) (by kernel_rfl) (by kernel_rfl)
theorem ok83:FOk Pg Cg 83 ⟨rc83,Try.f83.results.toList⟩:=fok (kp:=kp83) rfl Try.func83 (by kernel_rfl) (by kernel_rfl) (by kernel_rfl)
theorem ok87:FOk Pg Cg 87 ⟨rc87,Try.f87.results.toList⟩:=fok (kp:=kp87) rfl Try.func87 (by kernel_rfl) (by kernel_rfl) (by kernel_rfl)
end Go.AM.S
end
section
namespace Go.AM.S
open Go Go.AM Go.Proofs
set_option maxRecDepth 100000
theorem ok13:FOk Pg Cg 13 ⟨rc13,Try.f13.results.toList⟩:=fok (kp:=kp13) rfl Try.func13 (by kernel_rfl) (by kernel_rfl) (by kernel_rfl)
theorem ok17:FOk Pg Cg 17 ⟨rc17,Try.f17.results.toList⟩:=fok (kp:=kp17) rfl Try.func17 (by kernel_rfl) (by kernel_rfl) (by kernel_rfl)
theorem ok23:FOk Pg Cg 23 ⟨rc23,Try.f23.results.toList⟩:=fok (kp:=kp23) rfl Try.func23 (by kernel_rfl) (by kernel_rfl) (by kernel_rfl)
theorem ok27:FOk Pg Cg 27 ⟨rc27,Try.f27.results.toList⟩:=fok (kp:=kp27) rfl Try.func27 (by kernel_rfl) (by kernel_rfl) (by kernel_rfl)
theorem ok32:FOk Pg Cg 32 ⟨rc32,Try.f32.results.toList⟩:=fok (kp:=kp32) rfl Try.func32 (by kernel_rfl) (by kernel_rfl) (by kernel_rfl)
theorem ok38:FOk Pg Cg 38 ⟨rc38,Try.f38.results.toList⟩:=fok (kp:=kp38) rfl Try.func38 (by kernel_rfl) (by kernel_rfl) (by kernel_rfl)
theorem ok65:FOk Pg Cg 65 ⟨rc65,Try.f65.results.toList⟩:=fok (kp:=kp65) rfl Try.func65 (by kernel_rfl) (by kernel_rfl) (by kernel_rfl)
theorem ok69:FOk Pg Cg 69 ⟨rc69,Try.f69.results.toList⟩:=fok (kp:=kp69) rfl Try.func69 (by kernel_rfl) (by kernel_rfl) (by kernel_rfl)
theorem ok73:FOk Pg Cg 73 ⟨rc73,Try.f73.results.toList⟩:=fok (kp:=kp73) rfl Try.func73 (by kernel_rfl) (by kernel_rfl) (by kernel_rfl)
theorem ok77:FOk Pg Cg 77 ⟨rc77,Try.f77.results.toList⟩:=fok (kp:=kp77) rfl Try.func77 (by kernel_rfl) (by kernel_rfl) (by kernel_rfl)
theorem ok84:FOk Pg Cg 84 ⟨rc84,Try.f84.results.toList⟩:=fok (kp:=kp84) rfl Try.func84 (by kernel_rfl) (by kernel_rfl) (by kernel_rfl)
theorem ok88:FOk Pg Cg 88 ⟨rc88,Try.f88.results.toList⟩:=fok (kp:=kp88) rfl Try.func88 (by kernel_rfl) (by kernel_rfl) (by kernel_rfl)
end Go.AM.S
end
section
namespace Go.AM.S
open Go Go.AM Go.Proofs
set_option maxRecDepth 100000
theorem ok14:FOk Pg Cg 14 ⟨rc14,Try.f14.results.toList⟩:=fok (kp:=kp14) rfl Try.func14 (by kernel_rfl) (by kernel_rfl) (by kernel_rfl)
theorem ok18:FOk Pg Cg 18 ⟨rc18,Try.f18.results.toList⟩:=fok (kp:=kp18) rfl Try.func18 (by kernel_rfl) (by kernel_rfl) (by kernel_rfl)
theorem ok24:FOk Pg Cg 24 ⟨rc24,Try.f24.results.toList⟩:=fok (kp:=kp24) rfl Try.func24 (by kernel_rfl) (by kernel_rfl) (by kernel_rfl)
theorem ok28:FOk Pg Cg 28 ⟨rc28,Try.f28.results.toList⟩:=fok (kp:=kp28) rfl Try.func28 (by kernel_rfl) (by kernel_rfl) (by kernel_rfl)
theorem ok33:FOk Pg Cg 33 ⟨rc33,Try.f33.results.toList⟩:=fok (kp:=kp33) rfl Try.func33 (by kernel_rfl) (by kernel_rfl) (by kernel_rfl)
theorem ok39:FOk Pg Cg 39 ⟨rc39,Try.f39.results.toList⟩:=fok (kp:=kp39) rfl Try.func39 (by kernel_rfl) (by kernel_rfl) (by kernel_rfl)
theorem ok66:FOk Pg Cg 66 ⟨rc66,Try.f66.results.toList⟩:=fok (kp:=kp66) rfl Try.func66 (by kernel_rfl) (by kernel_rfl) (by kernel_rfl)
theorem ok70:FOk Pg Cg 70 ⟨rc70,Try.f70.results.toList⟩:=fok (kp:=kp70) rfl Try.func70 (by kernel_rfl) (by kernel_rfl) (by kernel_rfl)
theorem ok74:FOk Pg Cg 74 ⟨rc74,Try.f74.results.toList⟩:=fok (kp:=kp74) rfl Try.func74 (by kernel_rfl) (by kernel_rfl) (by kernel_rfl)
theorem ok78:FOk Pg Cg 78 ⟨rc78,Try.f78.results.toList⟩:=fok (kp:=kp78) rfl Try.func78 (by kernel_rfl) (by kernel_rfl) (by kernel_rfl)
theorem ok85:FOk Pg Cg 85 ⟨rc85,Try.f85.results.toList⟩:=fok (kp:=kp85) rfl Try.func85 (by kernel_rfl) (by kernel_rfl) (by kernel_rfl)
theorem ok89:FOk Pg Cg 89 ⟨rc89,Try.f89.results.toList⟩:=fok (kp:=kp89) rfl Try.func89 (by kernel_rfl) (by kernel_rfl) (by kernel_rfl)
end Go.AM.S
end
section
namespace Go.AM.S
open Go Go.AM Go.Proofs
set_option maxRecDepth 100000
theorem ok15:FOk Pg Cg 15 ⟨rc15,Try.f15.results.toList⟩:=fok (kp:=kp15) rfl Try.func15 (by kernel_rfl) (by kernel_rfl) (by kernel_rfl)
theorem ok21:FOk Pg Cg 21 ⟨rc21,Try.f21.results.toList⟩:=fok (kp:=kp21) rfl Try.func21 (by kernel_rfl) (by kernel_rfl) (by kernel_rfl)
theorem ok25:FOk Pg Cg 25 ⟨rc25,Try.f25.results.toList⟩:=fok (kp:=kp25) rfl Try.func25 (by kernel_rfl) (by kernel_rfl) (by kernel_rfl)
theorem ok29:FOk Pg Cg 29 ⟨rc29,Try.f29.results.toList⟩:=fok (kp:=kp29) rfl Try.func29 (by kernel_rfl) (by kernel_rfl) (by kernel_rfl)
theorem ok35:FOk Pg Cg 35 ⟨rc35,Try.f35.results.toList⟩:=fok (kp:=kp35) rfl Try.func35 (by kernel_rfl) (by kernel_rfl) (by kernel_rfl)
theorem ok40:FOk Pg Cg 40 ⟨rc40,Try.f40.results.toList⟩:=fok (kp:=kp40) rfl Try.func40 (by kernel_rfl) (by kernel_rfl) (by kernel_rfl)
theorem ok67:FOk Pg Cg 67 ⟨rc67,Try.f67.results.toList⟩:=fok (kp:=kp67) rfl Try.func67 (by kernel_rfl) (by kernel_rfl) (by kernel_rfl)
theorem ok71:FOk Pg Cg 71 ⟨rc71,Try.f71.results.toList⟩:=fok (kp:=kp71) rfl Try.func71 (by kernel_rfl) (by kernel_rfl) (by kernel_rfl)
theorem ok75:FOk Pg Cg 75 ⟨rc75,Try.f75.results.toList⟩:=fok (kp:=kp75) rfl Try.func75 (by kernel_rfl) (by kernel_rfl) (by kernel_rfl)
theorem ok79:FOk Pg Cg 79 ⟨rc79,Try.f79.results.toList⟩:=fok (kp:=kp79) rfl Try.func79 (by kernel_rfl) (by kernel_rfl) (by kernel_rfl)
theorem ok86:FOk Pg Cg 86 ⟨rc86,Try.f86.results.toList⟩:=fok (kp:=kp86) rfl Try.func86 (by kernel_rfl) (by kernel_rfl) (by kernel_rfl)
end Go.AM.S
end
section
namespace Go.AM.S
open Go Go.AM Go.Proofs
set_option maxRecDepth 100000
theorem tbl_ok:∀ p ∈ tblL,FOk Pg Cg p.1 p.2:=by
 unfold tblL
 simp only [List.forall_mem_cons,List.not_mem_nil,false_imp_iff,implies_true,and_true]
 exact ⟨ok6,ok13,ok14,ok15,ok16,ok17,ok18,ok21,ok22,ok23,ok24,ok25,ok26,ok27,ok28,ok29,ok31,ok32,ok33,ok35,ok37,ok38,ok39,ok40,ok64,ok65,ok66,ok67,ok68,ok69,ok70,ok71,ok72,ok73,ok74,ok75,ok76,ok77,ok78,ok79,ok83,ok84,ok85,ok86,ok87,ok88,ok89⟩
theorem use_ok:tblL.map (·.1)=cUse:=rfl
theorem seat_eq (kn:Kn) (n:Nat):S.fn Pg kn tbl n=fnV Pg Cg kn n:=by
 refine fn_eq (fun f fc h=>⟨?_,?_⟩) (fun f h=>?_) n
 ·have:=lkL_mem h
  show cUse.contains f=true
  rw [←use_ok,List.contains_iff_mem]
  exact List.mem_map.2 ⟨(f,fc),this,rfl⟩
 ·exact tbl_ok _ (lkL_mem h)
 ·have:=lkL_none h
  show cUse.contains f=false
  rw [←use_ok]
  cases hb:(tblL.map (·.1)).contains f with
  | false=>rfl
  | true=>exact absurd (List.contains_iff_mem.1 hb) this
end Go.AM.S
end
section
namespace Go.AM.S
open Go Go.AM Go.Proofs
set_option maxRecDepth 100000
theorem prog_ok:progOk Pg Cg=true:=by kernel_rfl
end Go.AM.S
end
