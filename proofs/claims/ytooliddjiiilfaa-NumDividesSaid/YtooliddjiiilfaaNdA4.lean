/- Part 4 of the proof: what it says stands at its theorems. -/
import Derived.Test.YtooliddjiiilfaaNdA3
set_option linter.unusedVariables false
set_option linter.unusedSimpArgs false
set_option linter.unusedSectionVars false
section
namespace Go.AM.S
open Go Go.AM Go.Proofs NumL
open _root_.Go.AM.G (R)
set_option maxRecDepth 100000
theorem tbl18:tbl 18=some ⟨rc18,[.tmp 2]⟩:=by kernel_rfl
theorem tx18 {l:Lo} {h:Hp} {w:V} {d:List Nat} (hw:∀ q,w≠.str q) (hi:∀ tm,itemsOf ⟨tm,l,h⟩ w=some (nl .u8 d)) (hd:Dg 256 d) (c:CallF) (t:Tm) (j:V→Lo→Hp→R):go1 Try.f18 18 25 1 88 w c t l h j=j (.str (sl d)) l h :=
 gen_text (C:=Cg) (gl:=Cg.glob 18) (call:=c) (tm:=t) (loc:=l) (hp:=h) (j:=j) (x:=88) (o:=opA Try.f18 25 1) (d:=89) (s:=51) (t:=9) (e:=5) (by kernel_rfl) (by kernel_rfl) U51 U9 U5 hw hi hd
structure IT (s:V) (b:Bool) (N:Nat) (h:Hp) (st:St) (cur L:List Nat) (v3:V) (out:List Nat):Prop where
 h1:gt st.tm 1=.ptr (.loc 1 1) 0
 h3:gt st.tm 3=v3
 h4:gt st.tm 4=.arr (.glob h.rows.length) 0 cur.length none 1 false
 l1:lg st.loc 1=(1,.cells false [s,.bool b])
 row:st.hp.rows[h.rows.length]? = some (.cells false (nl .u32 L))
 tk:L.take cur.length=cur
 ll:cur.length≤L.length
 lz:0<L.length
 gs:Gs st.hp v3 .u8 out
 dg:Dg B cur
 dec:Dec out
 hdg:DG h.rows.length st.hp
 hrl:h.rows.length<st.hp.rows.length
 v3n:∀ r,v3=.arr (.glob r) 0 out.length none 1 false→h.rows.length≤r
theorem getD_tk {L cur:List Nat} (ht:L.take cur.length=cur) (i:Nat) (hi:i<cur.length):L.getD i 0=cur.getD i 0:=by rw [←getD_take L cur.length i hi,ht]
theorem drop_set_ge (l:List Nat) (i v:Nat):(l.set i v).drop (i+1)=l.drop (i+1):=by
 rw [List.drop_set]
 split
 ·rfl
 ·rw [List.set_eq_of_length_le];omega
theorem last_split (l:List Nat) (h:0<l.length):l=l.take (l.length - 1)++[l.getD (l.length - 1) 0]:=by
 conv=>lhs;rw [←List.take_length (l:=l),show l.length=l.length - 1+1 by omega,take_snoc l (l.length - 1) (by omega)]
theorem div_bound {c x:Nat} (hc:c<1000000000) (hx:x<4294967296):(c*4294967296+x) / 1000000000<4294967296:=by
 rw [Nat.div_lt_iff_lt_mul (by decide)];omega
theorem Dg.rev {B:Nat} {l:List Nat} (h:Dg B l):Dg B l.reverse:=fun x hx=>h x (by simpa using hx)
theorem string_spec {k:Nat} {v:V} {z:Int} (ha:IsI k v z) (hk:k≤90000):Gives 18 [v] fun r=>∃ t,r=.str (sl t)∧Dg 256 t∧goodB t=true∧zOf t=z∧t.length≤10*k+20:=by
 obtain ⟨d,b,⟨⟨s,rfl,hs⟩,dd,cd,h0⟩,hx,hl⟩:=ha
 refine gives_of tbl18 fun h Q hQ=>?_
 unfold rc18
 refine sRG ?_
 rcases Nat.eq_zero_or_pos d.length with e0 | e0
 ·have e:d=[]:=List.length_eq_zero_iff.1 e0
  have eb:=h0 e
  refine ww_seq (ww_seq (ww_reg (fun n k=>by simp -implicitDefEqProofs (disch:=omega) only [go_sem,reduceIte,Nat.reduceEqDiff,ldc_fst L24,len_sl hs,e0,d_true];rfl) ?_))
  refine ww_true sS ?_
  refine sR ?_
  refine ww_ret (hQ _ _ (fin_tmpD (v:=.str (sl [48])) (by simp -implicitDefEqProofs only [go_sem,reduceIte];rfl) (Ex1.str _) (fun x hx=>by cases hx) rfl) ⟨[48],rfl,by intro x hx;simp at hx;subst hx;decide,by decide,?_,by simp⟩)
  subst e;subst eb;subst hx
  rfl
 have hne:d≠[]:=fun e=>by subst e;simp at e0
 have hN:0<vl B d:=Nat.pos_of_ne_zero fun e=>hne ((vl_zero cd).1 e)
 have hNB:vl B d<10 ^ (10*k):=Nat.lt_of_lt_of_le (vl_lt_of (by decide) dd hl) (pow10_B k)
 have hsn:s≠.nils:=by
  rcases hs with ⟨f,rfl⟩ | ⟨rfl,e⟩
  ·intro e;cases e
  ·exact absurd e hne
 refine ww_seq (ww_seq (ww_reg (fun n k=>by simp -implicitDefEqProofs (disch:=omega) only [go_sem,reduceIte,Nat.reduceEqDiff,ldc_fst L24,len_sl hs,d_false];rfl) ?_))
 refine ww_false sS (ww_skip ?_)
 refine sR ?_
 have hcl:=clone_runs ⟨h.rows,none,h.mods⟩ hsn (.inl ⟨_,_,hs⟩) hne (by omega) (fun tm loc=>items_sl hs _)
 refine ww_seq (ww_call (hcl) (fun n hn k=>by simp -implicitDefEqProofs (disch:=omega) only [go_sem,reduceIte,Nat.reduceEqDiff,ldc_fst L24,clc1 hn hs.ex];rfl) ?_)
 refine ww_join (M:=fun st=>∃ L v3 out,IT s b (vl B d) h st [] L v3 out∧lv out=vl B d∧out.length≤10*k+9) ?_ ?_
 ·refine ww_for (fun m st=>∃ cur L v3 out,m=vl B cur∧IT s b (vl B d) h st cur L v3 out∧lv out+10 ^ out.length*vl B cur=vl B d∧out.length≤10*k+9∧Cn cur∧cur.length≤d.length) (vl B d) ⟨d,d,.nils,[],rfl,⟨sS,sS,sS,sS,hadd_at _ _,by simp,Nat.le_refl _,e0,.inl ⟨rfl,rfl⟩,dd,(fun x hx=>by simp at hx),(fun x hx=>by cases hx),by rw [hadd_len];exact Nat.lt_succ_self _,(fun r e=>by cases e)⟩,by simp [lv],by simp,cd,Nat.le_refl _⟩ ?_
  intro m st ⟨cur,L,v3,out,hm,H,heq,hol,hcn,hcd⟩
  obtain ⟨h1,h3,h4,l1,row,tk,ll,lz,gs,dg,dec,hdg,hrl,v3n⟩:=H
  refine sQ1 h4 ?_
  refine ww_if (by simp only [gt_pt,reduceIte];rfl) (fun hc0=>ww_skip ?_) (fun hc0=>ww_exit ?_)
  ·have hcne:cur≠[]:=fun e=>by subst e;simp at hc0
   have hV:0<vl B cur:=Nat.pos_of_ne_zero fun e=>hcne ((vl_zero hcn).1 e)
   have hcb:cur.length≤1000000:=by omega
   have hob:out.length<10*k:=by
    refine pow_lt_inv (c:=10) (by decide) (Nat.lt_of_le_of_lt ?_ hNB)
    have:=Nat.le_mul_of_pos_right (10 ^ out.length) hV
    omega
   refine ww_block ?_
   refine sR ?_
   refine ww_join (M:=fun s2=>∃ c L2 cur2,gt s2.tm 5=.int .u64 (.ofNat c)∧c<1000000000∧IT s b (vl B d) h s2 cur2 L2 v3 out∧vl B cur=1000000000*vl B cur2+c∧cur2.length=cur.length) ?_ ?_
   ·refine ww_seq (ww_reg (fun n k=>by simp -implicitDefEqProofs (disch:=omega) only [go_sem,reduceIte,Nat.reduceEqDiff,h4,i_dec];rfl) ?_)
    refine ww_for (fun m s2=>∃ c L2 cur2,m≤cur.length∧gt s2.tm 6=.int .i64 (dn m)∧gt s2.tm 5=.int .u64 (.ofNat c)∧c<1000000000∧IT s b (vl B d) h s2 cur2 L2 v3 out∧cur2.length=cur.length∧vl B (cur.drop m)=1000000000*vl B (cur2.drop m)+c∧∀ i,i<m→cur2.getD i 0=cur.getD i 0) cur.length ⟨0,L,cur,Nat.le_refl _,sS,sS,by decide,⟨(sS1 h1),(sS1 h3),(sS1 h4),(sS1 l1),row,tk,ll,lz,gs,dg,dec,hdg,hrl,v3n⟩,rfl,by rw [List.drop_length];rfl,fun _ _=>rfl⟩ ?_
    intro m2 s2 ⟨c,L2,cur2,hm2,j6,j5,hc,H2,hl2,hv2,hsame⟩
    have H2':=H2
    obtain ⟨i1,i3,i4,k1,row2,tk2,ll2,lp2,gs2,dg2,dec2,hdg2,hrl2,v3n2⟩:=H2
    cases m2 with
    | zero =>
     refine ww_seq (ww_seq (ww_reg (fun n k=>by simp -implicitDefEqProofs (disch:=omega) only [go_sem,reduceIte,Nat.reduceEqDiff,j6,dn];rfl) ?_))
     refine ww_false sS (ww_exit ?_)
     rw [if_pos rfl]
     refine ⟨c,L2,cur2,(sS1 j5),hc,⟨(sS1 i1),(sS1 i3),(sS1 i4),(sS1 k1),row2,tk2,ll2,lp2,gs2,dg2,dec2,hdg2,hrl2,v3n2⟩,?_,hl2⟩
     simpa using hv2
    | succ i =>
     have j6':gt s2.tm 6=.int .i64 (.ofNat i):=j6
     have hi2:i<L2.length:=by omega
     have hxi:cur.getD i 0<4294967296:=dg.get (by decide) i
     have hLi:L2.getD i 0=cur.getD i 0:=by rw [getD_tk tk2 i (by omega)];exact hsame i (by omega)
     refine ww_seq (ww_seq (ww_reg (fun n k=>by simp -implicitDefEqProofs (disch:=omega) only [go_sem,reduceIte,Nat.reduceEqDiff,j6',d_true];rfl) ?_))
     refine ww_true sS (ww_skip ?_)
     refine ww_seq (ww_block ?_)
     have hq:=div_bound hc hxi
     refine ww_seq (ww_reg (fun n k=>by simp -implicitDefEqProofs (disch:=omega) only [go_sem,reduceIte,Nat.reduceEqDiff,i4,j5,j6',nth_rows row2,ldg_nl L86,hLi,Nat.reducePow,or_shl];rfl) ?_)
     refine ww_seq (ww_reg (fun n k=>by simp -implicitDefEqProofs (disch:=omega) only [go_sem,reduceIte,Nat.reduceEqDiff,i4,j6',nth_rows row2,w18_11_6 row2 hi2];rfl) ?_)
     refine sE ?_
     refine ww_reg (fun n k=>by simp -implicitDefEqProofs (disch:=omega) only [go_sem,reduceIte,Nat.reduceEqDiff,j6',i_dec];rfl) ?_
     have hrow:(hset s2.hp h.rows.length (.cells false (nl .u32 (L2.set i ((c*4294967296+cur.getD i 0) / 1000000000))))).rows[h.rows.length]? = some (.cells false (nl .u32 (L2.set i ((c*4294967296+cur.getD i 0) / 1000000000)))):=hset_at _ row2
     refine ⟨i,by omega,(c*4294967296+cur.getD i 0) % 1000000000,L2.set i ((c*4294967296+cur.getD i 0) / 1000000000),cur2.set i ((c*4294967296+cur.getD i 0) / 1000000000),by omega,sS,sS,Nat.mod_lt _ (by decide),⟨(sS1 i1),(sS1 i3),(by simp -implicitDefEqProofs (disch:=omega) only [go_sem,reduceIte,Nat.reduceEqDiff,i4,List.length_set]),(sS1 k1),hrow,by rw [List.length_set,List.take_set,tk2],by simpa using ll2,by simpa using lp2,gs2.hset row2 (by decide) _,dg2.set _ hq,dec2,DG.set hdg2 (Nat.le_refl _) _,by rw [hset_len];exact hrl2,v3n2⟩,by simpa using hl2,?_,fun j hj=>by rw [getD_set_ne _ _ _ _ (by omega)];exact hsame j (by omega)⟩
     rw [vl_drop_cons B cur i (by omega),vl_drop_cons B _ i (by rw [List.length_set];omega),hv2,getD_set_eq _ _ _ (by omega),drop_set_ge]
     have:=Nat.div_add_mod (c*4294967296+cur.getD i 0) 1000000000
     show cur.getD i 0+4294967296*(1000000000*vl B (cur2.drop (i+1))+c)=1000000000*((c*4294967296+cur.getD i 0) / 1000000000+4294967296*vl B (cur2.drop (i+1)))+(c*4294967296+cur.getD i 0) % 1000000000
     omega
   ·intro s2 ⟨c,L2,cur2,j5,hc,H2,hv2,hl2⟩
    refine ww_join (M:=fun s3=>∃ cur3,gt s3.tm 5=.int .u64 (.ofNat c)∧IT s b (vl B d) h s3 cur3 L2 v3 out∧Tr0 cur2 cur3∧Cn cur3) ?_ ?_
    ·refine ww_for (fun m s3=>∃ cur3,m=cur3.length∧gt s3.tm 5=.int .u64 (.ofNat c)∧IT s b (vl B d) h s3 cur3 L2 v3 out∧Tr0 cur2 cur3) cur2.length ⟨cur2,rfl,j5,H2,Tr0.refl _⟩ ?_
     intro m3 s3 ⟨cur3,hm3,g5,H3,ht⟩
     obtain ⟨i1,i3,i4,k1,row3,tk3,ll3,lp3,gs3,dg3,dec3,hdg3,hrl3,v3n3⟩:=H3
     have hl3:=ht.len
     rcases Nat.eq_zero_or_pos cur3.length with hd3 | hd3
     ·refine ww_seq (ww_seq (ww_reg (fun n k=>by simp -implicitDefEqProofs (disch:=omega) only [go_sem,reduceIte,Nat.reduceEqDiff,i4,d_false];rfl) ?_))
      refine ww_false sS (ww_exit ?_)
      rw [if_pos rfl]
      exact ⟨cur3,(sS1 g5),⟨(sS1 i1),(sS1 i3),(sS1 i4),(sS1 k1),row3,tk3,ll3,lp3,gs3,dg3,dec3,hdg3,hrl3,v3n3⟩,ht,fun i hi=>by omega⟩
     ·have hx3:cur3.getD (cur3.length - 1) 0<4294967296:=dg3.get (by decide) _
      have hLx:L2.getD (cur3.length - 1) 0=cur3.getD (cur3.length - 1) 0:=getD_tk tk3 _ (by omega)
      by_cases hz:cur3.getD (cur3.length - 1) 0=0
      ·refine ww_seq (ww_seq (ww_reg (fun n k=>by simp -implicitDefEqProofs (disch:=omega) only [go_sem,reduceIte,Nat.reduceEqDiff,i4,d_true,nth_rows row3,ldg_nl L86,hLx,hz];rfl) ?_))
       refine ww_true sS (ww_skip (ww_block ?_))
       refine sE1 i4 ?_
       have e1:(cur3.take (cur3.length - 1)).length=cur3.length - 1:=by simp
       refine ⟨cur3.length - 1,by omega,cur3.take (cur3.length - 1),by rw [e1],(sS1 g5),⟨(sS1 i1),(sS1 i3),(sS1 e1),(sS1 k1),row3,?_,by omega,lp3,gs3,dg3.take _,dec3,hdg3,hrl3,v3n3⟩,ht.next hd3 hz⟩
       rw [e1,←tk3,List.take_take,List.length_take]
       congr 1;omega
      ·refine ww_seq (ww_seq (ww_reg (fun n k=>by simp -implicitDefEqProofs (disch:=omega) only [go_sem,reduceIte,Nat.reduceEqDiff,i4,d_true,nth_rows row3,ldg_nl L86,hLx,d_false];rfl) ?_))
       refine ww_false sS (ww_exit ?_)
       rw [if_pos rfl]
       exact ⟨cur3,(sS1 g5),⟨(sS1 i1),(sS1 i3),(sS1 i4),(sS1 k1),row3,tk3,ll3,lp3,gs3,dg3,dec3,hdg3,hrl3,v3n3⟩,ht,fun i hi=>by rw [show i=cur3.length - 1 by omega];exact hz⟩
    ·intro s3 ⟨cur3,g5,H3,ht,hcn3⟩
     have hv3:=ht.vl B
     have hl3:=ht.len
     refine sR ?_
     obtain ⟨i1,i3,i4,k1,row3,tk3,ll3,lp3,gs3,dg3,dec3,hdg3,hrl3,v3n3⟩:=H3
     refine ww_for (fun m s4=>∃ i n v4 out4,m+i=9∧gt s4.tm 57=.int .i64 (.ofNat i)∧gt s4.tm 5=.int .u64 (.ofNat n)∧n<10 ^ (9 - i)∧IT s b (vl B d) h s4 cur3 L2 v4 out4∧lv out4+10 ^ out4.length*(n+10 ^ (9 - i)*vl B cur3)=vl B d∧out4.length=out.length+i) 9 ⟨0,c,v3,out,rfl,sS,(sS1 g5),hc,⟨(sS1 i1),(sS1 i3),(sS1 i4),(sS1 k1),row3,tk3,ll3,lp3,gs3,dg3,dec3,hdg3,hrl3,v3n3⟩,?_,rfl⟩ ?_
     ·rw [hv3,show (10:Nat) ^ (9 - 0)=1000000000 from rfl,Nat.add_comm c,←hv2];exact heq
     intro m4 s4 ⟨i,n,v4,out4,hm4,g57,g5',hn,H4,heq4,hlen4⟩
     obtain ⟨q1,q3,q4,w1,row4,tk4,ll4,lp4,gs4,dg4,dec4,hdg4,hrl4,v3n4⟩:=H4
     refine sR1 g57 ?_
     refine ww_seq (ww_if (by simp only [gt_pt,reduceIte];rfl) (fun hi9=>ww_skip ?_) (fun hi9=>ww_exit ?_))
     ·have hn9:n<10 ^ 9:=Nat.lt_of_lt_of_le hn (Nat.pow_le_pow_right (by decide) (by omega))
      have hn9':n<1000000000:=hn9
      have hm10:n % 10<10:=Nat.mod_lt _ (by decide)
      refine ww_seq (ww_block ?_)
      obtain ⟨v5,h5,happ,hP⟩:=a18_17_6 (loc:=lp s4.loc 64 ((lg s4.loc 64).1+1,.cells false (nl .u8 [48+n % 10]))) (w:=.arr (.loc 64 ((lg s4.loc 64).1+1)) 0 1 (some 1) 1 false) (n:=48+n % 10) gs4 (fun tm=>getRow_arr (ys:=[48+n % 10]) (by rw [lg_lp,if_pos rfl])) (by omega)
      refine sR3 g5' q3 happ ?_
      refine sE1 g5' ?_
      refine sE1 g57 ?_
      obtain ⟨hdg5,hv5⟩:=hP.dg _ hdg4 v3n4 (Nat.le_of_lt hrl4)
      have hlen5:=hP.len
      have hrow5:=(hP.same h.rows.length hrl4 (gs4.ne row4 (by decide))).trans row4
      refine ⟨m4 - 1,by omega,i+1,n / 10,v5,out4++[48+n % 10],by omega,sS,sS,?_,⟨(sS1 q1),sS,(sS1 q4),(sS1 w1),hrow5,tk4,ll4,lp4,hP.gs,dg4,dec4.snoc (by omega) (by omega),hdg5,Nat.lt_of_lt_of_le hrl4 hlen5,hv5⟩,?_,by simp [hlen4];omega⟩
      ·have e:10 ^ (9 - i)=10*10 ^ (9 - (i+1)):=by rw [show 9 - i=(9 - (i+1))+1 by omega,Nat.pow_succ,Nat.mul_comm]
       omega
      ·rw [lv_app,List.length_append,List.length_cons,List.length_nil,Nat.pow_succ,←heq4,show 9 - i=(9 - (i+1))+1 by omega,Nat.pow_succ 10 (9 - (i+1))]
       simp only [lv,Nat.mul_zero,Nat.add_zero,Nat.mul_assoc,Nat.add_assoc]
       rw [←Nat.mul_add,Nat.add_sub_cancel_left]
       congr 2
       have e2:10 ^ (9 - (i+1))*(10*vl B cur3)=10*(10 ^ (9 - (i+1))*vl B cur3):=by rw [Nat.mul_left_comm]
       have e3:=Nat.div_add_mod n 10
       generalize 10 ^ (9 - (i+1))*vl B cur3=W at *
       rw [e2]
       omega
     ·rw [if_pos rfl]
      have ei:i=9:=by omega
      subst ei
      have en:n=0:=by
       rw [show (10:Nat) ^ (9 - 9)=1 from rfl] at hn;omega
      subst en
      rw [show (10:Nat) ^ (9 - 9)=1 from rfl,Nat.one_mul,Nat.zero_add] at heq4
      refine ⟨vl B cur3,by omega,cur3,L2,v4,out4,rfl,⟨(sS1 q1),(sS1 q3),(sS1 q4),(sS1 w1),row4,tk4,ll4,lp4,gs4,dg4,dec4,hdg4,hrl4,v3n4⟩,heq4,by omega,hcn3,by omega⟩
  ·rw [if_pos rfl]
   have ec:cur=[]:=by cases cur with | nil=>rfl | cons x l=>simp at hc0
   subst ec
   exact ⟨L,v3,out,⟨(sS1 h1),(sS1 h3),(sS1 h4),(sS1 l1),row,tk,ll,lz,gs,dg,dec,hdg,hrl,v3n⟩,by simpa [vl] using heq,hol⟩
 ·intro st ⟨L,v3,out,H,hlv,hol⟩
  refine ww_join (M:=fun s2=>∃ r L1 out2,gt s2.tm 3=.arr (.glob r) 0 out2.length none 1 false∧s2.hp.rows[r]? = some (.cells false (nl .u8 L1))∧L1.take out2.length=out2∧out2.length≤L1.length∧Dec out2∧lv out2=vl B d∧0<out2.length∧out2.getD (out2.length - 1) 0≠48∧out2.length≤out.length∧gt s2.tm 1=.ptr (.loc 1 1) 0∧lg s2.loc 1=(1,.cells false [s,.bool b])∧h.rows.length≤r∧DG h.rows.length s2.hp∧h.rows.length<s2.hp.rows.length) ?_ ?_
  ·obtain ⟨h1,h3,h4,l1,row,tk,ll,lz,gs,dg,dec,hdg,hrl,v3n⟩:=H
   have hpos:0<out.length:=by
    cases out with
    | nil=>simp only [lv] at hlv;omega
    | cons x l=>simp
   rcases gs with ⟨e,_⟩ | ⟨r,L1,rfl,hr,ht,hlL,_⟩
   ·subst e;simp at hpos
   have hrn:=v3n r rfl
   refine ww_for (fun m s2=>∃ out2,m=out2.length∧gt s2.tm 3=.arr (.glob r) 0 out2.length none 1 false∧s2.hp.rows[r]? = some (.cells false (nl .u8 L1))∧L1.take out2.length=out2∧out2.length≤L1.length∧Dec out2∧lv out2=vl B d∧out2.length≤out.length∧gt s2.tm 1=.ptr (.loc 1 1) 0∧lg s2.loc 1=(1,.cells false [s,.bool b])∧DG h.rows.length s2.hp∧h.rows.length<s2.hp.rows.length) out.length ⟨out,rfl,h3,hr,ht,hlL,dec,hlv,Nat.le_refl _,h1,l1,hdg,hrl⟩ ?_
   intro m s2 ⟨out2,hm,j3,hr2,ht2,hl2,dec2,hlv2,hlo,j1,k1,hdg2,hrl2⟩
   have hpos2:0<out2.length:=by
    cases out2 with
    | nil=>simp only [lv] at hlv2;omega
    | cons x l=>simp
   have hx:out2.getD (out2.length - 1) 0<256:=dec2.dg.get (by decide) _
   have hLx:L1.getD (out2.length - 1) 0=out2.getD (out2.length - 1) 0:=getD_tk ht2 _ (by omega)
   refine ww_seq (ww_seq (ww_reg (fun n k=>by simp -implicitDefEqProofs (disch:=omega) only [go_sem,reduceIte,Nat.reduceEqDiff,j3,nth_rows hr2,ldg_nl L5,hLx];rfl) ?_))
   refine ww_if (by simp only [gt_pt,reduceIte];rfl) (fun h48=>ww_skip ?_) (fun h48=>ww_exit ?_)
   ·refine ww_block ?_
    refine sE1 j3 ?_
    have e1:(out2.take (out2.length - 1)).length=out2.length - 1:=by simp
    refine ⟨out2.length - 1,by omega,out2.take (out2.length - 1),by rw [e1],(sS1 e1),hr2,?_,by omega,dec2.take _,?_,by omega,(sS1 j1),(sS1 k1),hdg2,hrl2⟩
    ·rw [e1,←ht2,List.take_take,List.length_take]
     congr 1;omega
    ·rw [←hlv2]
     conv=>rhs;rw [last_split out2 hpos2,lv_app,h48]
     simp [lv]
   ·rw [if_pos rfl]
    exact ⟨r,L1,out2,(sS1 j3),hr2,ht2,hl2,dec2,hlv2,hpos2,h48,hlo,(sS1 j1),(sS1 k1),hrn,hdg2,hrl2⟩
  ·intro s2 ⟨r,L1,out2,j3,hr2,ht2,hl2,dec2,hlv2,hpos2,h48,hlo,j1,k1,hrn,hdg2,hrl2⟩
   have hgood:=good_of b dec2 hpos2 h48
   refine ww_join (M:=fun s3=>∃ r' L',gt s3.tm 3=.arr (.glob r') 0 (out2++bif b then [45] else []).length none 1 false∧s3.hp.rows[r']? = some (.cells false (nl .u8 L'))∧L'.take (out2++bif b then [45] else []).length=(out2++bif b then [45] else [])∧(out2++bif b then [45] else []).length≤L'.length∧h.rows.length≤r'∧DG h.rows.length s3.hp) ?_ ?_
   ·refine ww_seq (ww_reg (fun n k=>by simp -implicitDefEqProofs (disch:=omega) only [go_sem,reduceIte,Nat.reduceEqDiff,j1,k1,ldc_snd L4];rfl) ?_)
    cases b with
    | true =>
     refine ww_true sS ?_
     obtain ⟨v5,h5,happ,hP⟩:=a18_23_2 (loc:=lp s2.loc 84 ((lg s2.loc 84).1+1,.cells false (nl .u8 [45]))) (w:=.arr (.loc 84 ((lg s2.loc 84).1+1)) 0 1 (some 1) 1 false) (n:=45) (v:=.arr (.glob r) 0 out2.length none 1 false) (.inr ⟨r,L1,rfl,hr2,ht2,hl2,by omega⟩) (fun tm=>getRow_arr (ys:=[45]) (by rw [lg_lp,if_pos rfl])) (by omega)
     obtain ⟨hdg5,hv5⟩:=hP.dg _ hdg2 (fun r0 e=>by cases e;exact hrn) (Nat.le_of_lt hrl2)
     refine sE2 j3 happ ?_
     rcases hP.gs with ⟨e,_⟩ | ⟨r',L',rfl,q1,q2,q3,_⟩
     ·simp at e
     ·exact ⟨r',L',(by simp -implicitDefEqProofs (disch:=omega) only [go_sem,reduceIte,Nat.reduceEqDiff,cond_true]),q1,q2,q3,hv5 r' rfl,hdg5⟩
    | false =>
     refine ww_false sS (ww_skip ?_)
     exact ⟨r,L1,(by simp -implicitDefEqProofs (disch:=omega) only [go_sem,reduceIte,Nat.reduceEqDiff,cond_false,List.append_nil,j3]),hr2,by simpa using ht2,by simpa using hl2,hrn,hdg2⟩
   ·intro s3 ⟨r',L',g3,q1,q2,q3,q4,q5⟩
    generalize hout:(out2++bif b then [45] else [])=o3 at *
    have ho3:0<o3.length∧o3.length≤out2.length+1:=by
     subst hout
     cases b<;>simp<;>omega
    have hd3:Dg 256 o3:=by
     subst hout
     cases b with
     | true =>
       intro x hx
       rcases List.mem_append.1 hx with hx | hx
       ·exact dec2.dg x hx
       ·simp at hx;subst hx;decide
     | false=>exact fun x hx=>dec2.dg x (by simpa using hx)
    obtain ⟨h6,L6,hrun,hr6,ht6,hl6,hdg6,_,_⟩:=reverse_runs (n:=h.rows.length) q1 q2 q3 ho3.1 (by omega) q5 q4
    refine ww_seq (ww_call (hrun) (fun n hn k=>by simp -implicitDefEqProofs (disch:=omega) only [go_sem,reduceIte,Nat.reduceEqDiff,g3,clc1 hn (Ex1.glob _ _ _ _ _ _)];rfl) ?_)
    have hit:∀ tm loc,itemsOf ⟨tm,loc,h6⟩ (.arr (.glob r') 0 o3.length none 1 false)=some (nl .u8 o3.reverse):=by
     intro tm loc
     have:=Gs.items (h:=h6) (v:=.arr (.glob r') 0 o3.length none 1 false) (k:=.u8) (l:=o3.reverse) (.inr ⟨r',L6,by simp,hr6,by rw [List.length_reverse];exact ht6,by simp;omega,by omega⟩) tm loc
     exact this
    refine ww_seq (ww_reg (fun n k=>by simp -implicitDefEqProofs (disch:=omega) only [go_sem,reduceIte,Nat.reduceEqDiff,g3,tx18 (fun q e=>by cases e) (fun tm=>hit tm _) (Dg.rev hd3)];rfl) ?_)
    refine ww_ret (hQ _ _ (fin_tmpD (v:=.str (sl o3.reverse)) sS (Ex1.str _) hdg6 rfl) ⟨o3.reverse,rfl,Dg.rev hd3,hgood.1,?_,by simp;omega⟩)
    rw [hgood.2,hlv2,hx]
    rfl
end Go.AM.S
end
section
namespace Go.AM.S
open Go Go.AM Go.Proofs NumL
open _root_.Go.AM.G (R)
@[congr] theorem bO_congr {x y:Option V} {f:V→R} (h:x=y):bO x f=bO y f:=by rw [h]
@[congr] theorem brB_congr {x y:Option Bool} {a b:R} (h:x=y):brB x a b=brB y a b:=by rw [h]
attribute [go_sem ↓] jn_eq bO_some brB_true brB_false
attribute [go_sem] Bool.not_true Bool.not_false
end Go.AM.S
end
section
namespace Go.AM.S
open Go Go.AM Go.Proofs NumL
open _root_.Go.AM.G (R)
set_option maxRecDepth 100000
theorem tbl66:tbl 66=some ⟨rc66,[.tmp 2]⟩:=by kernel_rfl
def p0N (l:List Nat):Nat:=bif ng l then 1 else 0
theorem body_drop (l:List Nat):bodyN l=l.drop (p0N l):=by
 unfold bodyN p0N
 cases ng l<;>rfl
theorem p0_le (l:List Nat):p0N l≤l.length:=by
 unfold p0N
 cases h:ng l with
 | true=>exact ng_len h
 | false=>exact Nat.zero_le _
theorem p0_one (l:List Nat):decide (p0N l=1)=ng l:=by
 unfold p0N
 cases ng l<;>rfl
theorem getD_drop' (l:List Nat) (p i:Nat):(l.drop p).getD i 0=l.getD (p+i) 0:=by
 rw [List.getD_eq_getElem?_getD,List.getD_eq_getElem?_getD,List.getElem?_drop]
theorem right_spec {l:List Nat} (hd:Dg 256 l) (hl:l.length≤1000000):Gives 66 [.str (sl l)] fun r=>r=.bool (goodB l):=by
 have p1:=p0_one l
 have ple:=p0_le l
 have hb:=body_drop l
 have ple1:p0N l≤1:=by unfold p0N;cases ng l<;>decide
 refine gives_of tbl66 fun h Q hQ=>?_
 have done:∀ (st:St) (b:Bool),b=goodB l→gt st.tm 2=.bool b→st.hp=⟨h.rows,none,h.mods⟩→Q st:=by
  intro st b e h2 hh
  exact hQ st _ (fin_tmpD h2 (Ex1.bool _) (by rw [hh];exact fun x hx=>by cases hx) rfl) (by rw [e])
 unfold rc66
 refine sR ?_
 refine sR ?_
 refine ww_join (M:=fun s=>gt s.tm 0=.str (sl l)∧gt s.tm 3=.int .i64 (.ofNat (p0N l))∧s.hp=⟨h.rows,none,h.mods⟩) ?_ (fun s ⟨a0,a3,ah⟩=>?_)
 ·rcases Nat.eq_zero_or_pos l.length with h0 | h0
  ·have e:ng l=false:=by rw [List.length_eq_zero_iff.1 h0];rfl
   refine ww_seq (ww_reg (fun n k=>by simp -implicitDefEqProofs (disch:=omega) only [go_sem,reduceIte,Nat.reduceEqDiff,gt_start,List.getD_cons_zero,List.getD_cons_succ,d_false];rfl) ?_)
   refine ww_false sS (ww_skip ?_)
   exact ⟨sSG,by unfold p0N;rw [e];exact (by simp -implicitDefEqProofs (disch:=omega) only [go_sem,reduceIte,Nat.reduceEqDiff,cond_false]),rfl⟩
  ·refine ww_seq (ww_reg (fun n k=>by simp -implicitDefEqProofs (disch:=omega) only [go_sem,reduceIte,Nat.reduceEqDiff,gt_start,List.getD_cons_zero,List.getD_cons_succ,d_true,idx_sl hd];rfl) ?_)
   cases e:ng l with
   | true =>
    refine ww_true (by rw [show decide (l.getD 0 0=45)=ng l from rfl,e];exact sS) ?_
    refine sE ?_
    exact ⟨sSG,by unfold p0N;rw [e];exact (by simp -implicitDefEqProofs (disch:=omega) only [go_sem,reduceIte,Nat.reduceEqDiff,cond_true]),rfl⟩
   | false =>
    refine ww_false (by rw [show decide (l.getD 0 0=45)=ng l from rfl,e];exact sS) (ww_skip ?_)
    exact ⟨sSG,by unfold p0N;rw [e];exact (by simp -implicitDefEqProofs (disch:=omega) only [go_sem,reduceIte,Nat.reduceEqDiff,cond_false]),rfl⟩
 have hlenB:(bodyN l).length=l.length - p0N l:=by rw [hb,List.length_drop]
 have hget0:(bodyN l).getD 0 0=l.getD (p0N l) 0:=by rw [hb,getD_drop',Nat.add_zero]
 have hemp:(bodyN l).isEmpty=decide (p0N l=l.length):=by
  cases hbb:bodyN l with
  | nil=>rw [hbb] at hlenB;simp at hlenB;exact (decide_eq_true (by omega)).symm
  | cons x t=>rw [hbb] at hlenB;simp at hlenB;exact (decide_eq_false (by omega)).symm
 have hbad:badB l=(decide (p0N l=l.length) || (decide (l.getD (p0N l) 0=48)&&(decide (p0N l+1<l.length) || decide (p0N l=1)))):=by
  unfold badB
  rw [hemp,hget0,p1,hlenB]
  congr 3
  rw [show decide (1<l.length - p0N l)=decide (p0N l+1<l.length) by congr 1;apply propext;omega]
 refine ww_joinX (fun s2=>badB l=false∧gt s2.tm 0=.str (sl l)∧gt s2.tm 3=.int .i64 (.ofNat (p0N l))∧s2.hp=⟨h.rows,none,h.mods⟩) ?_ (fun s2 ⟨hbf,b0,b3,bh⟩=>?_)
 ·have quit:∀ tm,badB l=true→WW Pg kn0 tbl (.seq (.reg fun c t l h k=>k (p2 t (.bool false)) l h) .ret) ⟨tm,s.loc,s.hp⟩ (fun s2=>badB l=false∧gt s2.tm 0=.str (sl l)∧gt s2.tm 3=.int .i64 (.ofNat (p0N l))∧s2.hp=⟨h.rows,none,h.mods⟩) (fun _ _=>False) Q:=by
   intro tm hq
   refine sR ?_
   exact ww_ret (done _ false (by unfold goodB;rw [hq];rfl) sS ah)
  by_cases h1:p0N l=l.length
  ·have hq:badB l=true:=by rw [hbad,decide_eq_true h1];rfl
   refine ww_seq (ww_reg (fun n k=>by simp -implicitDefEqProofs (disch:=omega) only [go_sem,reduceIte,Nat.reduceEqDiff,a0,a3,h1,d_true];rfl) ?_)
   refine ww_true sS ?_
   exact quit _ hq
  ·have d1:decide (p0N l=l.length)=false:=decide_eq_false h1
   by_cases h2:l.getD (p0N l) 0=48
   ·by_cases h3:p0N l+1<l.length
    ·have hq:badB l=true:=by rw [hbad,d1,decide_eq_true h2,decide_eq_true h3];rfl
     refine ww_seq (ww_reg (fun n k=>by simp -implicitDefEqProofs (disch:=omega) only [go_sem,reduceIte,Nat.reduceEqDiff,a0,a3,d1,idx_sl hd,h2,d_true];rfl) ?_)
     refine ww_true sS ?_
     exact quit _ hq
    ·have d3:decide (p0N l+1<l.length)=false:=decide_eq_false h3
     by_cases h4:p0N l=1
     ·have hq:badB l=true:=by rw [hbad,d1,decide_eq_true h2,d3,decide_eq_true h4];rfl
      refine ww_seq (ww_reg (fun n k=>by simp -implicitDefEqProofs (disch:=omega) only [go_sem,reduceIte,Nat.reduceEqDiff,a0,a3,d1,idx_sl hd,h2,d_true,d3,decide_eq_true h4];rfl) ?_)
      refine ww_true sS ?_
      exact quit _ hq
     ·have hq:badB l=false:=by rw [hbad,d1,decide_eq_true h2,d3,decide_eq_false h4];rfl
      refine ww_seq (ww_reg (fun n k=>by simp -implicitDefEqProofs (disch:=omega) only [go_sem,reduceIte,Nat.reduceEqDiff,a0,a3,d1,idx_sl hd,h2,d_true,d3,decide_eq_false h4];rfl) ?_)
      refine ww_false sS (ww_skip ?_)
      exact ⟨hq,(sS1 a0),(sS1 a3),ah⟩
   ·have d2:decide (l.getD (p0N l) 0=48)=false:=decide_eq_false h2
    have hq:badB l=false:=by rw [hbad,d1,d2];rfl
    refine ww_seq (ww_reg (fun n k=>by simp -implicitDefEqProofs (disch:=omega) only [go_sem,reduceIte,Nat.reduceEqDiff,a0,a3,d1,idx_sl hd,d2];rfl) ?_)
    refine ww_false sS (ww_skip ?_)
    exact ⟨hq,(sS1 a0),(sS1 a3),ah⟩
 ·refine ww_seq (ww_for (fun m s=>∃ i,m+i=l.length∧p0N l≤i∧gt s.tm 0=.str (sl l)∧gt s.tm 3=.int .i64 (.ofNat i)∧s.hp=⟨h.rows,none,h.mods⟩∧Dec ((l.drop (p0N l)).take (i - p0N l))) (l.length - p0N l) ⟨p0N l,by omega,Nat.le_refl _,b0,b3,bh,by rw [Nat.sub_self];exact fun x hx=>by simp at hx⟩ ?_)
  intro m s ⟨i,hm,hi,c0,c3,ch,hD⟩
  refine sQ2 c0 c3 ?_
  refine ww_if (by simp only [gt_pt,reduceIte];rfl) (fun hlt=>ww_skip ?_) (fun hlt=>ww_exit ?_)
  ·have hx:l.getD i 0<256:=hd.get (by decide) i
   have hgi:l.getD i 0=(bodyN l).getD (i - p0N l) 0:=by rw [hb,getD_drop'];congr 1;omega
   have notD:¬(48≤l.getD i 0∧l.getD i 0≤57)→goodB l=false:=by
    intro hn
    unfold goodB
    rw [decide_eq_false (show ¬Dec (bodyN l) from fun hq=>hn (by
     have:=hq ((bodyN l).getD (i - p0N l) 0) (by rw [List.getD_eq_getElem?_getD,List.getElem?_eq_getElem (by omega)];exact List.getElem_mem _)
     rw [hgi];exact this))]
    simp
   refine ww_seq (ww_block ?_)
   by_cases h1:l.getD i 0<48
   ·refine ww_seq (ww_reg (fun n k=>by simp -implicitDefEqProofs (disch:=omega) only [go_sem,reduceIte,Nat.reduceEqDiff,c0,c3,idx_sl hd,decide_eq_true h1];rfl) ?_)
    refine ww_true sS ?_
    refine sR ?_
    exact ww_ret (done _ false (notD (by omega)).symm sS ch)
   ·by_cases h2:57<l.getD i 0
    ·refine ww_seq (ww_reg (fun n k=>by simp -implicitDefEqProofs (disch:=omega) only [go_sem,reduceIte,Nat.reduceEqDiff,c0,c3,idx_sl hd,decide_eq_false h1,decide_eq_true h2];rfl) ?_)
     refine ww_true sS ?_
     refine sR ?_
     exact ww_ret (done _ false (notD (by omega)).symm sS ch)
    ·refine ww_seq (ww_reg (fun n k=>by simp -implicitDefEqProofs (disch:=omega) only [go_sem,reduceIte,Nat.reduceEqDiff,c0,c3,idx_sl hd,decide_eq_false h1,decide_eq_false h2];rfl) ?_)
     refine ww_false sS (ww_skip ?_)
     refine sE1 c3 ?_
     refine ⟨m - 1,by omega,i+1,by omega,by omega,(sS1 c0),sS,ch,?_⟩
     rw [show i+1 - p0N l=(i - p0N l)+1 by omega,take_snoc _ _ (by rw [List.length_drop];omega),getD_drop',show p0N l+(i - p0N l)=i by omega]
     exact hD.snoc (by omega) (by omega)
  ·rw [if_pos rfl]
   refine sR ?_
   refine ww_ret (done _ true ?_ sS ch)
   have e:(l.drop (p0N l)).take (i - p0N l)=bodyN l:=by rw [hb,List.take_of_length_le (by rw [List.length_drop];omega)]
   rw [e] at hD
   unfold goodB
   rw [hbf,decide_eq_true hD];rfl
end Go.AM.S
end
section
namespace Go.AM.S
open Go Go.AM Go.Proofs NumL
open _root_.Go.AM.G (R)
set_option maxRecDepth 100000
theorem tbl67:tbl 67=some ⟨rc67,[.cell 4 31]⟩:=by kernel_rfl
def NR (v:V) (d:List Nat) (b:Bool):Prop:=(∃ s,v=.agg [.bool b,s]∧Sl .i64 s d)∧Dg 10000 d∧Cn d∧(d=[]→b=false)
theorem trim_spec {va:V} {a:List Nat} (ha:Sl .i64 va a) (da:Dg 10000 a) (la:a.length≤1000000000) (ng:Bool) :
  Gives 67 [.bool ng,va] fun r=>∃ d,NR r d (ng && !d.isEmpty)∧Tr0 a d:=by
 refine gives_of tbl67 fun h Q hQ=>?_
 unfold rc67
 refine sR ?_
 refine ww_join (M:=fun s=>∃ d v,gt s.tm 1=v∧Sl .i64 v d∧Tr0 a d∧Cn d∧gt s.tm 0=.bool ng∧gt s.tm 4=.ptr (.loc 4 1) 0∧lg s.loc 4=(1,.cells false [.bool false,.nils])∧s.hp=⟨h.rows,none,h.mods⟩) ?_ ?_
 ·refine ww_for (fun m s=>∃ d v,m=d.length∧gt s.tm 1=v∧Sl .i64 v d∧Tr0 a d∧gt s.tm 0=.bool ng∧gt s.tm 4=.ptr (.loc 4 1) 0∧lg s.loc 4=(1,.cells false [.bool false,.nils])∧s.hp=⟨h.rows,none,h.mods⟩) a.length ⟨a,va,rfl,sSG,ha,Tr0.refl a,sSG,sS,sS,rfl⟩ ?_
  intro m s ⟨d,v,hm,h1,hv,ht,h0,h4,hl4,hhp⟩
  have hln:=ht.len
  rcases Nat.eq_zero_or_pos d.length with hd | hd
  ·refine ww_seq (ww_seq (ww_reg (fun n k=>by simp -implicitDefEqProofs (disch:=omega) only [go_sem,reduceIte,Nat.reduceEqDiff,h1,len_sl hv,d_false];rfl) ?_))
   refine ww_false sS (ww_exit ?_)
   rw [if_pos rfl]
   exact ⟨d,v,(sS1 h1),hv,ht,fun i hi=>by omega,(sS1 h0),(sS1 h4),(sS1 hl4),hhp⟩
  ·have hx:d.getD (d.length - 1) 0<10000:=(ht.dg da).get (by decide) _
   by_cases hz:d.getD (d.length - 1) 0=0
   ·refine ww_seq (ww_seq (ww_reg (fun n k=>by simp -implicitDefEqProofs (disch:=omega) only [go_sem,reduceIte,Nat.reduceEqDiff,h1,len_sl hv,d_true,ia29 hv,hz];rfl) ?_))
    refine ww_true sS (ww_skip (ww_block ?_))
    refine ww_reg (fun n k=>by simp -implicitDefEqProofs (disch:=omega) only [go_sem,reduceIte,Nat.reduceEqDiff,h1,len_sl hv,sl29 hv];rfl) ?_
    exact ⟨d.length - 1,by omega,d.take (d.length - 1),_,by simp,sS,.inl ⟨false,rfl⟩,ht.next hd hz,(sS1 h0),(sS1 h4),(sS1 hl4),hhp⟩
   ·refine ww_seq (ww_seq (ww_reg (fun n k=>by simp -implicitDefEqProofs (disch:=omega) only [go_sem,reduceIte,Nat.reduceEqDiff,h1,len_sl hv,d_true,ia29 hv,d_false];rfl) ?_))
    refine ww_false sS (ww_exit ?_)
    rw [if_pos rfl]
    exact ⟨d,v,(sS1 h1),hv,ht,fun i hi=>by rw [show i=d.length - 1 by omega];exact hz,(sS1 h0),(sS1 h4),(sS1 hl4),hhp⟩
 ·intro s ⟨d,v,h1,hv,ht,hcn,h0,h4,hl4,hhp⟩
  have key:∀ b:Bool,b=(ng && !d.isEmpty)→NR (.agg [.bool b,v]) d (ng && !d.isEmpty):=by
   intro b hb
   subst hb
   exact ⟨⟨v,rfl,hv⟩,ht.dg da,hcn,fun e=>by subst e;simp⟩
  cases ng with
  | false =>
   refine ww_seq (ww_reg (fun n k=>by simp -implicitDefEqProofs (disch:=omega) only [go_sem,reduceIte,Nat.reduceEqDiff,h0,h1,h4,hl4,b67_3_7 (Pl.bool false) hv.pl,stc_two N31 1 (.bool false) v (.bool false) .nils _ rfl hv.pl.ok];rfl) ?_)
   exact ww_ret (hQ _ _ (fin_cell (x:=.bool false) (y:=v) (f:=false) (d:=4) (g:=1) (by kernel_rfl) (sS1 h4) (sS1 hl4) (Pl.bool _) hv.pl (by rw [hhp])) ⟨d,key false (by simp),ht⟩)
  | true =>
   refine ww_seq (ww_reg (fun n k=>by simp -implicitDefEqProofs (disch:=omega) only [go_sem,reduceIte,Nat.reduceEqDiff,h0,h1,h4,hl4,len_sl hv,b67_3_7 (Pl.bool _) hv.pl,stc_two N31 1 (.bool (decide (0<d.length))) v (.bool false) .nils _ rfl hv.pl.ok];rfl) ?_)
   refine ww_ret (hQ _ _ (fin_cell (x:=.bool (decide (0<d.length))) (y:=v) (f:=false) (d:=4) (g:=1) (by kernel_rfl) (sS1 h4) (sS1 hl4) (Pl.bool _) hv.pl (by rw [hhp])) ⟨d,key _ ?_,ht⟩)
   cases d with
   | nil=>rfl
   | cons x l=>simp
end Go.AM.S
end
section
namespace Go.AM.S
open Go Go.AM Go.Proofs NumL
open _root_.Go.AM.G (R)
set_option maxRecDepth 100000
theorem tbl16:tbl 16=some ⟨rc16,[.cell 2 31,.tmp 3]⟩:=by kernel_rfl
theorem bs_one {P:Program} {t e:TypeId} {z v:V} (he:F.elemT P t=some e) (hl:F.layE P e=some (1,false)) (hz:F.zeroV P e=some z) (h1:F.noRefsR z=true) (h2:z.live=true) (h3:z.cells=[z]) (hv:v.live=true∧F.noRefsR v=true∧v.cells=[v]) (hf:filE 1 [(0,v)] (F.repR 1 z)=some [v]):bs P t 1 [(0,v)]=some (.slice none true 1 [v]):=by
 unfold bs
 rw [he]
 show G.onSome (F.layE P e) _ none=_
 rw [hl]
 show G.onSome (F.zeroV P e) _ none=_
 rw [hz]
 show (bif Nat.ble (Nat.mul 1 1) 16777216&&F.noRefsR z&&z.live&&Nat.beq (F.lenR z.cells) 1 then G.onSome (filE 1 [(0,v)] (F.repR 1 z)) (fun l=>some (V.slice none true 1 l)) none else none)=_
 rw [h1,h2,h3,hf]
 rfl
theorem bs29 (n:Nat):bs Pg 29 1 [(0,.int .i64 (.ofNat n))]=some (.slice none true 1 (nl .i64 [n])) :=
 bs_one E29 L3 Z3 rfl rfl rfl ⟨rfl,rfl,rfl⟩ rfl
theorem i_gtr_neg (k:IntKind) (m n:Nat):G.int2 .gtr k (.negSucc m) (.ofNat n)=some (.bool false):=rfl
theorem mx_neg0 (k k':IntKind) (m n:Nat):mxV (.int k (.negSucc m)) (.int k' (.ofNat n))=some (.int k (.ofNat n)):=rfl
theorem clx2 {call:CallF} {f:FuncId} {w v v':V} {tm:Tm} {loc:Lo} {hp h':Hp} {j:V→Lo→Hp→R} {r:V} (hw:Ex1 w) (hv:∀ st,AM.exp false st v=some (v',st)) (hc:call f [w,v'] hp=some (.val r h')):cl call f [w,v] tm loc hp j=j r loc h':=by
 refine cl_val (st:=⟨.lf,loc,hp⟩) (l:=[w,v']) ?_ hc
 unfold exps
 rw [hw]
 simp only [exps,hv]
theorem Tk.out {loc:Lo} {d:Nat} {v:V} {k:IntKind} {l:List Nat} (h:Tk loc d v k l):∃ v',Sl k v' l∧∀ st,AM.exp false st v=some (v',st):=by
 rcases h with ⟨rfl,rfl⟩ | ⟨_,g,rfl,_⟩
 ·exact ⟨.nils,.inr ⟨rfl,rfl⟩,Pl.nils.ex⟩
 ·exact ⟨.slice none false 1 (nl k l),.inl ⟨false,rfl⟩,fun _=>rfl⟩
theorem Tk.frame {loc loc':Lo} {d:Nat} {v:V} {k:IntKind} {l:List Nat} (h:Tk loc d v k l) (hf:lg loc' d=lg loc d):Tk loc' d v k l:=by
 rcases h with h | ⟨h0,g,h1,h2⟩
 ·exact .inl h
 ·exact .inr ⟨h0,g,h1,hf.trans h2⟩
def zr (d:List Nat) (b:Bool):Int:=bif b then -(vl 10000 d:Int) else (vl 10000 d:Int)
def IsR (k:Nat) (v:V) (z:Int):Prop:=∃ d b,NR v d b∧z=zr d b∧d.length≤k
theorem IsR.mono {k l:Nat} {v:V} {z:Int} (h:IsR k v z) (hl:k≤l):IsR l v z:=by
 obtain ⟨d,b,h1,h2,h3⟩:=h
 exact ⟨d,b,h1,h2,by omega⟩
theorem zeroR:IsR 0 (.agg [.bool false,.nils]) 0:=⟨[],false,⟨⟨.nils,rfl,.inr ⟨rfl,rfl⟩⟩,Dg.nil _,fun i hi=>by simp at hi,fun _=>rfl⟩,rfl,by simp⟩
theorem dv_eq (l:List Nat):dv l=lv l.reverse:=by rw [←dv_rev,List.reverse_reverse]
theorem dv_app (a b:List Nat):dv (a++b)=dv a*10 ^ b.length+dv b:=by
 rw [dv_eq,dv_eq a,dv_eq b,List.reverse_append,lv_app,List.length_reverse,Nat.mul_comm,Nat.add_comm]
theorem lv_lt:∀ {l:List Nat},Dec l→lv l<10 ^ l.length:=by
 intro l
 induction l with
 | nil=>intro _;simp [lv]
 | cons x l ih =>
  intro h
  have h1:=ih (fun y hy=>h y (by simp [hy]))
  have h2:=h x (by simp)
  simp only [lv,List.length_cons,Nat.pow_succ]
  omega
theorem dv_lt {l:List Nat} (h:Dec l):dv l<10 ^ l.length:=by
 rw [dv_eq]
 have:=lv_lt h.rev
 rwa [List.length_reverse] at this
theorem good_pos {l:List Nat} (h:goodB l=true):0<(bodyN l).length∧Dec (bodyN l)∧badB l=false:=by
 unfold goodB at h
 have h1:badB l=false:=by cases hb:badB l with | false=>rfl | true=>rw [hb] at h;simp at h
 refine ⟨?_,?_,h1⟩
 ·cases hb:bodyN l with
  | nil=>unfold badB at h1;rw [hb] at h1;simp at h1
  | cons x t=>simp
 ·rw [h1] at h;simpa using h
theorem parseR_spec {l:List Nat} (hd:Dg 256 l) (hl:l.length≤1000):Gives 16 [.str (sl l)] fun r=>∃ v,r=.tuple [v,.bool (goodB l)]∧IsR 252 v (zOf l):=by
 have rd:=bodyN_dg hd
 have rl:=bodyN_len l
 refine gives_of tbl16 fun h Q hQ=>?_
 obtain ⟨_,hrt,rfl⟩:=right_spec hd (by omega) ⟨h.rows,none,h.mods⟩
 unfold rc16
 refine sRG ?_
 refine ww_joinX (fun s=>goodB l=true∧gt s.tm 0=.str (sl l)∧gt s.tm 2=.ptr (.loc 2 1) 0∧lg s.loc 2=(1,.cells false [.bool false,.nils])∧s.hp=⟨h.rows,none,h.mods⟩) ?_ (fun s ⟨hg,a0,a2,al,ah⟩=>?_)
 ·refine ww_seq (ww_call (hrt) (fun n hn k=>by simp -implicitDefEqProofs (disch:=omega) only [go_sem,reduceIte,Nat.reduceEqDiff,gt_start,List.getD_cons_zero,List.getD_cons_succ,clc1 hn (Ex1.str _)];rfl) ?_)
  cases hg:goodB l with
  | true =>
   refine ww_false (by simp -implicitDefEqProofs (disch:=omega) only [go_sem,reduceIte,Nat.reduceEqDiff,Bool.not_true]) (ww_skip ?_)
   exact ⟨rfl,sSG,sS,sS,rfl⟩
  | false =>
   refine ww_true (by simp -implicitDefEqProofs (disch:=omega) only [go_sem,reduceIte,Nat.reduceEqDiff,Bool.not_false]) ?_
   refine ww_seq (ww_reg (fun n k=>by simp -implicitDefEqProofs (disch:=omega) only [go_sem,reduceIte,Nat.reduceEqDiff,stc_two N31 1 (.bool false) .nils (.bool false) .nils _ rfl rfl];rfl) ?_)
   refine ww_ret (hQ _ _ (fin_cell_tmp (x:=.bool false) (y:=.nils) (w:=.bool false) (f:=false) (d:=2) (g:=1) (by kernel_rfl) sS sS (Pl.bool _) Pl.nils sS (Pl.bool _) (fun x hx=>by cases hx)) ⟨_,by rw [hg],?_⟩)
   have e:zOf l=0:=by unfold zOf;rw [hg];rfl
   rw [e]
   exact zeroR.mono (by omega)
 obtain ⟨hpos,hdec,hbad⟩:=good_pos hg
 have hl0:0<l.length:=by omega
 refine ww_seq (ww_reg (fun n k=>by simp -implicitDefEqProofs (disch:=omega) only [go_sem,reduceIte,Nat.reduceEqDiff,a0,idx_sl hd];rfl) ?_)
 refine ww_join (M:=fun s2=>gt s2.tm 0=.str (sl (bodyN l))∧gt s2.tm 4=.bool (ng l)∧gt s2.tm 2=.ptr (.loc 2 1) 0∧lg s2.loc 2=(1,.cells false [.bool false,.nils])∧s2.hp=⟨h.rows,none,h.mods⟩) ?_ (fun s2 ⟨b0,b4,b2,bl,bh⟩=>?_)
 ·refine sR ?_
  cases hng:ng l with
  | true =>
   have eb:bodyN l=l.drop 1:=by unfold bodyN;rw [hng];rfl
   refine ww_true (by rw [show decide (l.getD 0 0=45)=ng l from rfl,hng];exact sS) ?_
   refine ww_reg (fun n k=>by simp -implicitDefEqProofs (disch:=omega) only [go_sem,reduceIte,Nat.reduceEqDiff,a0,slc_str hd];rfl) ?_
   exact ⟨by rw [eb];exact sS,by rw [show decide (l.getD 0 0=45)=ng l from rfl,hng];exact sS,(sS1 a2),(by simp -implicitDefEqProofs (disch:=omega) only [go_sem,reduceIte,Nat.reduceEqDiff,al]),ah⟩
  | false =>
   have eb:bodyN l=l:=by unfold bodyN;rw [hng];rfl
   refine ww_false (by rw [show decide (l.getD 0 0=45)=ng l from rfl,hng];exact sS) (ww_skip ?_)
   exact ⟨by rw [eb];exact (sS1 a0),by rw [show decide (l.getD 0 0=45)=ng l from rfl,hng];exact sS,(sS1 a2),(by simp -implicitDefEqProofs (disch:=omega) only [go_sem,reduceIte,Nat.reduceEqDiff,al]),ah⟩
 generalize hr:bodyN l=r at *
 refine sR ?_
 refine ww_join (M:=fun s3=>∃ v5 out,gt s3.tm 5=v5∧Tk s3.loc 44 v5 .i64 out∧Dg 10000 out∧vl 10000 out=dv r∧out.length≤252∧gt s3.tm 4=.bool (ng l)∧gt s3.tm 2=.ptr (.loc 2 1) 0∧lg s3.loc 2=(1,.cells false [.bool false,.nils])∧s3.hp=⟨h.rows,none,h.mods⟩) ?_ (fun s3 ⟨v5,out,c5,ctk,cdg,cvl,clen,c4,c2,cl2,ch⟩=>?_)
 ·refine sR1 b0 ?_
  refine ww_for (fun m s3=>∃ v5 out z,gt s3.tm 0=.str (sl r)∧gt s3.tm 5=v5∧Tk s3.loc 44 v5 .i64 out∧Dg 10000 out∧vl 10000 out=dv (r.drop m)∧m≤r.length∧(0<m→4*out.length=r.length - m)∧4*out.length≤r.length+3∧gt s3.tm 6=.int .i64 z∧(z=.ofNat m∨(m=0∧∃ q,z=.negSucc q))∧gt s3.tm 4=.bool (ng l)∧gt s3.tm 2=.ptr (.loc 2 1) 0∧lg s3.loc 2=(1,.cells false [.bool false,.nils])∧s3.hp=⟨h.rows,none,h.mods⟩) r.length ⟨.nils,[],.ofNat r.length,(sS1 b0),sS,.inl ⟨rfl,rfl⟩,Dg.nil _,by simp [vl,dv],Nat.le_refl _,fun _=>by simp,by simp,sS,.inl rfl,(sS1 b4),(sS1 b2),(by simp -implicitDefEqProofs (disch:=omega) only [go_sem,reduceIte,Nat.reduceEqDiff,bl]),bh⟩ ?_
  intro i s3 ⟨v5,out,z,c0,c5,ctk,cdg,cvl,hi,hfour,hfour2,c6,hz,c4,c2,cl2,ch⟩
  have stop:i=0→∃ v5 out,gt s3.tm 5=v5∧Tk s3.loc 44 v5 .i64 out∧Dg 10000 out∧vl 10000 out=dv r∧out.length≤252∧gt s3.tm 4=.bool (ng l)∧gt s3.tm 2=.ptr (.loc 2 1) 0∧lg s3.loc 2=(1,.cells false [.bool false,.nils])∧s3.hp=⟨h.rows,none,h.mods⟩:=by
   intro e
   subst e
   exact ⟨v5,out,c5,ctk,cdg,by simpa using cvl,by omega,c4,c2,cl2,ch⟩
  rcases hz with rfl | ⟨e0,q,rfl⟩
  ·refine sQ1 c6 ?_
   refine ww_if (by simp only [gt_pt,reduceIte];rfl) (fun hi0=>ww_skip ?_) (fun hi0=>ww_exit ?_)
   ·refine ww_seq (ww_block ?_)
    refine sR ?_
    refine ww_join (M:=fun s4=>gt s4.tm 7=.int .i64 (.ofNat (dv ((r.take i).drop (i - 4))))∧Kp [0,2,4,5,6] s3.tm s4.tm∧s4.loc=s3.loc∧s4.hp=s3.hp) ?_ (fun s4 ⟨d7,dk,dl,dh⟩=>?_)
    ·refine ww_join (M:=fun s4=>gt s4.tm 8=.int .i64 (.ofNat (i - 4))∧gt s4.tm 7=.int .i64 (.ofNat 0)∧Kp [0,2,4,5,6] s3.tm s4.tm∧s4.loc=s3.loc∧s4.hp=s3.hp) ?_ (fun s4 ⟨d8,d7,dk,dl,dh⟩=>?_)
     ·by_cases h4:4≤i
      ·refine sE1 c6 ?_
       exact ⟨(by simp -implicitDefEqProofs (disch:=omega) only [go_sem,reduceIte,Nat.reduceEqDiff,Nat.max_eq_left]),sS,(by (try dsimp only);repeat (first | with_reducible exact Kp_refl _ _ | with_reducible refine Kp_pt (by decide) ?_)),rfl,rfl⟩
      ·refine ww_reg (fun n k=>by simp -implicitDefEqProofs (disch:=omega) only [go_sem,reduceIte,Nat.reduceEqDiff,c6,i_sub_neg,mx_neg0];rfl) ?_
       exact ⟨by rw [show i - 4=0 by omega];exact sS,sS,(by (try dsimp only);repeat (first | with_reducible exact Kp_refl _ _ | with_reducible refine Kp_pt (by decide) ?_)),rfl,rfl⟩
     ·refine ww_for (fun m s5=>∃ k,m+k=i∧i - 4≤k∧gt s5.tm 8=.int .i64 (.ofNat k)∧gt s5.tm 7=.int .i64 (.ofNat (dv ((r.take k).drop (i - 4))))∧Kp [0,2,4,5,6] s3.tm s5.tm∧s5.loc=s3.loc∧s5.hp=s3.hp) (i - (i - 4)) ⟨i - 4,by omega,Nat.le_refl _,d8,by rw [List.drop_eq_nil_of_le (by simp;omega)];exact d7,dk,dl,dh⟩ ?_
      intro m s5 ⟨k,hk,hik,e8,e7,ek,el,eh⟩
      have e6:=(ek 6 (by decide)).trans c6;have e0:=(ek 0 (by decide)).trans c0
      refine sQ2 e8 e6 ?_
      refine ww_if (by simp only [gt_pt,reduceIte];rfl) (fun hlt=>ww_skip ?_) (fun hlt=>ww_exit ?_)
      ·have hkr:k<r.length:=by omega
       have hx:=hdec (r.getD k 0) (by rw [List.getD_eq_getElem?_getD,List.getElem?_eq_getElem hkr];exact List.getElem_mem _)
       have hdk:Dec ((r.take k).drop (i - 4)):=fun x hx=>hdec x (List.mem_of_mem_take (List.mem_of_mem_drop hx))
       have hlt4:=dv_lt hdk
       have hlen4:((r.take k).drop (i - 4)).length≤3:=by simp;omega
       have hp4:10 ^ ((r.take k).drop (i - 4)).length≤10 ^ 3:=Nat.pow_le_pow_right (by decide) hlen4
       have hp4':dv ((r.take k).drop (i - 4))<1000:=Nat.lt_of_lt_of_le hlt4 hp4
       refine ww_seq (ww_block ?_)
       refine ww_reg (fun n k=>by simp -implicitDefEqProofs (disch:=omega) only [go_sem,reduceIte,Nat.reduceEqDiff,e7,e8,e0,idx_sl rd];rfl) ?_
       refine sE1 e8 ?_
       refine ⟨m - 1,by omega,k+1,by omega,by omega,sS,?_,?_,el,eh⟩
       ·rw [take_snoc r k hkr,List.drop_append_of_le_length (by simp;omega),dv_snoc]
        exact sS
       ·intro j hj
        rw [gt_pt,if_neg (by intro e;subst e;simp at hj),gt_pt,if_neg (by intro e;subst e;simp at hj),gt_pt,if_neg (by intro e;subst e;simp at hj)]
        exact ek j hj
      ·rw [if_pos rfl]
       have e:k=i:=by omega
       subst e
       refine ⟨(sS1 e7),?_,el,eh⟩
       intro j hj
       rw [gt_pt,if_neg (by intro e;subst e;simp at hj)]
       exact ek j hj
    ·have hdk:Dec ((r.take i).drop (i - 4)):=fun x hx=>hdec x (List.mem_of_mem_take (List.mem_of_mem_drop hx))
     have hlt4:=dv_lt hdk
     have hlen4:((r.take i).drop (i - 4)).length≤4:=by simp;omega
     have hp4:dv ((r.take i).drop (i - 4))<10000:=Nat.lt_of_lt_of_le hlt4 (Nat.pow_le_pow_right (n:=10) (by decide) hlen4)
     obtain ⟨v6,l6,happ,htk6,hfr6⟩:=a16_15_3 [dv ((r.take i).drop (i - 4))] none true (ctk.frame (loc':=s4.loc) (by rw [dl])) (by simp) (by simp;omega)
     have f5:=(dk 5 (by decide)).trans c5;have f6:=(dk 6 (by decide)).trans c6;have f0:=(dk 0 (by decide)).trans c0;have f4:=(dk 4 (by decide)).trans c4;have f2:=(dk 2 (by decide)).trans c2
     refine ww_reg (fun n k=>by simp -implicitDefEqProofs (disch:=omega) only [go_sem,reduceIte,Nat.reduceEqDiff,d7,f5,bs29,happ];rfl) ?_
     have hvl6:vl 10000 (out++[dv ((r.take i).drop (i - 4))])=dv (r.drop (i - 4)):=by
      rw [vl_append,vl_one,cvl]
      have e1:r.drop (i - 4)=(r.take i).drop (i - 4)++r.drop i:=by
       conv=>lhs;rw [←List.take_append_drop i r]
       rw [List.drop_append_of_le_length (by simp;omega)]
      rw [e1,dv_app,List.length_drop,←hfour hi0,Nat.pow_mul,Nat.mul_comm,Nat.add_comm]
     have hl2:lg l6 2=(1,.cells false [.bool false,.nils]):=by rw [hfr6 2 (by decide),dl];exact cl2
     have h4:=hfour hi0
     by_cases hi4:4≤i
     ·refine sE1 f6 ?_
      exact ⟨i - 4,by omega,v6,_,.ofNat (i - 4),(sS1 f0),sS,htk6,cdg.snoc hp4,hvl6,by omega,fun _=>by simp;omega,by simp;omega,sS,.inl rfl,(sS1 f4),(sS1 f2),hl2,dh.trans ch⟩
     ·refine ww_reg (fun n k=>by simp -implicitDefEqProofs (disch:=omega) only [go_sem,reduceIte,Nat.reduceEqDiff,f6,i_sub_neg];rfl) ?_
      exact ⟨i - 4,by omega,v6,_,.negSucc (4 - i - 1),(sS1 f0),sS,htk6,cdg.snoc hp4,hvl6,by omega,fun q=>by omega,by simp;omega,sS,.inr ⟨by omega,_,rfl⟩,(sS1 f4),(sS1 f2),hl2,dh.trans ch⟩
   ·rw [if_pos rfl]
    obtain ⟨v,o,q⟩:=stop (by omega)
    exact ⟨v,o,(by simp -implicitDefEqProofs (disch:=omega) only [go_sem,reduceIte,Nat.reduceEqDiff,q.1]),q.2.1,q.2.2.1,q.2.2.2.1,q.2.2.2.2.1,(by simp -implicitDefEqProofs (disch:=omega) only [go_sem,reduceIte,Nat.reduceEqDiff,q.2.2.2.2.2.1]),(by simp -implicitDefEqProofs (disch:=omega) only [go_sem,reduceIte,Nat.reduceEqDiff,q.2.2.2.2.2.2.1]),q.2.2.2.2.2.2.2⟩
  ·refine ww_seq (ww_seq (ww_reg (fun n k=>by simp -implicitDefEqProofs (disch:=omega) only [go_sem,reduceIte,Nat.reduceEqDiff,c6,i_gtr_neg];rfl) ?_))
   refine ww_false sS (ww_exit ?_)
   rw [if_pos rfl]
   obtain ⟨v,o,q⟩:=stop e0
   exact ⟨v,o,(by simp -implicitDefEqProofs (disch:=omega) only [go_sem,reduceIte,Nat.reduceEqDiff,q.1]),q.2.1,q.2.2.1,q.2.2.2.1,q.2.2.2.2.1,(by simp -implicitDefEqProofs (disch:=omega) only [go_sem,reduceIte,Nat.reduceEqDiff,q.2.2.2.2.2.1]),(by simp -implicitDefEqProofs (disch:=omega) only [go_sem,reduceIte,Nat.reduceEqDiff,q.2.2.2.2.2.2.1]),q.2.2.2.2.2.2.2⟩
 ·obtain ⟨v6,hsl,hex⟩:=ctk.out
  obtain ⟨w,hrun,d,hw,ht⟩:=trim_spec hsl cdg (by omega) (ng l) ⟨h.rows,none,h.mods⟩
  have hw0:=hw
  obtain ⟨⟨x,rfl,hx⟩,_⟩:=hw
  refine ww_seq (ww_call (hrun) (fun n hn k=>by simp -implicitDefEqProofs (disch:=omega) only [go_sem,reduceIte,Nat.reduceEqDiff,c2,c4,c5,ch,cl2,clx2 (Ex1.bool _) hex hn,stc_two N31 1 (.bool (ng l && !d.isEmpty)) x (.bool false) .nils _ rfl hx.pl.ok];rfl) ?_)
  refine ww_ret (hQ _ _ (fin_cell_tmp (x:=.bool (ng l && !d.isEmpty)) (y:=x) (w:=.bool true) (f:=false) (d:=2) (g:=1) (by kernel_rfl) (sS1 c2) sS (Pl.bool _) hx.pl sS (Pl.bool _) (fun x hx=>by cases hx)) ⟨_,by rw [hg],d,_,hw0,?_,by have:=ht.len;omega⟩)
  have e6:=ht.vl 10000
  rw [cvl] at e6
  unfold zOf zr
  rw [hg,hr]
  cases hng:ng l with
  | false=>simp only [Bool.false_and,cond_false,cond_true,e6]
  | true =>
   cases d with
   | nil=>simp only [vl] at e6;simp only [List.isEmpty_nil,Bool.not_true,Bool.and_false,cond_false,cond_true,vl,←e6];rfl
   | cons x0 l0=>simp only [List.isEmpty_cons,Bool.not_false,Bool.and_self,cond_true,e6]
end Go.AM.S
end
section
namespace Go.AM.S
open Go Go.AM Go.Proofs NumL
open _root_.Go.AM.G (R)
section
variable {P:Program} {C:Cfg} {call:CallF} {gl:Nat→Bool} {o:Oper} {loc:Lo} {hp:Hp}
theorem gen_growX {d d1 x y t e b : Nat} (h1 : d1 ≠ d) (hi : ApI P o d x y t) (hA : C.isArr t = true) (hg : gl d = false) (he : elemT P t = some e) (hl : layE P e = some (1, false)) (hb : byteE P e = some b) (hxy : x ≠ y)
    {k : IntKind} {l ys : List Nat} {v w : V} (hv : Ar loc d1 v k l) (hw : ∀ tm hp, itemsOf ⟨tm, loc, hp⟩ w = some (nl k ys)) (hys : ys ≠ []) (hn : (l.length + ys.length) * b ≤ 70368744177664) :
    ∃ v' loc', (∀ (call : CallF) (tm : Tm) (hp : Hp) (j : V → Lo → Hp → R), gen P C call gl o (pt (pt .lf x v) y w) tm loc hp j = j v' loc' hp) ∧ Ar loc' d v' k (l ++ ys) ∧ ∀ i, i ≠ d → i ≠ d1 → lg loc' i = lg loc i := by
  obtain ⟨hd, c, ho, hc, ha, hty, hni⟩ := hi
  have hx : gt (pt (pt .lf x v) y w) x = v := by rw [gt_pt, if_neg (Ne.symm hxy), gt_pt, if_pos rfl]
  have hy : gt (pt (pt .lf x v) y w) y = w := by rw [gt_pt, if_pos rfl]
  have hp1 : ∀ (tm : Tm) hp, locV P C gl (⟨tm, loc, hp⟩ : St).ρ (⟨tm, loc, hp⟩ : St).lc o = none := by
    intro tm hp
    unfold locV
    simp only [ho, pureV, hc, ha, Option.map_none]
  have hne : ∀ {q : Prop}, nl k ys = [] → q := fun h => absurd (by simpa [nl] using h) hys
  have hmb : ∀ n, n ≤ 70368744177664 → Nat.ble n maxBytes = true := fun n h => by rw [Nat.ble_eq]; exact h
  rcases hv with ⟨rfl, rfl⟩ | ⟨hl0, g, rfl, hrow⟩
  · refine ⟨.arr (.loc d ((lg loc d).1 + 1)) 0 ys.length none 1 false, lp loc d ((lg loc d).1 + 1, .cells false (nl k ys)), fun call tm hp j => gen_val (st := ⟨pt (pt .lf x .nils) y w, lp loc d ((lg loc d).1 + 1, .cells false (nl k ys)), hp⟩) hd ?_, .inr ⟨by simpa using hys, (lg loc d).1 + 1, by simp, by rw [lg_lp, if_pos rfl]; simp⟩, fun i hi _ => by rw [lg_lp, if_neg (Ne.symm hi)]⟩
    unfold stepV
    rw [hp1]
    unfold stepG
    simp only [ho, callS, hc, hty, hd, opds, ha, List.map_cons, List.map_nil, opd_gt, hx, hy, hni, cond_true, appendV, he, hl, hb, hw, fits_nl]
    split
    · rename_i h0; exact hne h0
    · rw [hmb _ (by simpa [nl_length] using hn)]
      simp only [cond_true, hA, growArr, hg, Bool.false_and, cond_false, addRow, lc_lg, aset_lp, flat_nl, nl_length]
  · have hrow' : ∀ tm hp, getRow ⟨tm, loc, hp⟩ (.loc d1 g) = some (.cells false (nl k l)) := fun tm hp => getRow_loc hrow
    refine ⟨.arr (.loc d ((lg loc d).1 + 1)) 0 (l ++ ys).length none 1 false, lp (lp loc d1 (g, .gone)) d ((lg loc d).1 + 1, .cells false (nl k (l ++ ys))), fun call tm hp j => gen_val (st := ⟨pt (pt .lf x (.arr (.loc d1 g) 0 l.length none 1 false)) y w, lp (lp loc d1 (g, .gone)) d ((lg loc d).1 + 1, .cells false (nl k (l ++ ys))), hp⟩) hd ?_, .inr ⟨by simp [hl0], _, rfl, by rw [lg_lp, if_pos rfl]⟩, fun i hi hj => by rw [lg_lp, if_neg (Ne.symm hi), lg_lp, if_neg (Ne.symm hj)]⟩
    · unfold stepV
      rw [hp1]
      unfold stepG
      simp only [ho, callS, hc, hty, hd, opds, ha, List.map_cons, List.map_nil, opd_gt, hx, hy, hni, cond_true, appendV, he, hl, hb, hw, fits_nl, hrow', nl_length, Nat.beq_refl, beq_self_eq_true, Bool.and_self, Nat.zero_add, Nat.mul_one]
      rw [show Nat.ble l.length l.length = true from by rw [Nat.ble_eq]; exact Nat.le_refl _, hmb _ hn]
      simp only [Bool.and_self, cond_true]
      split
      · rename_i h0; exact hne h0
      · simp only [isLoc, Bool.not_true, Bool.false_and, cond_false]
        rw [show Nat.ble (l.length + ys.length) l.length = false from by
          cases hb : Nat.ble (l.length + ys.length) l.length with
          | false => rfl
          | true => rw [Nat.ble_eq] at hb; have : ys.length ≠ 0 := by simpa using hys
                    omega]
        simp only [cond_false, growArr, hg, Bool.false_and, setRow_loc, addRow, lc_lg, lg_lp, if_neg h1, aset_lp, flat_nl, nl_append, List.length_append, cond_true]
end
end Go.AM.S
end
section
namespace Go.AM.S
open Go Go.AM Go.Proofs NumL
open _root_.Go.AM.G (R)
set_option maxRecDepth 100000
theorem tbl23:tbl 23=some ⟨rc23,[.tmp 2]⟩:=by kernel_rfl
theorem tx23 {l:Lo} {h:Hp} {w:V} {d:List Nat} (hw:∀ q,w≠.str q) (hi:∀ tm,itemsOf ⟨tm,l,h⟩ w=some (nl .u8 d)) (hd:Dg 256 d) (c:CallF) (t:Tm) (j:V→Lo→Hp→R):go1 Try.f23 23 19 1 79 w c t l h j=j (.str (sl d)) l h :=
 gen_text (C:=Cg) (gl:=Cg.glob 23) (call:=c) (tm:=t) (loc:=l) (hp:=h) (j:=j) (x:=79) (o:=opA Try.f23 19 1) (d:=80) (s:=51) (t:=9) (e:=5) (by kernel_rfl) (by kernel_rfl) U51 U9 U5 hw hi hd
structure IX (s:V) (b:Bool) (h:Hp) (st:St) (v3:V) (out:List Nat):Prop where
 h1:gt st.tm 1=.ptr (.loc 1 1) 0
 h3:gt st.tm 3=v3
 l1:lg st.loc 1=(1,.cells false [.bool b,s])
 ar:Ar st.loc 47 v3 .u8 out
 dec:Dec out
 hh:st.hp=⟨h.rows,none,h.mods⟩
theorem vl_pos_of {B:Nat} {d:List Nat} (hc:Cn d) (hd:d≠[]) (hB:0<B):0<vl B d:=by
 have h1:=vl_ge (B:=B) hc hd
 have h2:0<B ^ (d.length - 1):=Nat.pow_pos hB
 omega
theorem getD_last_snoc (l:List Nat) (x:Nat):(l++[x]).getD ((l++[x]).length - 1) 0=x:=by
 rw [List.getD_eq_getElem?_getD];simp
theorem textR_spec {k:Nat} {v:V} {z:Int} (ha:IsR k v z) (hk:k≤90000):Gives 23 [v] fun r=>∃ t,r=.str (sl t)∧Dg 256 t∧goodB t=true∧zOf t=z∧t.length≤4*k+20:=by
 obtain ⟨d,b,⟨⟨s,rfl,hs⟩,dd,cd,h0⟩,hx,hl⟩:=ha
 refine gives_of tbl23 fun h Q hQ=>?_
 unfold rc23
 refine sRG ?_
 rcases Nat.eq_zero_or_pos d.length with e0 | e0
 ·have e:d=[]:=List.length_eq_zero_iff.1 e0
  have eb:=h0 e
  refine ww_seq (ww_seq (ww_reg (fun n k=>by simp -implicitDefEqProofs (disch:=omega) only [go_sem,reduceIte,Nat.reduceEqDiff,ldc_snd L29,len_sl hs,e0,d_true];rfl) ?_))
  refine ww_true sS ?_
  refine sR ?_
  refine ww_ret (hQ _ _ (fin_tmpD (v:=.str (sl [48])) (by simp -implicitDefEqProofs only [go_sem,reduceIte];rfl) (Ex1.str _) (fun x hx=>by cases hx) rfl) ⟨[48],rfl,by intro x hx;simp at hx;subst hx;decide,by decide,?_,by simp⟩)
  subst e;subst eb;subst hx
  rfl
 have hne:d≠[]:=fun e=>by subst e;simp at e0
 refine ww_seq (ww_seq (ww_reg (fun n k=>by simp -implicitDefEqProofs (disch:=omega) only [go_sem,reduceIte,Nat.reduceEqDiff,ldc_snd L29,len_sl hs,d_false];rfl) ?_))
 refine ww_false sS (ww_skip ?_)
 refine sR ?_
 refine ww_join (M:=fun st=>∃ v3 out,IX s b h st v3 out∧lv out=vl 10000 d∧out.length≤4*k∧0<out.length∧out.getD (out.length - 1) 0≠48) ?_ ?_
 ·refine sR ?_
  refine ww_for (fun m st=>∃ i v3 out,m+i=d.length∧gt st.tm 4=.int .i64 (.ofNat i)∧IX s b h st v3 out∧lv out=vl 10000 (d.take i)∧out.length≤4*i∧(i<d.length→out.length=4*i)∧(i=d.length→0<out.length∧out.getD (out.length - 1) 0≠48)) d.length ⟨0,.nils,[],rfl,sS,⟨sS,sS,sS,.inl ⟨rfl,sS⟩,(fun x hx=>by simp at hx),rfl⟩,rfl,by simp,fun _=>rfl,fun q=>by omega⟩ ?_
  intro m st ⟨i,v3,out,hm,h4,H,hlv,hlo,hlo2,hlast⟩
  obtain ⟨h1,h3,l1,ar,dec,hh⟩:=H
  refine ww_seq (ww_seq (ww_reg (fun n k=>by simp -implicitDefEqProofs (disch:=omega) only [go_sem,reduceIte,Nat.reduceEqDiff,h4,h1,l1,ldc_snd L29,len_sl hs];rfl) ?_))
  refine ww_if (by simp only [gt_pt,reduceIte];rfl) (fun hi=>ww_skip ?_) (fun hi=>ww_exit ?_)
  ·have hx0:d.getD i 0<10000:=dd.get (by decide) i
   refine ww_seq (ww_block ?_)
   refine ww_seq (ww_reg (fun n k=>by simp -implicitDefEqProofs (disch:=omega) only [go_sem,reduceIte,Nat.reduceEqDiff,h4,h1,l1,ldc_snd L29,ia29 hs];rfl) ?_)
   refine sR ?_
   refine ww_mono (N:=fun s2=>∃ v4 out4,gt s2.tm 4=.int .i64 (.ofNat i)∧IX s b h s2 v4 out4∧lv out4=vl 10000 (d.take (i+1))∧out4.length≤4*(i+1)∧(i+1<d.length→out4.length=4*(i+1))∧(i+1=d.length→0<out4.length∧out4.getD (out4.length - 1) 0≠48)) (X:=fun _ _=>False) (Q:=fun _=>False) ?_ ?_ (fun _ _ h=>h.elim) (fun _ h=>h.elim)
   ·refine ww_for (fun m s2=>∃ q x v4 out4,m+q=4∧gt s2.tm 4=.int .i64 (.ofNat i)∧gt s2.tm 6=.int .i64 (.ofNat q)∧gt s2.tm 5=.int .i64 (.ofNat x)∧x<10 ^ (4 - q)∧IX s b h s2 v4 out4∧lv out4+10 ^ out4.length*x=vl 10000 (d.take (i+1))∧out4.length=4*i+q∧(i+1=d.length→x=0→0<out4.length∧out4.getD (out4.length - 1) 0≠48)) 4 ⟨0,d.getD i 0,v3,out,rfl,(sS1 h4),sS,sS,hx0,⟨(sS1 h1),(sS1 h3),(sS1 l1),ar,dec,hh⟩,?_,hlo2 hi,?_⟩ ?_
    ·rw [vl_take_next,hlv,hlo2 hi,Nat.pow_mul]
    ·intro e e2
     exact absurd e2 (cd i e.symm)
    intro m2 s2 ⟨q,x,v4,out4,hm2,j4,j6,j5,hxq,H4,hv4,hlen4,hlast4⟩
    obtain ⟨q1,q3,k1,ar4,dec4,hh4⟩:=H4
    have hx4:x<10000:=Nat.lt_of_lt_of_le hxq (Nat.pow_le_pow_right (n:=10) (by decide) (show 4 - q≤4 by omega))
    have fin:¬(q<4∧(i+1<d.length∨0<x))→∀ tm,gt tm 4=.int .i64 (.ofNat i)→gt tm 1=.ptr (.loc 1 1) 0→gt tm 3=v4→∃ v4 out4,gt tm 4=.int .i64 (.ofNat i)∧IX s b h ⟨tm,s2.loc,s2.hp⟩ v4 out4∧lv out4=vl 10000 (d.take (i+1))∧out4.length≤4*(i+1)∧(i+1<d.length→out4.length=4*(i+1))∧(i+1=d.length→0<out4.length∧out4.getD (out4.length - 1) 0≠48):=by
     intro hq tm t4 t1 t3
     have ex:x=0:=by
      by_cases hq4:q=4
      ·subst hq4;rw [show (10:Nat) ^ (4 - 4)=1 from rfl] at hxq;omega
      ·omega
     subst ex
     exact ⟨v4,out4,t4,⟨t1,t3,k1,ar4,dec4,hh4⟩,by simpa using hv4,by omega,fun h=>by omega,fun h=>hlast4 h rfl⟩
    have body:q<4→(i+1<d.length∨0<x)→∀ tm,gt tm 4=.int .i64 (.ofNat i)→gt tm 1=.ptr (.loc 1 1) 0→gt tm 3=v4→gt tm 5=.int .i64 (.ofNat x)→gt tm 6=.int .i64 (.ofNat q)→WW Pg kn0 tbl (.seq (.block 3 (.seq (.reg fun c t l h k=>bO (bin Pg .rem 3 true (g5 t) (I 10)) fun v0=>bO (bin Pg .add 3 true (I 48) v0) fun v1=>gn Try.f23 23 11 4 c (p44 t v1) t l h (fun v2 l2 h2=>gn Try.f23 23 11 5 c (p45 t v2) t l2 h2 (fun v3 l3 h3=>gn Try.f23 23 11 6 c (p46 (p41 t (g3 t)) v3) t l3 h3 (fun v4 l4 h4=>k (p3 t v4) l4 h4))))
 (.reg fun c t l h k=>bO (bin Pg .quo 3 true (g5 t) (I 10)) fun v0=>k (p5 t v0) l h)))
 (.reg fun c t l h k=>bO (bin Pg .add 3 true (g6 t) (I 1)) fun v0=>k (p6 t v0) l h)) ⟨tm,s2.loc,s2.hp⟩ (fun s'=>∃ m',m'<m2∧∃ q x v4 out4,m'+q=4∧gt s'.tm 4=.int .i64 (.ofNat i)∧gt s'.tm 6=.int .i64 (.ofNat q)∧gt s'.tm 5=.int .i64 (.ofNat x)∧x<10 ^ (4 - q)∧IX s b h s' v4 out4∧lv out4+10 ^ out4.length*x=vl 10000 (d.take (i+1))∧out4.length=4*i+q∧(i+1=d.length→x=0→0<out4.length∧out4.getD (out4.length - 1) 0≠48)) (fun i_1 s_1=>if i_1=2 then ∃ v4 out4,gt s_1.tm 4=.int .i64 (.ofNat i)∧IX s b h s_1 v4 out4∧lv out4=vl 10000 (d.take (i+1))∧out4.length≤4*(i+1)∧(i+1<d.length→out4.length=4*(i+1))∧(i+1=d.length→0<out4.length∧out4.getD (out4.length - 1) 0≠48) else False) (fun _=>False):=by
     intro hq4 hcont tm t4 t1 t3 t5 t6
     have hm10:x % 10<10:=Nat.mod_lt _ (by decide)
     obtain ⟨v5,l5,happ,har5,hfr5⟩:=a23_11_6 (48+x % 10) ar4 (by omega)
     refine ww_seq (ww_block ?_)
     refine sR3 t5 t3 happ ?_
     refine sE1 t5 ?_
     refine sE1 t6 ?_
     refine ⟨m2 - 1,by omega,q+1,x / 10,v5,out4++[48+x % 10],by omega,(sS1 t4),sS,sS,?_,⟨(sS1 t1),sS,by rw [hfr5 1 (by decide) (by decide)];exact k1,har5,dec4.snoc (by omega) (by omega),hh4⟩,?_,by simp [hlen4];omega,?_⟩
     ·have e:10 ^ (4 - q)=10*10 ^ (4 - (q+1)):=by rw [show 4 - q=(4 - (q+1))+1 by omega,Nat.pow_succ,Nat.mul_comm]
      omega
     ·rw [←hv4,lv_app,List.length_append,List.length_cons,List.length_nil,Nat.pow_succ]
      simp only [lv,Nat.mul_zero,Nat.add_zero,Nat.mul_assoc,Nat.add_assoc]
      rw [←Nat.mul_add,Nat.add_sub_cancel_left,Nat.mod_add_div]
     ·intro hil hx0
      refine ⟨by simp,?_⟩
      rw [getD_last_snoc]
      omega
    by_cases hq4:q<4
    ·by_cases hil:i<d.length - 1
     ·refine ww_seq (ww_seq (ww_reg (fun n k=>by simp -implicitDefEqProofs (disch:=omega) only [go_sem,reduceIte,Nat.reduceEqDiff,j6,j5,j4,q1,k1,ldc_snd L29,len_sl hs,decide_eq_true hq4,decide_eq_true hil];rfl) ?_))
      refine ww_true sS (ww_skip ?_)
      exact body hq4 (.inl (by omega)) _ (sS1 j4) (sS1 q1) (sS1 q3) (sS1 j5) (sS1 j6)
     ·by_cases hx1:0<x
      ·refine ww_seq (ww_seq (ww_reg (fun n k=>by simp -implicitDefEqProofs (disch:=omega) only [go_sem,reduceIte,Nat.reduceEqDiff,j6,j5,j4,q1,k1,ldc_snd L29,len_sl hs,decide_eq_true hq4,decide_eq_false hil,decide_eq_true hx1];rfl) ?_))
       refine ww_true sS (ww_skip ?_)
       exact body hq4 (.inr hx1) _ (sS1 j4) (sS1 q1) (sS1 q3) (sS1 j5) (sS1 j6)
      ·refine ww_seq (ww_seq (ww_reg (fun n k=>by simp -implicitDefEqProofs (disch:=omega) only [go_sem,reduceIte,Nat.reduceEqDiff,j6,j5,j4,q1,k1,ldc_snd L29,len_sl hs,decide_eq_true hq4,decide_eq_false hil,decide_eq_false hx1];rfl) ?_))
       refine ww_false sS (ww_exit ?_)
       rw [if_pos rfl]
       exact fin (by omega) _ (sS1 j4) (sS1 q1) (sS1 q3)
    ·refine ww_seq (ww_seq (ww_reg (fun n k=>by simp -implicitDefEqProofs (disch:=omega) only [go_sem,reduceIte,Nat.reduceEqDiff,j6,decide_eq_false hq4];rfl) ?_))
     refine ww_false sS (ww_exit ?_)
     rw [if_pos rfl]
     exact fin (by omega) _ (sS1 j4) (sS1 q1) (sS1 q3)
   ·intro s2 ⟨v4,out4,j4,H4,e1,e2,e3,e4⟩
    refine sE1 j4 ?_
    obtain ⟨q1,q3,k1,ar4,dec4,hh4⟩:=H4
    exact ⟨m - 1,by omega,i+1,v4,out4,by omega,sS,⟨(sS1 q1),(sS1 q3),k1,ar4,dec4,hh4⟩,e1,e2,e3,e4⟩
  ·rw [if_pos rfl]
   have ei:i=d.length:=by omega
   subst ei
   rw [List.take_length] at hlv
   exact ⟨v3,out,⟨(sS1 h1),(sS1 h3),l1,ar,dec,hh⟩,hlv,by omega,hlast rfl⟩
 ·intro st ⟨v3,out,H,hlv,hlo,hpos,h48⟩
  obtain ⟨h1,h3,l1,ar,dec,hh⟩:=H
  have hgood:=good_of b dec hpos h48
  rcases ar with ⟨e,_⟩ | ⟨hne0,g,rfl,hrow⟩
  ·subst e;simp at hpos
  refine ww_join (M:=fun s3=>∃ σ g,(σ = 47∨σ = 54)∧gt s3.tm 3=.arr (.loc σ g) 0 (out++bif b then [45] else []).length none 1 false∧lg s3.loc σ = (g,.cells false (nl .u8 (out++bif b then [45] else [])))∧s3.hp=⟨h.rows,none,h.mods⟩) ?_ ?_
  ·refine ww_seq (ww_reg (fun n k=>by simp -implicitDefEqProofs (disch:=omega) only [go_sem,reduceIte,Nat.reduceEqDiff,h1,l1,ldc_fst L4];rfl) ?_)
   cases b with
   | true =>
    refine ww_true sS ?_
    obtain ⟨v5,l5,happ,har5,hfr5⟩:=gen_growX (k:=.u8) (l:=out) (v:=.arr (.loc 47 g) 0 out.length none 1 false) (d1:=47) (C:=Cg) (gl:=Cg.glob 23) (loc:=lp st.loc 53 ((lg st.loc 53).1+1,.cells false (nl .u8 [45]))) (w:=.arr (.loc 53 ((lg st.loc 53).1+1)) 0 1 (some 1) 1 false) (by decide) i23_14_2 (by kernel_rfl) (by kernel_rfl) (e:=5) (by kernel_rfl) (by kernel_rfl) (b:=1) (by kernel_rfl) (by decide) (ys:=[45]) (.inr ⟨hne0,g,rfl,by rw [lg_lp,if_neg (by decide)];exact hrow⟩) (fun tm hp=>getRow_arr (ys:=[45]) (by rw [lg_lp,if_pos rfl])) (by simp) (by simp;omega)
    have happ2:∀ (c:CallF) (tm:Tm) (hp:Hp) (j:V→Lo→Hp→R),go2 Try.f23 23 14 2 52 53 (.arr (.loc 47 g) 0 out.length none 1 false) (.arr (.loc 53 ((lg st.loc 53).1+1)) 0 1 (some 1) 1 false) c tm (lp st.loc 53 ((lg st.loc 53).1+1,.cells false (nl .u8 [45]))) hp j=j v5 l5 hp:=happ
    refine sE2 h3 happ2 ?_
    rcases har5 with ⟨e,_⟩ | ⟨_,g5,rfl,hr5⟩
    ·simp at e
    ·exact ⟨54,g5,.inr rfl,(by simp -implicitDefEqProofs (disch:=omega) only [go_sem,reduceIte,Nat.reduceEqDiff,cond_true]),hr5,hh⟩
   | false =>
    refine ww_false sS (ww_skip ?_)
    exact ⟨47,g,.inl rfl,(by simp -implicitDefEqProofs (disch:=omega) only [go_sem,reduceIte,Nat.reduceEqDiff,cond_false,List.append_nil,h3]),by simpa using hrow,hh⟩
  ·intro s3 ⟨σ,g3,hσ,c3,hrow3,hh3⟩
   generalize hout:(out++bif b then [45] else [])=o3 at *
   have ho3:0<o3.length∧o3.length≤out.length+1:=by
    subst hout
    cases b<;>simp<;>omega
   have hd3:Dg 256 o3:=by
    subst hout
    cases b with
    | true =>
     intro x hx
     rcases List.mem_append.1 hx with hx | hx
     ·exact dec.dg x hx
     ·simp at hx;subst hx;decide
    | false=>exact fun x hx=>dec.dg x (by simpa using hx)
   refine ww_join (M:=fun s4=>gt s4.tm 3=.arr (.loc σ g3) 0 o3.reverse.length none 1 false∧lg s4.loc σ = (g3,.cells false (nl .u8 o3.reverse))∧s4.hp=⟨h.rows,none,h.mods⟩) ?_ ?_
   ·refine sR1 c3 ?_
    refine ww_for (fun m s4=>∃ i j cur,m=j+1 - i∧i+j+1=o3.length∧gt s4.tm 3=.arr (.loc σ g3) 0 o3.length none 1 false∧gt s4.tm 7=.int .i64 (.ofNat i)∧gt s4.tm 8=.int .i64 (.ofNat j)∧lg s4.loc σ = (g3,.cells false (nl .u8 cur))∧cur.length=o3.length∧(∀ p,p<o3.length→cur.getD p 0=if p<i∨j<p then o3.getD (o3.length - 1 - p) 0 else o3.getD p 0)∧s4.hp=⟨h.rows,none,h.mods⟩) (o3.length - 1+1) ⟨0,o3.length - 1,o3,rfl,by omega,(sS1 c3),sS,sS,hrow3,rfl,fun p hp=>by rw [if_neg (by omega)],hh3⟩ ?_
    intro m s4 ⟨i,j,cur,hm,hij,e3,e7,e8,hrow,hcl,hval,hhp⟩
    refine sQ2 e7 e8 ?_
    refine ww_if (by simp only [gt_pt,reduceIte];rfl) (fun hlt=>ww_skip ?_) (fun hlt=>ww_exit ?_)
    ·have hF:∀ x:R,finD (rgA Try.f23 18).toList [] []
       [⟨[σ],[σ],false,false,false,false⟩,ft0,⟨[σ],[σ],false,false,false,false⟩,ft0,⟨[σ],[],false,false,false,false⟩,ft0,ft0,ft0,⟨[σ],[],false,false,false,false⟩,ft0,ft0,ft0,ft0,ft0,ft0,ft0] x=x:=by
      intro x
      rcases hσ with rfl | rfl
      ·exact finD_ok (by kernel_rfl)
      ·exact finD_ok (by kernel_rfl)
     refine ww_seq (ww_block ?_)
     refine ww_reg (fun n k=>by
      simp -implicitDefEqProofs (disch:=omega) only [go_sem,reduceIte,Nat.reduceEqDiff,e3,e7,e8,hrow,ldc_nl L5,stc_nl N5 i cur (show i<cur.length by omega),stc_nl N5 j (cur.set i (cur.getD j 0)) (show j<(cur.set i (cur.getD j 0)).length by rw [List.length_set];omega)]
      exact hF _) ?_
     refine sE2 e7 e8 ?_
     refine ⟨j - 1+1 - (i+1),by omega,i+1,j - 1,(cur.set i (cur.getD j 0)).set j (cur.getD i 0),rfl,by omega,(sS1 e3),sS,sS,by rw [lg_lp,if_pos rfl],by simp [hcl],?_,hhp⟩
     intro p hp
     by_cases e1:p=j
     ·subst e1
      rw [getD_set_eq _ _ _ (by simp;omega),if_pos (by omega),hval i (by omega),if_neg (by omega)]
      congr 1;omega
     ·rw [getD_set_ne _ _ _ _ (Ne.symm e1)]
      by_cases e2:p=i
      ·subst e2
       rw [getD_set_eq _ _ _ (by omega),if_pos (by omega),hval j (by omega),if_neg (by omega)]
       congr 1;omega
      ·rw [getD_set_ne _ _ _ _ (Ne.symm e2),hval p hp]
       by_cases e3:p<i∨j<p
       ·rw [if_pos e3,if_pos (by omega)]
       ·rw [if_neg e3,if_neg (by omega)]
    ·rw [if_pos rfl]
     have hfin:cur=o3.reverse:=by
      refine list_ext_getD (by simp;omega) (fun p hp=>?_)
      have hp':p<o3.length:=by omega
      rw [getD_rev o3 p hp',hval p hp']
      by_cases e3:p<i∨j<p
      ·rw [if_pos e3]
      ·rw [if_neg e3];congr 1;omega
     rw [←hfin]
     exact ⟨(sS2 e3 hcl),hrow,hhp⟩
   ·intro s4 ⟨f3,hr4,hh4⟩
    refine ww_seq (ww_reg (fun n k=>by simp -implicitDefEqProofs (disch:=omega) only [go_sem,reduceIte,Nat.reduceEqDiff,f3,tx23 (l:=s4.loc) (h:=s4.hp) (w:=.arr (.loc σ g3) 0 o3.reverse.length none 1 false) (fun q e=>by cases e) (fun tm=>getRow_arr hr4) (Dg.rev hd3)];rfl) ?_)
    refine ww_ret (hQ _ _ (fin_tmpD (v:=.str (sl o3.reverse)) sS (Ex1.str _) (by rw [hh4];exact fun x hx=>by cases hx) rfl) ⟨o3.reverse,rfl,Dg.rev hd3,hgood.1,?_,by simp;omega⟩)
    rw [hgood.2,hlv,hx]
    rfl
end Go.AM.S
end
section
namespace Go.AM.S
open Go Go.AM Go.Proofs NumL
open _root_.Go.AM.G (R)
theorem lv_inj:∀ {a b:List Nat},Dec a→Dec b→a.length=b.length→lv a=lv b→a=b:=by
 intro a
 induction a with
 | nil=>intro b _ _ hl _;cases b with | nil=>rfl | cons y b=>simp at hl
 | cons x a ih =>
  intro b ha hb hl h
  cases b with
  | nil=>simp at hl
  | cons y b =>
   have h1:=ha x (by simp)
   have h2:=hb y (by simp)
   simp only [lv] at h
   have e1:x=y:=by omega
   have e2:lv a=lv b:=by omega
   rw [e1,ih (fun z hz=>ha z (by simp [hz])) (fun z hz=>hb z (by simp [hz])) (by simpa using hl) e2]
theorem lv_ge {l:List Nat} (hd:Dec l) (hl:0<l.length) (h:l.getD (l.length - 1) 0≠48):10 ^ (l.length - 1)≤lv l:=by
 have hm:l.getD (l.length - 1) 0 ∈ l:=by
  rw [List.getD_eq_getElem?_getD,List.getElem?_eq_getElem (by omega)]
  exact List.getElem_mem _
 have h1:=hd _ hm
 have e:=last_split l hl
 rw [e,lv_app]
 simp only [lv,List.length_append,List.length_take,List.length_cons,List.length_nil,Nat.mul_zero,Nat.add_zero]
 rw [show min (l.length - 1) l.length+(0+1) - 1=l.length - 1 by omega,show min (l.length - 1) l.length=l.length - 1 by omega]
 have:10 ^ (l.length - 1)*1≤10 ^ (l.length - 1)*(l.getD (l.length - 1) 0 - 48):=Nat.mul_le_mul_left _ (by omega)
 omega
theorem good_form {a:List Nat} (h:goodB a=true):Dec (bodyN a)∧0<(bodyN a).length∧a=(bif ng a then 45::bodyN a else bodyN a)∧((bodyN a).getD 0 0=48→bodyN a=[48]∧ng a=false):=by
 obtain ⟨h1,h2,h3⟩:=good_pos h
 refine ⟨h2,h1,?_,fun h48=>?_⟩
 ·unfold bodyN
  cases hn:ng a with
  | false=>rfl
  | true =>
   have hlen:=ng_len hn
   cases a with
   | nil=>simp at hlen
   | cons x l =>
    have:x=45:=by simpa [ng] using hn
    rw [this];rfl
 ·unfold badB at h3
  rw [decide_eq_true h48] at h3
  simp only [Bool.true_and,Bool.or_eq_false_iff,decide_eq_false_iff_not] at h3
  refine ⟨?_,h3.2.2⟩
  have hl:(bodyN a).length=1:=by omega
  obtain ⟨x,hx⟩:=List.length_eq_one_iff.1 hl
  rw [hx] at h48 ⊢
  simp at h48
  rw [h48]
theorem zOf_good {a:List Nat} (h:goodB a=true):zOf a=bif ng a then -(dv (bodyN a):Int) else (dv (bodyN a):Int):=by
 unfold zOf;rw [h];rfl
theorem dv_pos {l:List Nat} (hd:Dec l) (hl:0<l.length) (h:l.getD 0 0≠48):10 ^ (l.length - 1)≤dv l:=by
 rw [dv_eq]
 have:=lv_ge hd.rev (by simpa using hl) (by
  rw [List.length_reverse,getD_rev l (l.length - 1) (by omega),show l.length - 1 - (l.length - 1)=0 by omega]
  exact h)
 rwa [List.length_reverse] at this
theorem dv_inj {a b:List Nat} (ha:Dec a) (hb:Dec b) (la:0<a.length) (lb:0<b.length) (ca:a.getD 0 0=48→a=[48]) (cb:b.getD 0 0=48→b=[48]) (h:dv a=dv b):a=b:=by
 by_cases h1:a.getD 0 0=48
 ·by_cases h2:b.getD 0 0=48
  ·rw [ca h1,cb h2]
  ·exfalso
   have:=dv_pos hb lb h2
   have e:dv a=0:=by rw [ca h1];rfl
   have:0<10 ^ (b.length - 1):=Nat.pow_pos (by decide)
   omega
 ·by_cases h2:b.getD 0 0=48
  ·exfalso
   have:=dv_pos ha la h1
   have e:dv b=0:=by rw [cb h2];rfl
   have:0<10 ^ (a.length - 1):=Nat.pow_pos (by decide)
   omega
  ·have g1:=dv_pos ha la h1
   have g2:=dv_pos hb lb h2
   have l1:=dv_lt ha
   have l2:=dv_lt hb
   have q1:a.length - 1<b.length:=pow_lt_inv (c:=10) (by decide) (by omega)
   have q2:b.length - 1<a.length:=pow_lt_inv (c:=10) (by decide) (by omega)
   have hl:a.length=b.length:=by omega
   have e:=lv_inj ha.rev hb.rev (by simpa using hl) (by rw [←dv_eq,←dv_eq];exact h)
   rw [←List.reverse_reverse a,e,List.reverse_reverse]
theorem zOf_inj {a b:List Nat} (ha:goodB a=true) (hb:goodB b=true) (h:zOf a=zOf b):a=b:=by
 obtain ⟨a1,a2,a3,a4⟩:=good_form ha
 obtain ⟨b1,b2,b3,b4⟩:=good_form hb
 rw [zOf_good ha,zOf_good hb] at h
 have pos:∀ {l:List Nat},Dec (bodyN l)→0<(bodyN l).length→((bodyN l).getD 0 0=48→bodyN l=[48]∧ng l=false)→ng l=true→0<dv (bodyN l):=by
  intro l h1 h2 h3 h4
  have:(bodyN l).getD 0 0≠48:=fun e=>by have:=(h3 e).2;rw [h4] at this;cases this
  have:=dv_pos h1 h2 this
  have:0<10 ^ ((bodyN l).length - 1):=Nat.pow_pos (by decide)
  omega
 have hng:ng a=ng b:=by
  cases h1:ng a with
  | true=>cases h2:ng b with
   | true=>rfl
   | false=>have:=pos a1 a2 a4 h1;rw [h1,h2] at h;simp only [cond_true,cond_false] at h;omega
  | false=>cases h2:ng b with
   | false=>rfl
   | true=>have:=pos b1 b2 b4 h2;rw [h1,h2] at h;simp only [cond_true,cond_false] at h;omega
 have hdv:dv (bodyN a)=dv (bodyN b):=by
  rw [hng] at h
  cases h2:ng b with
  | true=>rw [h2] at h;simp only [cond_true] at h;omega
  | false=>rw [h2] at h;simp only [cond_false] at h;omega
 have e:=dv_inj a1 b1 a2 b2 (fun q=>(a4 q).1) (fun q=>(b4 q).1) hdv
 rw [a3,b3,hng,e]
end Go.AM.S
end
section
namespace Go.AM.S
open Go Go.AM Go.Proofs NumL
open _root_.Go.AM.G (R)
set_option maxRecDepth 100000
theorem tbl14:tbl 14=some ⟨rc14,[.tmp 2]⟩:=by kernel_rfl
theorem tbl17:tbl 17=some ⟨rc17,[.tmp 4]⟩:=by kernel_rfl
theorem ia_any {P:Program} {t e:TypeId} {ag:Bool} (he:F.elemT P t=some e) (hl:F.layE P e=some (1,ag)) (tok:Option Ref) (f:Bool) (k':IntKind) (l:List V) (i:Nat) (v:V) (h:l[i]? = some v) (hc:v.cells=[v]) :
  ia P t (.slice tok f 1 l) (.int k' (.ofNat i))=some (.iptr [v]):=by
 show G.onSome (F.elemT P t) _ none=_
 rw [he]
 show G.onSome (F.layE P e) _ none=_
 rw [hl]
 show (bif Nat.blt i (F.lenR l) then G.onSome (F.nthR l i) _ none else none)=_
 have hi:i<l.length:=by
  rcases Nat.lt_or_ge i l.length with q | q
  ·exact q
  ·rw [List.getElem?_eq_none q] at h;cases h
 rw [F.lenR_eq,show Nat.blt i l.length=true from by rw [Nat.blt_eq];exact hi,F.nthR_eq,h]
 show some (V.iptr v.cells)=_
 rw [hc]
theorem light_spec (f:Bool) (l:List Str) (hl:l.length≤1000000):Gives 14 [.slice none f 1 (l.map .str)] fun r=>r=.bool (l.all fun s=>decide (s.n≤300)):=by
 refine gives_of tbl14 fun h Q hQ=>?_
 have done:∀ (st:St) (b:Bool),b=(l.all fun s=>decide (s.n≤300))→gt st.tm 2=.bool b→st.hp=⟨h.rows,none,h.mods⟩→Q st:=by
  intro st b e h2 hh
  exact hQ st _ (fin_tmpD h2 (Ex1.bool _) (by rw [hh];exact fun x hx=>by cases hx) rfl) (by rw [e])
 unfold rc14
 refine sR ?_
 refine ww_joinX (fun s=>(∀ s ∈ l,s.n≤300)∧s.hp=⟨h.rows,none,h.mods⟩) ?_ (fun s ⟨a,ah⟩=>?_)
 ·refine sR ?_
  refine ww_for (fun m s=>∃ i,m+i=l.length∧gt s.tm 0=.slice none f 1 (l.map .str)∧gt s.tm 3=.int .i64 (.ofNat i)∧(∀ x ∈ l.take i,x.n≤300)∧s.hp=⟨h.rows,none,h.mods⟩) l.length ⟨0,rfl,sSG,sS,(fun x hx=>by simp at hx),rfl⟩ ?_
  intro m s ⟨i,hm,h0,h3,hle,hh⟩
  refine ww_seq (ww_seq (ww_reg (fun n k=>by simp -implicitDefEqProofs (disch:=omega) only [go_sem,reduceIte,Nat.reduceEqDiff,h0,h3,len_slice,List.length_map];rfl) ?_))
  refine ww_if (by simp only [gt_pt,reduceIte];rfl) (fun hi=>ww_skip ?_) (fun hi=>ww_exit ?_)
  ·have hx:(l.map V.str)[i]? = some (.str l[i]):=by simp [hi]
   have hmem:l[i] ∈ l:=List.getElem_mem _
   refine ww_seq (ww_block ?_)
   refine ww_seq (ww_reg (fun n k=>by simp -implicitDefEqProofs (disch:=omega) only [go_sem,reduceIte,Nat.reduceEqDiff,h0,h3,ia_any E79 L9 none f .i64 (l.map .str) i (.str l[i]) hx rfl];rfl) ?_)
   refine ww_if (by simp only [gt_pt,reduceIte];rfl) (fun hbig=>?_) (fun hbig=>ww_skip ?_)
   ·refine sR ?_
    refine ww_ret (done _ false ?_ sS hh)
    symm
    rw [List.all_eq_false]
    exact ⟨l[i],hmem,by simp;omega⟩
   ·refine sE1 h3 ?_
    refine ⟨m - 1,by omega,i+1,by omega,(sS1 h0),sS,?_,hh⟩
    intro x hx
    rw [List.take_add_one] at hx
    rcases List.mem_append.1 hx with hx | hx
    ·exact hle x hx
    ·simp [hi] at hx
     subst hx
     omega
  ·rw [if_pos rfl]
   refine ⟨?_,hh⟩
   rw [List.take_of_length_le (by omega)] at hle
   exact hle
 ·refine sR ?_
  refine ww_ret (done _ true ?_ sS ah)
  symm
  rw [List.all_eq_true]
  exact fun s hs=>decide_eq_true (a s hs)
theorem NR.quiet {v:V} {d:List Nat} {b:Bool} (h:NR v d b):AM.quiet v=true:=by
 obtain ⟨⟨s,rfl,hs⟩,_⟩:=h
 rcases hs with ⟨f,rfl⟩ | ⟨rfl,_⟩<;>rfl
theorem exR {s:V} {d:List Nat} (hs:Sl .i64 s d) (b:Bool):Ex1 (.agg [.bool b,s]):=fun st=>exp_agg (by intro u hu;simp at hu;rcases hu with rfl | rfl;exact Pl.bool _;exact hs.pl) st
theorem NR.ex {v:V} {d:List Nat} {b:Bool} (h:NR v d b):Ex1 v:=by
 obtain ⟨⟨s,rfl,hs⟩,_⟩:=h
 exact exR hs b
theorem IsI.ex {k:Nat} {v:V} {z:Int} (h:IsI k v z):Ex1 v:=by obtain ⟨d,b,h1,_⟩:=h;exact h1.ex
theorem IsI.quiet {k:Nat} {v:V} {z:Int} (h:IsI k v z):AM.quiet v=true:=by obtain ⟨d,b,h1,_⟩:=h;exact h1.quiet
theorem IsR.ex {k:Nat} {v:V} {z:Int} (h:IsR k v z):Ex1 v:=by obtain ⟨d,b,h1,_⟩:=h;exact h1.ex
theorem IsR.quiet {k:Nat} {v:V} {z:Int} (h:IsR k v z):AM.quiet v=true:=by obtain ⟨d,b,h1,_⟩:=h;exact h1.quiet
theorem same_spec {k l:Nat} {v w:V} {x y:Int} (ha:IsI k v x) (hb:IsR l w y) (hk:k≤90000) (hl:l≤90000):Gives 17 [v,w] fun r=>r=.bool (decide (x=y)):=by
 have ha0:=ha
 have hb0:=hb
 obtain ⟨d,b,⟨⟨s,rfl,hs⟩,_⟩,_⟩:=ha
 obtain ⟨e,c,⟨⟨u,rfl,hu⟩,_⟩,_⟩:=hb
 refine gives_of tbl17 fun h Q hQ=>?_
 unfold rc17
 refine sRG ?_
 obtain ⟨_,hr1,t1,rfl,d1,g1',z1,_⟩:=string_spec ha0 hk ⟨h.rows,none,h.mods⟩
 obtain ⟨_,hr2,t2,rfl,d2,g2',z2,_⟩:=textR_spec hb0 hl ⟨h.rows,none,h.mods⟩
 refine ww_seq (ww_call (hr1.and hr2) (fun n hn k=>by simp -implicitDefEqProofs (disch:=omega) only [go_sem,reduceIte,Nat.reduceEqDiff,ldc_two L26,ldc_two L31,cld1 hn.1 ha0.ex ha0.quiet,cld1 hn.2 hb0.ex hb0.quiet,eq_str 9 false d1 d2];exact finD_ok (by kernel_rfl)) ?_)
 refine ww_ret (hQ _ _ (fin_tmpD (v:=.bool (decide (t1=t2))) sS (Ex1.bool _) (fun x hx=>by cases hx) rfl) ?_)
 congr 1
 by_cases hxy:x=y
 ·rw [decide_eq_true hxy,decide_eq_true (zOf_inj g1' g2' (by rw [z1,z2,hxy]))]
 ·rw [decide_eq_false hxy,decide_eq_false (fun e=>hxy (by rw [←z1,←z2,e]))]
end Go.AM.S
end
section
namespace Go.AM.S
open Go Go.AM Go.Proofs NumL
open _root_.Go.AM.G (R)
set_option maxRecDepth 100000
section
variable {P:Program} {C:Cfg} {call:CallF} {gl:Nat→Bool} {o:Oper} {t' tm:Tm} {loc:Lo} {hp:Hp} {j:V→Lo→Hp→R}
theorem gen_pair {d:Nat} {x y:Operand} {t e:TypeId} {k:IntKind} {n m:Nat} (hd:o.dst=some d) (ho:o.op=.buildSlice t 2 #[(0,x),(1,y)]) (ha:C.isArr t=true) (hg:gl d=false) (he:elemT P t=some e) (hl:layE P e=some (1,false))
  {k0:IntKind} {n0:Int} (hz:zeroV P e=some (.int k0 n0)) (hv:AM.opd (⟨t',loc,hp⟩:St).ρ x=.int k (.ofNat n)) (hw:AM.opd (⟨t',loc,hp⟩:St).ρ y=.int k (.ofNat m)) :
  gen P C call gl o t' tm loc hp j=j (.arr (.loc d ((lg loc d).1+1)) 0 2 (some 2) 1 false) (lp loc d ((lg loc d).1+1,.cells false (nl k [n,m]))) hp:=by
 refine gen_val (v:=.arr (.loc d ((lg loc d).1+1)) 0 2 (some 2) 1 false) (st:=⟨t',lp loc d ((lg loc d).1+1,.cells false (nl k [n,m])),hp⟩) hd ?_
 have hp1:locV P C gl (⟨t',loc,hp⟩:St).ρ (⟨t',loc,hp⟩:St).lc o=none:=by
  unfold locV
  simp only [ho,pureV,he,hl,hz,ha,Bool.not_true,Bool.false_and,cond_false,Option.map_none]
 unfold stepV
 rw [hp1]
 unfold stepG
 simp only [ho,hd,he,hl,hz,opds,List.map_cons,List.map_nil,hv,hw,exps,exp,exp1,V.live,V.noLoc,Bool.and_self,cond_true,ha,hg,addRow,cond_false,lc_lg,aset_lp]
 rfl
end
theorem pr21 (n m:Nat) (l:Lo) (h:Hp) (c:CallF) (t:Tm) (j:V→Lo→Hp→R):go2 Try.f21 21 4 5 11 14 (.int .u32 (.ofNat n)) (.int .u32 (.ofNat m)) c t l h j=j (.arr (.loc 15 ((lg l 15).1+1)) 0 2 (some 2) 1 false) (lp l 15 ((lg l 15).1+1,.cells false (nl .u32 [n,m]))) h :=
 gen_pair (C:=Cg) (gl:=Cg.glob 21) (call:=c) (tm:=t) (loc:=l) (hp:=h) (j:=j) (t':=pt (pt .lf 11 (.int .u32 (.ofNat n))) 14 (.int .u32 (.ofNat m))) (k:=.u32) (n:=n) (m:=m) (o:=opA Try.f21 4 5) (d:=15) (x:=.tmp 11) (y:=.tmp 14) (t:=24) (e:=86) (by kernel_rfl) (by kernel_rfl) (by kernel_rfl) (by kernel_rfl) (by kernel_rfl) (by kernel_rfl) (show zeroV Pg 86=some (.int .u32 (.ofNat 0)) by kernel_rfl) (by rw [opd_gt,gt_pt,if_neg (by decide),gt_pt,if_pos rfl]) (by rw [opd_gt,gt_pt,if_pos rfl])
theorem tbl21:tbl 21=some ⟨rc21,[.cell 2 26]⟩:=by kernel_rfl
theorem wrap_u64_int' (n:Int):F.wrapI .u64 n=.ofNat (n % 18446744073709551616).toNat:=by
 rw [F.wrapI_eq]
 have h:0≤n % 18446744073709551616:=Int.emod_nonneg _ (by decide)
 show n % 18446744073709551616=_
 exact (Int.toNat_of_nonneg h).symm
theorem wrap_u64_negS {n:Nat} (h:n<18446744073709551616):F.wrapI .u64 (.negSucc n)=.ofNat (18446744073709551615 - n):=by
 rw [wrap_u64_int']
 have e:((Int.negSucc n) % 18446744073709551616).toNat=18446744073709551615 - n:=by omega
 rw [e]
theorem un_neg64 {m:Nat} (h0:0<m) (h:m≤18446744073709551616):G.un .neg (.int .u64 (.ofNat m))=some (.int .u64 (.ofNat (18446744073709551616 - m))):=by
 show some (V.int .u64 (F.wrapI .u64 (Int.sub 0 (.ofNat m))))=_
 rw [wrap_u64_int']
 have e:(Int.sub 0 (.ofNat m) % 18446744073709551616).toNat=18446744073709551616 - m:=by
  show ((0 - (m:Int)) % 18446744073709551616).toNat=_
  omega
 rw [e]
theorem i_lss_neg (k:IntKind) (m n:Nat):G.int2 .lss k (.negSucc m) (.ofNat n)=some (.bool true):=rfl
theorem of_spec {z:Int} (h1:-9223372036854775808≤z) (h2:z≤9223372036854775807):Gives 21 [.int .i64 z] fun r=>IsI 2 r z:=by
 refine gives_of tbl21 fun h Q hQ=>?_
 unfold rc21
 refine sR ?_
 have hab:z.natAbs≤9223372036854775808:=by omega
 have neg:G.int2 .lss .i64 z (.ofNat 0)=some (.bool (decide (z<0))):=by
  cases z with
  | ofNat n=>rw [i_lss,decide_eq_false (Nat.not_lt_zero n),decide_eq_false (show ¬(Int.ofNat n<0) from Int.not_lt.2 (Int.natCast_nonneg n))]
  | negSucc n=>rw [i_lss_neg,decide_eq_true (Int.negSucc_lt_zero n)]
 refine ww_joinX (fun s=>gt s.tm 3=.int .u64 (.ofNat (if z<0 then 18446744073709551616 - z.natAbs else z.natAbs))∧gt s.tm 0=.int .i64 z∧gt s.tm 2=.ptr (.loc 2 1) 0∧lg s.loc 2=(1,.cells false [.nils,.bool false])∧lg s.loc 15=(0,.gone)∧s.hp=⟨h.rows,none,h.mods⟩) ?_ (fun s ⟨a3,a0,a2,al,al5,ah⟩=>?_)
 ·cases z with
  | ofNat n =>
   have hn2:n≤9223372036854775807:=Int.ofNat_le.1 h2
   refine sEG ?_
   exact ⟨by rw [if_neg (show ¬(Int.ofNat n<0) from Int.not_lt.2 (Int.natCast_nonneg n))];exact (by simp -implicitDefEqProofs (disch:=omega) only [go_sem,reduceIte,Nat.reduceEqDiff,Int.natAbs_natCast,show (Int.ofNat n).natAbs=n from rfl]),sSG,sS,sS,sS,rfl⟩
  | negSucc n =>
   refine ww_reg (fun n k=>by simp -implicitDefEqProofs (disch:=omega) only [go_sem,reduceIte,Nat.reduceEqDiff,gt_start,List.getD_cons_zero,List.getD_cons_succ,wrap_u64_negS];rfl) ?_
   exact ⟨by rw [if_pos (by omega),show 18446744073709551616 - (Int.negSucc n).natAbs=18446744073709551615 - n by omega];exact sS,sSG,sS,sS,sS,rfl⟩
 refine ww_join (M:=fun s=>gt s.tm 3=.int .u64 (.ofNat z.natAbs)∧gt s.tm 0=.int .i64 z∧gt s.tm 2=.ptr (.loc 2 1) 0∧lg s.loc 2=(1,.cells false [.nils,.bool false])∧lg s.loc 15=(0,.gone)∧s.hp=⟨h.rows,none,h.mods⟩) ?_ (fun s2 ⟨b3,b0,b2,bl,bl5,bh⟩=>?_)
 ·refine ww_seq (ww_reg (fun n k=>by simp -implicitDefEqProofs (disch:=omega) only [go_sem,reduceIte,Nat.reduceEqDiff,a0,neg];rfl) ?_)
  refine ww_if (by simp only [gt_pt,reduceIte];rfl) (fun hz=>?_) (fun hz=>ww_skip ?_)
  ·rw [if_pos hz] at a3
   refine ww_reg (fun n k=>by simp -implicitDefEqProofs (disch:=omega) only [go_sem,reduceIte,Nat.reduceEqDiff,a3,un_neg64];rfl) ?_
   exact ⟨(by simp -implicitDefEqProofs (disch:=omega) only [go_sem,reduceIte,Nat.reduceEqDiff,Nat.sub_sub_self]),(sS1 a0),(sS1 a2),(by simp -implicitDefEqProofs (disch:=omega) only [go_sem,reduceIte,Nat.reduceEqDiff,al]),(sS1 al5),ah⟩
  ·rw [if_neg hz] at a3
   exact ⟨(sS1 a3),(sS1 a0),(sS1 a2),(by simp -implicitDefEqProofs (disch:=omega) only [go_sem,reduceIte,Nat.reduceEqDiff,al]),(sS1 al5),ah⟩
 ·have hq1:z.natAbs % 4294967296<4294967296:=Nat.mod_lt _ (by decide)
  have hq2:z.natAbs / 4294967296<4294967296:=by omega
  have hdg:Dg B [z.natAbs % 4294967296,z.natAbs / 4294967296]:=by
   intro x hx
   simp at hx
   rcases hx with rfl | rfl
   ·exact hq1
   ·exact hq2
  obtain ⟨r,hr,d,hw,ht⟩:=made_spec (va:=.slice none false 1 (nl .u32 [z.natAbs % 4294967296,z.natAbs / 4294967296])) (a:=[z.natAbs % 4294967296,z.natAbs / 4294967296]) (.inl ⟨false,rfl⟩) hdg (by simp) (decide (z<0)) ⟨h.rows,none,h.mods⟩
  have hw0:=hw
  obtain ⟨⟨x,rfl,hx⟩,_⟩:=hw
  refine ww_seq (ww_call (hr) (fun n hn k=>by simp -implicitDefEqProofs (disch:=omega) only [go_sem,reduceIte,Nat.reduceEqDiff,b0,b2,b3,bh,bl,bl5,neg,wrap_u32_mod,Nat.mod_eq_of_lt hq2,Nat.reducePow,pr21,cl_arr2 (loc:=lp s2.loc 15 (1,.cells false (nl .u32 [z.natAbs % 4294967296,z.natAbs / 4294967296]))) (l:=[z.natAbs % 4294967296,z.natAbs / 4294967296]) (d:=15) (g:=1) (k:=.u32) (f0:=false) (n:=2) rfl (by rw [lg_lp,if_pos rfl]) hn (Ex1.bool _),stc_two N26 1 x (.bool (decide (z<0) && !d.isEmpty)) .nils (.bool false) _ hx.pl.ok rfl];rfl) ?_)
  refine ww_ret (hQ _ _ (fin_cell (x:=x) (y:=.bool (decide (z<0) && !d.isEmpty)) (f:=false) (d:=2) (g:=1) (by kernel_rfl) (sS1 b2) (by simp -implicitDefEqProofs (disch:=omega) only [go_sem,reduceIte,Nat.reduceEqDiff,bl]) hx.pl (Pl.bool _) rfl) ⟨d,_,hw0,?_,by have:=ht.len;simpa using this⟩)
  have e6:=ht.vl B
  have e7:vl B [z.natAbs % 4294967296,z.natAbs / 4294967296]=z.natAbs:=by
   show z.natAbs % 4294967296+4294967296*(z.natAbs / 4294967296+4294967296*0)=z.natAbs
   omega
  rw [e7] at e6
  unfold zv
  by_cases hz:z<0
  ·rw [decide_eq_true hz]
   cases d with
   | nil=>simp only [vl] at e6;omega
   | cons x0 l0=>simp only [List.isEmpty_cons,Bool.not_false,Bool.and_self,cond_true,e6];omega
  ·rw [decide_eq_false hz]
   simp only [Bool.false_and,cond_false,e6];omega
end Go.AM.S
end
section
namespace Go.AM.S
open Go Go.AM Go.Proofs NumL
open _root_.Go.AM.G (R)
set_option maxRecDepth 100000
end Go.AM.S
end
section
namespace Go.AM.S
open Go Go.AM Go.Proofs NumL
open _root_.Go.AM.G (R)
set_option maxRecDepth 100000
section
variable {P:Program} {C:Cfg} {call:CallF} {gl:Nat→Bool} {o:Oper} {t' tm:Tm} {loc:Lo} {hp:Hp} {j:V→Lo→Hp→R}
theorem gen_build2w {d x y:Nat} {t:TypeId} {f0 f1:Field} {z0 z1 v w w':V} (hww:w.weakB=w') (hd:o.dst=some d) (ho:o.op=.build t #[(0,.tmp x),(1,.tmp y)]) (hu:P.underlying t=some (.struct #[f0,f1])) (hz:zeroV P t=some (.agg [z0,z1]))
  (h0:f0.offset=0) (h1:f1.offset=1) (s0:szOf P f0.type=some 1) (s1:szOf P f1.type=some 1) (hxy:x≠y) (hv:Pl v) (hw:Pl w') :
  gen P C call gl o (pt (pt .lf x v) y w) tm loc hp j=j (.agg [v,w']) loc hp:=by
 have hx:gt (pt (pt .lf x v) y w) x=v:=by rw [gt_pt,if_neg (Ne.symm hxy),gt_pt,if_pos rfl]
 have hy:gt (pt (pt .lf x v) y w) y=w:=by rw [gt_pt,if_pos rfl]
 refine gen_val (v:=.agg [v,w']) (st:=⟨pt (pt .lf x v) y w,loc,hp⟩) hd ?_
 have i0:(P.info? f0.type).isSome=true:=by
  unfold szOf at s0
  cases h:P.info? f0.type with
  | none=>rw [h] at s0;simp at s0
  | some i=>rfl
 have i1:(P.info? f1.type).isSome=true:=by
  unfold szOf at s1
  cases h:P.info? f1.type with
  | none=>rw [h] at s1;simp at s1
  | some i=>rfl
 have e0:fieldOf P t 0=some f0:=by unfold fieldOf;rw [hu];rfl
 have e1:fieldOf P t 1=some f1:=by unfold fieldOf;rw [hu];rfl
 have hp1:locV P C gl (⟨pt (pt .lf x v) y w,loc,hp⟩:St).ρ (⟨pt (pt .lf x v) y w,loc,hp⟩:St).lc o=some (.agg [v,w'],none):=by
  unfold locV
  simp only [ho,pureV,hu,hz,V.live,Bool.true_and]
  have ea:(#[f0,f1]:Array Field).all (fun f=>(P.info? f.type).isSome)=true:=by simp [i0,i1]
  rw [ea]
  have c0:V.cells (.agg [z0,z1])=[z0,z1]:=rfl
  simp only [cond_true,fillP,e0,e1,opd_gt,hx,hy,hv.weak,hww,hv.plain,hw.plain,hv.cells,hw.cells,s0,s1,h0,h1,Option.getD_some,List.length_cons,List.length_nil,c0]
  rfl
 unfold stepV
 rw [hp1];rfl
theorem gen_twow {d x y:Nat} {t:TypeId} {z0 z1 v w w':V} (hww:w.weakB=w') (hd:o.dst=some d) (ho:o.op=.build t #[(0,.tmp x),(1,.tmp y)]) (h2:two P t=true) (hz:zeroV P t=some (.agg [z0,z1])) (hxy:x≠y) (hv:Pl v) (hw:Pl w') :
  gen P C call gl o (pt (pt .lf x v) y w) tm loc hp j=j (.agg [v,w']) loc hp:=by
 unfold two at h2
 split at h2
 ·rename_i fs hu
  split at h2
  ·rename_i f0 f1 hfs
   simp only [Bool.and_eq_true] at h2
   obtain ⟨⟨a0,a1⟩,a2⟩:=h2
   have e:fs = #[f0,f1]:=by apply Array.toList_inj.1;rw [hfs]
   subst e
   split at a2
   ·rename_i a b h3 h4
    simp only [Bool.and_eq_true] at a2
    have b1:a=1:=Nat.eq_of_beq_eq_true a2.1
    have b2:b=1:=Nat.eq_of_beq_eq_true a2.2
    subst b1;subst b2
    exact gen_build2w hww hd ho hu hz (Nat.eq_of_beq_eq_true a0) (Nat.eq_of_beq_eq_true a1) h3 h4 hxy hv hw
   ·simp at a2
  ·simp at h2
 ·simp at h2
end
theorem Tk.weak {loc:Lo} {d:Nat} {v:V} {k:IntKind} {l:List Nat} (h:Tk loc d v k l):∃ v',v.weakB=v'∧Sl k v' l:=by
 rcases h with ⟨rfl,rfl⟩ | ⟨_,g,rfl,_⟩
 ·exact ⟨.nils,rfl,.inr ⟨rfl,rfl⟩⟩
 ·exact ⟨.slice none false 1 (nl k l),rfl,.inl ⟨false,rfl⟩⟩
theorem bw22 {v w w':V} (hww:w.weakB=w') (hv:Pl v) (hw:Pl w') (c:CallF) (t:Tm) (l:Lo) (h:Hp) (j:V→Lo→Hp→R):go2 Try.f22 22 9 2 23 24 v w c t l h j=j (.agg [v,w']) l h :=
 gen_twow (C:=Cg) (gl:=Cg.glob 22) (call:=c) (o:=opA Try.f22 9 2) hww (d:=25) (t:=31) (by kernel_rfl) (by kernel_rfl) (by kernel_rfl) (show zeroV Pg 31=some (.agg [(.bool false),.nils]) by kernel_rfl) (by decide) hv hw
theorem tbl22:tbl 22=some ⟨rc22,[.cell 2 31]⟩:=by kernel_rfl
theorem ofR_spec {z:Int} (h1:-9223372036854775808≤z) (h2:z≤9223372036854775807):Gives 22 [.int .i64 z] fun r=>IsR 5 r z:=by
 refine gives_of tbl22 fun h Q hQ=>?_
 unfold rc22
 refine sR ?_
 have hab:z.natAbs≤9223372036854775808:=by omega
 have neg:G.int2 .lss .i64 z (.ofNat 0)=some (.bool (decide (z<0))):=by
  cases z with
  | ofNat n=>rw [i_lss,decide_eq_false (Nat.not_lt_zero n),decide_eq_false (show ¬(Int.ofNat n<0) from Int.not_lt.2 (Int.natCast_nonneg n))]
  | negSucc n=>rw [i_lss_neg,decide_eq_true (Int.negSucc_lt_zero n)]
 refine ww_seq (ww_reg (fun n k=>by simp -implicitDefEqProofs (disch:=omega) only [go_sem,reduceIte,Nat.reduceEqDiff,gt_start,List.getD_cons_zero,List.getD_cons_succ,neg];rfl) ?_)
 refine ww_joinX (fun s=>gt s.tm 4=.int .u64 (.ofNat (if z<0 then 18446744073709551616 - z.natAbs else z.natAbs))∧gt s.tm 3=.bool (decide (z<0))∧gt s.tm 2=.ptr (.loc 2 1) 0∧lg s.loc 2=(1,.cells false [.bool false,.nils])∧s.hp=⟨h.rows,none,h.mods⟩) ?_ (fun s ⟨a4,a3,a2,al,ah⟩=>?_)
 ·cases z with
  | ofNat n =>
   have hn2:n≤9223372036854775807:=Int.ofNat_le.1 h2
   refine sEG ?_
   exact ⟨by rw [if_neg (show ¬(Int.ofNat n<0) from Int.not_lt.2 (Int.natCast_nonneg n))];exact (by simp -implicitDefEqProofs (disch:=omega) only [go_sem,reduceIte,Nat.reduceEqDiff,show (Int.ofNat n).natAbs=n from rfl]),sS,sS,sS,rfl⟩
  | negSucc n =>
   refine ww_reg (fun n k=>by simp -implicitDefEqProofs (disch:=omega) only [go_sem,reduceIte,Nat.reduceEqDiff,gt_start,List.getD_cons_zero,List.getD_cons_succ,wrap_u64_negS];rfl) ?_
   exact ⟨by rw [if_pos (by omega),show 18446744073709551616 - (Int.negSucc n).natAbs=18446744073709551615 - n by omega];exact sS,sS,sS,sS,rfl⟩
 refine ww_join (M:=fun s=>gt s.tm 4=.int .u64 (.ofNat z.natAbs)∧gt s.tm 3=.bool (decide (z<0))∧gt s.tm 2=.ptr (.loc 2 1) 0∧lg s.loc 2=(1,.cells false [.bool false,.nils])∧s.hp=⟨h.rows,none,h.mods⟩) ?_ (fun s2 ⟨b4,b3,b2,bl,bh⟩=>?_)
 ·refine sR1 a3 ?_
  refine ww_if (by simp only [gt_pt,reduceIte];rfl) (fun hz=>?_) (fun hz=>ww_skip ?_)
  ·rw [if_pos hz] at a4
   refine ww_reg (fun n k=>by simp -implicitDefEqProofs (disch:=omega) only [go_sem,reduceIte,Nat.reduceEqDiff,a4,un_neg64];rfl) ?_
   exact ⟨(by simp -implicitDefEqProofs (disch:=omega) only [go_sem,reduceIte,Nat.reduceEqDiff,Nat.sub_sub_self]),(sS1 a3),(sS1 a2),(by simp -implicitDefEqProofs (disch:=omega) only [go_sem,reduceIte,Nat.reduceEqDiff,al]),ah⟩
  ·rw [if_neg hz] at a4
   exact ⟨(sS1 a4),(sS1 a3),(sS1 a2),(by simp -implicitDefEqProofs (disch:=omega) only [go_sem,reduceIte,Nat.reduceEqDiff,al]),ah⟩
 refine sR ?_
 refine ww_join (M:=fun s=>∃ v5 out,gt s.tm 5=v5∧Tk s.loc 20 v5 .i64 out∧Dg 10000 out∧Cn out∧vl 10000 out=z.natAbs∧out.length≤5∧gt s.tm 3=.bool (decide (z<0))∧gt s.tm 2=.ptr (.loc 2 1) 0∧lg s.loc 2=(1,.cells false [.bool false,.nils])∧s.hp=⟨h.rows,none,h.mods⟩) ?_ (fun s3 ⟨v5,out,c5,ctk,cdg,ccn,cvl,clen,c3,c2,cl2,ch⟩=>?_)
 ·refine ww_for (fun m s=>∃ v5 out,gt s.tm 4=.int .u64 (.ofNat m)∧gt s.tm 5=v5∧Tk s.loc 20 v5 .i64 out∧Dg 10000 out∧(m=0→Cn out)∧vl 10000 out+10000 ^ out.length*m=z.natAbs∧out.length≤5∧gt s.tm 3=.bool (decide (z<0))∧gt s.tm 2=.ptr (.loc 2 1) 0∧lg s.loc 2=(1,.cells false [.bool false,.nils])∧s.hp=⟨h.rows,none,h.mods⟩) z.natAbs ⟨.nils,[],(sS1 b4),sS,.inl ⟨rfl,rfl⟩,Dg.nil _,fun _ i hi=>by simp at hi,by simp [vl],by simp,(sS1 b3),(sS1 b2),(by simp -implicitDefEqProofs (disch:=omega) only [go_sem,reduceIte,Nat.reduceEqDiff,bl]),bh⟩ ?_
  intro m s ⟨v5,out,c4,c5,ctk,cdg,ccn,cvl,clen,c3,c2,cl2,ch⟩
  have hm64:m<18446744073709551616:=by
   have:m≤10000 ^ out.length*m:=Nat.le_mul_of_pos_left m (Nat.pow_pos (by decide))
   omega
  refine sQ1 c4 ?_
  refine ww_if (by simp only [gt_pt,reduceIte];rfl) (fun hm0=>ww_skip ?_) (fun hm0=>ww_exit ?_)
  ·have hlt:out.length<5:=by
    have e1:=Nat.le_mul_of_pos_right (10000 ^ out.length) hm0
    have e2:(10000:Nat) ^ 5=100000000000000000000:=by decide
    exact pow_lt_inv (c:=10000) (by decide) (by omega)
   have hd:m % 10000<10000:=Nat.mod_lt _ (by decide)
   refine ww_block ?_
   obtain ⟨v6,l6,happ,htk6,hfr6⟩:=a22_7_5 [m % 10000] none true ctk (by simp) (by simp;omega)
   refine ww_seq (ww_reg (fun n k=>by simp -implicitDefEqProofs (disch:=omega) only [go_sem,reduceIte,Nat.reduceEqDiff,c4,c5,bs29,happ];rfl) ?_)
   refine sE1 c4 ?_
   refine ⟨m / 10000,Nat.div_lt_self hm0 (by decide),v6,out++[m % 10000],sS,sS,htk6,cdg.snoc hd,?_,?_,by simp;omega,(sS1 c3),(sS1 c2),by rw [hfr6 2 (by decide)];exact cl2,ch⟩
   ·intro e i hi
    have:i=(out++[m % 10000]).length - 1:=by omega
    rw [this,getD_last_snoc]
    omega
   ·rw [vl_append,vl_one,List.length_append,List.length_singleton,Nat.pow_succ,←cvl,Nat.mul_assoc,Nat.add_assoc,←Nat.mul_add,Nat.mod_add_div]
  ·rw [if_pos rfl]
   have em:m=0:=by omega
   subst em
   exact ⟨v5,out,(sS1 c5),ctk,cdg,ccn rfl,by simpa using cvl,clen,(sS1 c3),(sS1 c2),cl2,ch⟩
 ·obtain ⟨v6,hwk,hsl⟩:=ctk.weak
  refine ww_seq (ww_reg (fun n k=>by simp -implicitDefEqProofs (disch:=omega) only [go_sem,reduceIte,Nat.reduceEqDiff,c2,c3,c5,cl2,bw22 hwk (Pl.bool (decide (z<0))) hsl.pl,stc_two N31 1 (.bool (decide (z<0))) v6 (.bool false) .nils _ rfl hsl.pl.ok];rfl) ?_)
  refine ww_ret (hQ _ _ (fin_cell (x:=.bool (decide (z<0))) (y:=v6) (f:=false) (d:=2) (g:=1) (by kernel_rfl) (sS1 c2) sS (Pl.bool _) hsl.pl (by rw [ch])) ⟨out,decide (z<0),⟨⟨v6,rfl,hsl⟩,cdg,ccn,fun e=>?_⟩,?_,clen⟩)
  ·subst e
   simp only [vl] at cvl
   exact decide_eq_false (by omega)
  ·unfold zr
   rw [cvl]
   by_cases hz:z<0
   ·rw [decide_eq_true hz];simp only [cond_true];omega
   ·rw [decide_eq_false hz];simp only [cond_false];omega
end Go.AM.S
end
section
namespace Go.AM.S
open Go Go.AM Go.Proofs NumL
open _root_.Go.AM.G (R)
set_option maxRecDepth 100000
theorem tbl74:tbl 74=some ⟨rc74,[.tmp 4]⟩:=by kernel_rfl
theorem tbl76:tbl 76=some ⟨rc76,[.tmp 4]⟩:=by kernel_rfl
theorem tbl75:tbl 75=some ⟨rc75,[.tmp 4]⟩:=by kernel_rfl
theorem plusR_step {D:Nat} {out:List Nat} {i n x y d c p q:Nat} (hl:out.length=i) (hv:vl D out+D ^ i*n=p+q) (he:n+x+y=d+D*c):vl D (out++[d])+D ^ (i+1)*c=(p+D ^ i*x)+(q+D ^ i*y):=by
 rw [vl_append,vl_one,hl,Nat.pow_succ,Nat.mul_assoc]
 have h1:D ^ i*(n+x+y)=D ^ i*(d+D*c):=by rw [he]
 simp only [Nat.mul_add] at h1
 omega
theorem plusR_spec {va vb:V} {a b:List Nat} (ha:Sl .i64 va a) (hb:Sl .i64 vb b) (da:Dg 10000 a) (db:Dg 10000 b) (la:a.length≤1000000) (lb:b.length≤1000000) :
  Gives 74 [va,vb] fun r=>∃ c,Sl .i64 r c∧Dg 10000 c∧vl 10000 c=vl 10000 a+vl 10000 b∧c.length≤max a.length b.length+1:=by
 refine gives_of tbl74 fun h Q hQ=>?_
 unfold rc74
 refine sR ?_
 refine sR ?_
 refine sR ?_
 refine ww_join (M:=fun s=>∃ out,Tk s.loc 48 (gt s.tm 5) .i64 out∧Dg 10000 out∧vl 10000 out=vl 10000 a+vl 10000 b∧out.length≤max a.length b.length+1∧s.hp=⟨h.rows,none,h.mods⟩) ?_ (fun s ⟨out,htk,hdg,hv,hlen,hhp⟩=>?_)
 ·refine sR ?_
  refine ww_for (fun m s=>∃ i n out,m+i=max a.length b.length+1∧gt s.tm 0=va∧gt s.tm 1=vb∧gt s.tm 7=.int .i64 (.ofNat i)∧gt s.tm 6=.int .i64 (.ofNat n)∧Tk s.loc 48 (gt s.tm 5) .i64 out∧out.length=i∧Dg 10000 out∧n≤1∧(i≤max a.length b.length∨n=0)∧vl 10000 out+10000 ^ i*n=vl 10000 (a.take i)+vl 10000 (b.take i)∧s.hp=⟨h.rows,none,h.mods⟩) (max a.length b.length+1) ⟨0,0,[],rfl,sSG,sSG,sS,sS,.inl ⟨rfl,sS⟩,rfl,Dg.nil _,by decide,.inl (Nat.zero_le _),by simp [vl],rfl⟩ ?_
  intro m s ⟨i,n,out,hm,h0,h1,h7,h6,htk,hlen,hdg,hn1,hin,hv,hhp⟩
  refine ww_seq (ww_join (M:=fun s'=>gt s'.tm 21=.bool (decide (i<a.length∨i<b.length∨0<n))∧Kp [0,1,5,6,7] s.tm s'.tm∧s'.loc=s.loc∧s'.hp=s.hp) ?_ (fun s' ⟨k21,kk,kl,kh⟩=>?_))
  ·by_cases c1:i<a.length
   ·refine ww_reg (fun n k=>by simp -implicitDefEqProofs (disch:=omega) only [go_sem,reduceIte,Nat.reduceEqDiff,h0,h7,len_sl ha,decide_eq_true c1];rfl) ?_
    exact ⟨by rw [decide_eq_true (.inl c1)];exact sS,(by (try dsimp only);repeat (first | with_reducible exact Kp_refl _ _ | with_reducible refine Kp_pt (by decide) ?_)),rfl,rfl⟩
   ·by_cases c2:i<b.length
    ·refine ww_reg (fun n k=>by simp -implicitDefEqProofs (disch:=omega) only [go_sem,reduceIte,Nat.reduceEqDiff,h0,h1,h7,len_sl ha,len_sl hb,decide_eq_false c1,decide_eq_true c2];rfl) ?_
     exact ⟨by rw [decide_eq_true (.inr (.inl c2))];exact sS,(by (try dsimp only);repeat (first | with_reducible exact Kp_refl _ _ | with_reducible refine Kp_pt (by decide) ?_)),rfl,rfl⟩
    ·refine ww_reg (fun n k=>by simp -implicitDefEqProofs (disch:=omega) only [go_sem,reduceIte,Nat.reduceEqDiff,h0,h1,h6,h7,len_sl ha,len_sl hb,decide_eq_false c1,decide_eq_false c2];rfl) ?_
     exact ⟨by rw [show decide (i<a.length∨i<b.length∨0<n)=decide (0<n) by congr 1;apply propext;omega];exact sS,(by (try dsimp only);repeat (first | with_reducible exact Kp_refl _ _ | with_reducible refine Kp_pt (by decide) ?_)),rfl,rfl⟩
  ·have k0:=(kk 0 (by decide)).trans h0;have k1:=(kk 1 (by decide)).trans h1;have k6:=(kk 6 (by decide)).trans h6;have k7:=(kk 7 (by decide)).trans h7;have k5:=kk 5 (by decide)
   refine ww_if k21 (fun hc=>ww_skip ?_) (fun hc=>ww_exit ?_)
   ·have hx:a.getD i 0<10000:=da.get (by decide) i
    have hy:b.getD i 0<10000:=db.get (by decide) i
    obtain ⟨v5,l5,happ,htk5,hfr⟩:=a74_10_4 [(n+a.getD i 0+b.getD i 0) % 10000] none true htk (by simp) (by simp;omega)
    refine ww_seq (ww_block ?_)
    refine ww_join (M:=fun s1=>gt s1.tm 6=.int .i64 (.ofNat (n+a.getD i 0))∧Kp [0,1,5,7] s'.tm s1.tm∧s1.loc=s.loc∧s1.hp=s.hp) ?_ (fun s1 ⟨a6,ak,al,ah⟩=>?_)
    ·refine ww_seq (ww_reg (fun n k=>by simp -implicitDefEqProofs (disch:=omega) only [go_sem,reduceIte,Nat.reduceEqDiff,k0,k7,len_sl ha];rfl) ?_)
     refine ww_if (by simp only [gt_pt,reduceIte];rfl) (fun hia=>?_) (fun hia=>ww_skip ?_)
     ·refine ww_reg (fun n k=>by simp -implicitDefEqProofs (disch:=omega) only [go_sem,reduceIte,Nat.reduceEqDiff,k0,k6,k7,ia29 ha];rfl) ?_
      exact ⟨sS,(by (try dsimp only);repeat (first | with_reducible exact Kp_refl _ _ | with_reducible refine Kp_pt (by decide) ?_)),kl,kh⟩
     ·exact ⟨(by simp -implicitDefEqProofs (disch:=omega) only [go_sem,reduceIte,Nat.reduceEqDiff,k6,getD_ge hia,Nat.add_zero]),(by (try dsimp only);repeat (first | with_reducible exact Kp_refl _ _ | with_reducible refine Kp_pt (by decide) ?_)),kl,kh⟩
    have a1:=(ak 1 (by decide)).trans k1;have a7:=(ak 7 (by decide)).trans k7;have a5:=(ak 5 (by decide)).trans k5
    refine ww_join (M:=fun s2=>gt s2.tm 6=.int .i64 (.ofNat (n+a.getD i 0+b.getD i 0))∧Kp [0,1,5,7] s1.tm s2.tm∧s2.loc=s.loc∧s2.hp=s.hp) ?_ (fun s2 ⟨b6,bk,bl,bh⟩=>?_)
    ·refine ww_seq (ww_reg (fun n k=>by simp -implicitDefEqProofs (disch:=omega) only [go_sem,reduceIte,Nat.reduceEqDiff,a1,a7,len_sl hb];rfl) ?_)
     refine ww_if (by simp only [gt_pt,reduceIte];rfl) (fun hia=>?_) (fun hia=>ww_skip ?_)
     ·refine ww_reg (fun n k=>by simp -implicitDefEqProofs (disch:=omega) only [go_sem,reduceIte,Nat.reduceEqDiff,a1,a6,a7,ia29 hb];rfl) ?_
      exact ⟨sS,(by (try dsimp only);repeat (first | with_reducible exact Kp_refl _ _ | with_reducible refine Kp_pt (by decide) ?_)),al,ah⟩
     ·exact ⟨(by simp -implicitDefEqProofs (disch:=omega) only [go_sem,reduceIte,Nat.reduceEqDiff,a6,getD_ge hia,Nat.add_zero]),(by (try dsimp only);repeat (first | with_reducible exact Kp_refl _ _ | with_reducible refine Kp_pt (by decide) ?_)),al,ah⟩
    have b5:=(bk 5 (by decide)).trans a5;have b7:=(bk 7 (by decide)).trans a7
    refine ww_seq (ww_reg (fun n k=>by simp -implicitDefEqProofs (disch:=omega) only [go_sem,reduceIte,Nat.reduceEqDiff,b6,b5,bl,bs29,happ];rfl) ?_)
    refine sE1 b6 ?_
    refine sE1 b7 ?_
    refine ⟨m - 1,by omega,i+1,(n+a.getD i 0+b.getD i 0) / 10000,out++[(n+a.getD i 0+b.getD i 0) % 10000],by omega,(by simp -implicitDefEqProofs (disch:=omega) only [go_sem,reduceIte,Nat.reduceEqDiff,bk 0 (by decide),ak 0 (by decide),k0]),(by simp -implicitDefEqProofs (disch:=omega) only [go_sem,reduceIte,Nat.reduceEqDiff,bk 1 (by decide),a1]),sS,sS,?_,by simp [hlen],hdg.snoc (Nat.mod_lt _ (by decide)),by omega,?_,?_,bh.trans hhp⟩
    ·have e:∀ x y,gt (pt (pt (pt s2.tm 5 v5) 6 x) 7 y) 5=v5:=fun x y=>sS
     rw [e];exact htk5
    ·rcases Nat.lt_or_ge i (max a.length b.length) with q | q
     ·exact .inl q
     ·right
      rw [getD_ge (by omega),getD_ge (by omega)]
      omega
    ·rw [vl_take_next,vl_take_next]
     exact plusR_step hlen hv (by omega)
   ·rw [if_pos rfl]
    refine ⟨out,by rw [kl,k5];exact htk,hdg,?_,by omega,kh.trans hhp⟩
    have en:n=0:=by omega
    subst en
    rw [List.take_of_length_le (by omega),List.take_of_length_le (by omega)] at hv
    simpa using hv
 ·obtain ⟨v',hsl,hex⟩:=htk.out
  refine sR ?_
  exact ww_ret (hQ _ _ (fin_tmp (v:=gt s.tm 5) sS (hex _) (by rw [hhp]) hsl.noRefs) ⟨out,hsl,hdg,hv,hlen⟩)
end Go.AM.S
end
section
namespace Go.AM.S
open Go Go.AM Go.Proofs NumL
open _root_.Go.AM.G (R)
set_option maxRecDepth 100000
theorem wrapZ {z:Int} (h1:-9223372036854775808≤z) (h2:z≤9223372036854775807):F.wrapI .i64 z=z:=by
 rw [F.wrapI_eq]
 show (if (true&&decide (z % 18446744073709551616 ≥ 9223372036854775808))=true then z % 18446744073709551616 - 18446744073709551616 else z % 18446744073709551616)=_
 by_cases h:z % 18446744073709551616 ≥ 9223372036854775808
 ·rw [decide_eq_true h]
  show z % 18446744073709551616 - 18446744073709551616=z
  omega
 ·rw [decide_eq_false h]
  show z % 18446744073709551616=z
  omega
theorem iZ_sub {x y:Int} (h1:-9223372036854775808≤x - y) (h2:x - y≤9223372036854775807):G.int2 .sub .i64 x y=some (.int .i64 (x - y)):=by
 show some (V.int .i64 (F.wrapI .i64 (x - y)))=_
 rw [wrapZ h1 h2]
theorem iZ_add {x y:Int} (h1:-9223372036854775808≤x+y) (h2:x+y≤9223372036854775807):G.int2 .add .i64 x y=some (.int .i64 (x+y)):=by
 show some (V.int .i64 (F.wrapI .i64 (x+y)))=_
 rw [wrapZ h1 h2]
theorem iZ_lss (k:IntKind) (x y:Int):G.int2 .lss k x y=some (.bool (decide (x<y))):=by
 show some (V.bool (F.ltI x y))=_
 rw [F.ltI_eq]
theorem minusR_step {D:Nat} {out:List Nat} {i n x y d c p q:Nat} (hl:out.length=i) (hv:p+D ^ i*n=vl D out+q) (he:x+D*c=d+y+n):(p+D ^ i*x)+D ^ (i+1)*c=vl D (out++[d])+(q+D ^ i*y):=by
 rw [vl_append,vl_one,hl,Nat.pow_succ,Nat.mul_assoc]
 have h1:D ^ i*(x+D*c)=D ^ i*(d+y+n):=by rw [he]
 simp only [Nat.mul_add] at h1
 omega
theorem minusR_spec {va vb:V} {a b:List Nat} (ha:Sl .i64 va a) (hb:Sl .i64 vb b) (da:Dg 10000 a) (db:Dg 10000 b) (la:a.length≤1000000) (lb:b.length≤a.length) (hle:vl 10000 b≤vl 10000 a) :
  Gives 76 [va,vb] fun r=>∃ c,Sl .i64 r c∧Dg 10000 c∧vl 10000 c+vl 10000 b=vl 10000 a∧c.length≤a.length:=by
 refine gives_of tbl76 fun h Q hQ=>?_
 unfold rc76
 refine sR ?_
 refine sR ?_
 refine sR ?_
 refine ww_join (M:=fun s=>∃ out,Tk s.loc 38 (gt s.tm 5) .i64 out∧Dg 10000 out∧vl 10000 out+vl 10000 b=vl 10000 a∧out.length≤a.length∧s.hp=⟨h.rows,none,h.mods⟩) ?_ (fun s ⟨out,htk,hdg,hv,hlen,hhp⟩=>?_)
 ·refine sR ?_
  refine ww_for (fun m s=>∃ i w out,m+i=a.length∧gt s.tm 0=va∧gt s.tm 1=vb∧gt s.tm 7=.int .i64 (.ofNat i)∧gt s.tm 6=.int .i64 (.ofNat w)∧Tk s.loc 38 (gt s.tm 5) .i64 out∧out.length=i∧Dg 10000 out∧w≤1∧vl 10000 (a.take i)+10000 ^ i*w=vl 10000 out+vl 10000 (b.take i)∧s.hp=⟨h.rows,none,h.mods⟩) a.length ⟨0,0,[],rfl,sSG,sSG,sS,sS,.inl ⟨rfl,sS⟩,rfl,Dg.nil _,by decide,by simp [vl],rfl⟩ ?_
  intro m s ⟨i,w,out,hm,h0,h1,h7,h6,htk,hlen,hdg,hn1,hv,hhp⟩
  refine ww_seq (ww_seq (ww_reg (fun n k=>by simp -implicitDefEqProofs (disch:=omega) only [go_sem,reduceIte,Nat.reduceEqDiff,h0,h7,len_sl ha];rfl) ?_))
  refine ww_if (by simp only [gt_pt,reduceIte];rfl) (fun hi=>ww_skip ?_) (fun hi=>ww_exit ?_)
  ·have hx:a.getD i 0<10000:=da.get (by decide) i
   have hy:b.getD i 0<10000:=db.get (by decide) i
   have s1:=iZ_sub (x:=Int.ofNat (a.getD i 0)) (y:=Int.ofNat w) (by show _≤((a.getD i 0:Nat):Int) - (w:Int);omega) (by show ((a.getD i 0:Nat):Int) - (w:Int)≤_;omega)
   have s2:=iZ_sub (x:=Int.ofNat (a.getD i 0) - Int.ofNat w) (y:=Int.ofNat (b.getD i 0)) (by show _≤((a.getD i 0:Nat):Int) - (w:Int) - ((b.getD i 0:Nat):Int);omega) (by show ((a.getD i 0:Nat):Int) - (w:Int) - ((b.getD i 0:Nat):Int)≤_;omega)
   have s3:=iZ_add (x:=Int.ofNat (a.getD i 0) - Int.ofNat w - Int.ofNat (b.getD i 0)) (y:=Int.ofNat 10000) (by show _≤((a.getD i 0:Nat):Int) - (w:Int) - ((b.getD i 0:Nat):Int)+10000;omega) (by show ((a.getD i 0:Nat):Int) - (w:Int) - ((b.getD i 0:Nat):Int)+10000≤_;omega)
   refine ww_seq (ww_block ?_)
   have s1':bin Pg .sub 3 false (.int .i64 (.ofNat (a.getD i 0))) (.int .i64 (.ofNat w))=some (.int .i64 (Int.ofNat (a.getD i 0) - Int.ofNat w)):=by rw [bin_n,s1]
   refine ww_seq (ww_reg (fun n k=>by simp -implicitDefEqProofs (disch:=omega) only [go_sem,reduceIte,Nat.reduceEqDiff,h0,h6,h7,ia29 ha,s1'];rfl) ?_)
   refine ww_join (M:=fun s1=>gt s1.tm 8=.int .i64 (Int.ofNat (a.getD i 0) - Int.ofNat w - Int.ofNat (b.getD i 0))∧Kp [0,1,5,7] s.tm s1.tm∧s1.loc=s.loc∧s1.hp=s.hp) ?_ (fun s1 ⟨a8,ak,al,ah⟩=>?_)
   ·refine ww_seq (ww_reg (fun n k=>by simp -implicitDefEqProofs (disch:=omega) only [go_sem,reduceIte,Nat.reduceEqDiff,h1,h7,len_sl hb];rfl) ?_)
    refine ww_if (by simp only [gt_pt,reduceIte];rfl) (fun hib=>?_) (fun hib=>ww_skip ?_)
    ·have s2':bin Pg .sub 3 false (.int .i64 (Int.ofNat (a.getD i 0) - Int.ofNat w)) (.int .i64 (.ofNat (b.getD i 0)))=some (.int .i64 (Int.ofNat (a.getD i 0) - Int.ofNat w - Int.ofNat (b.getD i 0))):=by rw [bin_n,s2]
     refine ww_reg (fun n k=>by simp -implicitDefEqProofs (disch:=omega) only [go_sem,reduceIte,Nat.reduceEqDiff,h1,h7,ia29 hb,s2'];rfl) ?_
     exact ⟨sS,(by (try dsimp only);repeat (first | with_reducible exact Kp_refl _ _ | with_reducible refine Kp_pt (by decide) ?_)),rfl,rfl⟩
    ·refine ⟨?_,(by (try dsimp only);repeat (first | with_reducible exact Kp_refl _ _ | with_reducible refine Kp_pt (by decide) ?_)),rfl,rfl⟩
     rw [getD_ge hib,show Int.ofNat (a.getD i 0) - Int.ofNat w - Int.ofNat 0=Int.ofNat (a.getD i 0) - Int.ofNat w from Int.sub_zero _]
     exact sS
   ·have a0:=(ak 0 (by decide)).trans h0;have a1:=(ak 1 (by decide)).trans h1;have a7:=(ak 7 (by decide)).trans h7;have a5:=ak 5 (by decide)
    refine sR ?_
    refine ww_join (M:=fun s2=>∃ d c,gt s2.tm 8=.int .i64 (.ofNat d)∧gt s2.tm 6=.int .i64 (.ofNat c)∧d<10000∧c≤1∧a.getD i 0+10000*c=d+b.getD i 0+w∧Kp [0,1,5,7] s1.tm s2.tm∧s2.loc=s.loc∧s2.hp=s.hp) ?_ (fun s2 ⟨d,c,b8,b6,hd,hc,heq,bk,bl,bh⟩=>?_)
    ·have cmp:bin Pg .lss 3 true (.int .i64 (Int.ofNat (a.getD i 0) - Int.ofNat w - Int.ofNat (b.getD i 0))) (.int .i64 (.ofNat 0))=some (.bool (decide (Int.ofNat (a.getD i 0) - Int.ofNat w - Int.ofNat (b.getD i 0)<Int.ofNat 0))):=by rw [bin_n,iZ_lss]
     refine ww_seq (ww_reg (fun n k=>by simp -implicitDefEqProofs (disch:=omega) only [go_sem,reduceIte,Nat.reduceEqDiff,a8,cmp];rfl) ?_)
     refine ww_if (by simp only [gt_pt,reduceIte];rfl) (fun hneg=>?_) (fun hneg=>ww_skip ?_)
     ·have hneg':((a.getD i 0:Nat):Int) - (w:Int) - ((b.getD i 0:Nat):Int)<0:=hneg
      have s3':bin Pg .add 3 true (.int .i64 (Int.ofNat (a.getD i 0) - Int.ofNat w - Int.ofNat (b.getD i 0))) (.int .i64 (.ofNat 10000))=some (.int .i64 (Int.ofNat (a.getD i 0) - Int.ofNat w - Int.ofNat (b.getD i 0)+Int.ofNat 10000)):=by rw [bin_n,s3]
      refine sE2 a8 s3' ?_
      refine ⟨a.getD i 0+10000 - w - b.getD i 0,1,?_,sS,by omega,by decide,by omega,(by (try dsimp only);repeat (first | with_reducible exact Kp_refl _ _ | with_reducible refine Kp_pt (by decide) ?_)),al,ah⟩
      have e:Int.ofNat (a.getD i 0) - Int.ofNat w - Int.ofNat (b.getD i 0)+Int.ofNat 10000=Int.ofNat (a.getD i 0+10000 - w - b.getD i 0):=by
       show ((a.getD i 0:Nat):Int) - (w:Int) - ((b.getD i 0:Nat):Int)+10000=((a.getD i 0+10000 - w - b.getD i 0:Nat):Int)
       omega
      rw [←e]
      exact sS
     ·have hneg':¬((a.getD i 0:Nat):Int) - (w:Int) - ((b.getD i 0:Nat):Int)<0:=hneg
      refine ⟨a.getD i 0 - w - b.getD i 0,0,?_,sS,by omega,by decide,by omega,(by (try dsimp only);repeat (first | with_reducible exact Kp_refl _ _ | with_reducible refine Kp_pt (by decide) ?_)),al,ah⟩
      have e:Int.ofNat (a.getD i 0) - Int.ofNat w - Int.ofNat (b.getD i 0)=Int.ofNat (a.getD i 0 - w - b.getD i 0):=by
       show ((a.getD i 0:Nat):Int) - (w:Int) - ((b.getD i 0:Nat):Int)=((a.getD i 0 - w - b.getD i 0:Nat):Int)
       omega
      rw [←e]
      exact (sS1 a8)
    ·have b5:=(bk 5 (by decide)).trans a5;have b7:=(bk 7 (by decide)).trans a7
     obtain ⟨v5,l5,happ,htk5,hfr⟩:=a76_12_3 [d] none true htk (by simp) (by simp;omega)
     refine ww_reg (fun n k=>by simp -implicitDefEqProofs (disch:=omega) only [go_sem,reduceIte,Nat.reduceEqDiff,b8,b5,bl,bs29,happ];rfl) ?_
     refine sE1 b7 ?_
     refine ⟨m - 1,by omega,i+1,c,out++[d],by omega,(by simp -implicitDefEqProofs (disch:=omega) only [go_sem,reduceIte,Nat.reduceEqDiff,bk 0 (by decide),a0]),(by simp -implicitDefEqProofs (disch:=omega) only [go_sem,reduceIte,Nat.reduceEqDiff,bk 1 (by decide),a1]),sS,(sS1 b6),?_,by simp [hlen],hdg.snoc hd,hc,?_,bh.trans hhp⟩
     ·have e:∀ y,gt (pt (pt s2.tm 5 v5) 7 y) 5=v5:=fun y=>sS
      rw [e];exact htk5
     ·rw [vl_take_next,vl_take_next]
      exact minusR_step hlen hv heq
  ·rw [if_pos rfl]
   have ei:i=a.length:=by omega
   have hout:vl 10000 (a.take i)+10000 ^ i*w=vl 10000 out+vl 10000 (b.take i):=hv
   rw [List.take_of_length_le (by omega),List.take_of_length_le (by omega)] at hout
   have hw0:w=0:=by
    have hlt:=vl_lt_of (B:=10000) (by decide) hdg (k:=i) (by omega)
    rcases Nat.eq_zero_or_pos w with q | q
    ·exact q
    ·exfalso
     have e1:w=1:=by omega
     subst e1
     omega
   subst hw0
   refine ⟨out,?_,hdg,by simpa using hout.symm,by omega,hhp⟩
   have e:∀ y,gt (pt s.tm 12 y) 5=gt s.tm 5:=fun y=>sS
   rw [e];exact htk
 ·obtain ⟨v',hsl,hex⟩:=htk.out
  refine sR ?_
  exact ww_ret (hQ _ _ (fin_tmp (v:=gt s.tm 5) sS (hex _) (by rw [hhp]) hsl.noRefs) ⟨out,hsl,hdg,hv,hlen⟩)
end Go.AM.S
end
section
namespace Go.AM.S
open Go Go.AM Go.Proofs NumL
open _root_.Go.AM.G (R)
set_option maxRecDepth 100000
theorem lessR_spec {va vb:V} {a b:List Nat} (ha:Sl .i64 va a) (hb:Sl .i64 vb b) (da:Dg 10000 a) (db:Dg 10000 b) (ca:Cn a) (cb:Cn b) (la:a.length≤1000000000) (lb:b.length≤1000000000) :
  Gives 75 [va,vb] fun r=>r=.int .i64 (cmpI (vl 10000 a) (vl 10000 b)):=by
 refine gives_of tbl75 fun h Q hQ=>?_
 have done:∀ (st:St) (z:Int),z=cmpI (vl 10000 a) (vl 10000 b)→gt st.tm 4=.int .i64 z→st.hp=⟨h.rows,none,h.mods⟩→Q st:=by
  intro st z e h4 hh
  exact hQ st _ (fin_tmpD h4 (Ex1.int _ _) (by rw [hh];exact fun x hx=>by cases hx) rfl) (by rw [e])
 unfold rc75
 refine sR ?_
 have hneq:∀ (x y:Nat),bin Pg .neq 3 false (.int .i64 (.ofNat x)) (.int .i64 (.ofNat y))=some (.bool (decide (x≠y))):=fun x y=>by rw [bin_n,i_neq]
 rcases Nat.lt_trichotomy a.length b.length with hl | hl | hl
 ·refine ww_seq (ww_seq (ww_reg (fun n k=>by simp -implicitDefEqProofs (disch:=omega) only [go_sem,reduceIte,Nat.reduceEqDiff,gt_start,List.getD_cons_zero,List.getD_cons_succ,len_sl ha,len_sl hb,hneq,decide_eq_true (show a.length≠b.length by omega)];rfl) ?_))
  refine ww_true sS ?_
  refine ww_seq (ww_seq (ww_reg (fun n k=>by simp -implicitDefEqProofs (disch:=omega) only [go_sem,reduceIte,Nat.reduceEqDiff,gt_start,List.getD_cons_zero,List.getD_cons_succ,len_sl ha,len_sl hb,d_true];rfl) ?_))
  refine ww_true sS ?_
  refine sR ?_
  refine ww_ret (done _ (.negSucc 0) ?_ sS rfl)
  unfold cmpI
  rw [if_pos (vl_lt_len (by decide) da cb hl)]
 ·refine ww_seq (ww_seq (ww_reg (fun n k=>by simp -implicitDefEqProofs (disch:=omega) only [go_sem,reduceIte,Nat.reduceEqDiff,gt_start,List.getD_cons_zero,List.getD_cons_succ,len_sl ha,len_sl hb,hneq,decide_eq_false (show ¬a.length≠b.length by omega)];rfl) ?_))
  refine ww_false sS (ww_skip ?_)
  refine ww_seq (ww_seq (ww_reg (fun n k=>by simp -implicitDefEqProofs (disch:=omega) only [go_sem,reduceIte,Nat.reduceEqDiff,gt_start,List.getD_cons_zero,List.getD_cons_succ,len_sl ha,i_dec];rfl) ?_))
  refine ww_for (fun m s=>m≤a.length∧gt s.tm 5=.int .i64 (dn m)∧a.drop m=b.drop m∧gt s.tm 0=va∧gt s.tm 1=vb∧s.hp=⟨h.rows,none,h.mods⟩) a.length ⟨Nat.le_refl _,sS,?_,sSG,sSG,rfl⟩ ?_
  ·rw [List.drop_eq_nil_of_le (Nat.le_refl _),List.drop_eq_nil_of_le (by omega)]
  intro m s ⟨hm,h5,he,h0,h1,hhp⟩
  cases m with
  | zero =>
   refine ww_seq (ww_seq (ww_reg (fun n k=>by simp -implicitDefEqProofs (disch:=omega) only [go_sem,reduceIte,Nat.reduceEqDiff,h5,dn];rfl) ?_))
   refine ww_false sS (ww_exit ?_)
   rw [if_pos rfl]
   refine sR ?_
   refine ww_ret (done _ (.ofNat 0) ?_ sS hhp)
   have e:a=b:=by simpa using he
   subst e
   simp [cmpI]
  | succ i =>
   have h5':gt s.tm 5=.int .i64 (.ofNat i):=h5
   refine ww_seq (ww_seq (ww_reg (fun n k=>by simp -implicitDefEqProofs (disch:=omega) only [go_sem,reduceIte,Nat.reduceEqDiff,h5',d_true];rfl) ?_))
   refine ww_true sS (ww_skip ?_)
   refine ww_seq (ww_block ?_)
   refine ww_seq (ww_seq (ww_reg (fun n k=>by simp -implicitDefEqProofs (disch:=omega) only [go_sem,reduceIte,Nat.reduceEqDiff,h0,h1,h5',ia29 ha,ia29 hb];rfl) ?_))
   refine ww_if (by simp only [gt_pt,reduceIte];rfl) (fun hx=>?_) (fun hx=>ww_skip ?_)
   ·refine sR ?_
    refine ww_ret (done _ (.negSucc 0) ?_ sS hhp)
    unfold cmpI
    rw [if_pos (vl_lt_at (by decide) da (by omega) (by omega) he hx)]
   ·refine ww_seq (ww_reg (fun n k=>by simp -implicitDefEqProofs (disch:=omega) only [go_sem,reduceIte,Nat.reduceEqDiff,h0,h1,h5',ia29 ha,ia29 hb];rfl) ?_)
    refine ww_if (by simp only [gt_pt,reduceIte];rfl) (fun hy=>?_) (fun hy=>ww_skip ?_)
    ·refine sR ?_
     refine ww_ret (done _ (.ofNat 1) ?_ sS hhp)
     have hlt:=vl_lt_at (B:=10000) (by decide) db (by omega) (by omega) he.symm hy
     unfold cmpI
     rw [if_neg (by omega),if_pos hlt]
    ·refine ww_reg (fun n k=>by simp -implicitDefEqProofs (disch:=omega) only [go_sem,reduceIte,Nat.reduceEqDiff,h5',i_dec];rfl) ?_
     refine ⟨i,by omega,by omega,sS,?_,(sS1 h0),(sS1 h1),hhp⟩
     rw [getD_drop a i,getD_drop b i,if_pos (by omega),if_pos (by omega),he]
     congr 1
     omega
 ·refine ww_seq (ww_seq (ww_reg (fun n k=>by simp -implicitDefEqProofs (disch:=omega) only [go_sem,reduceIte,Nat.reduceEqDiff,gt_start,List.getD_cons_zero,List.getD_cons_succ,len_sl ha,len_sl hb,hneq,decide_eq_true (show a.length≠b.length by omega)];rfl) ?_))
  refine ww_true sS ?_
  refine ww_seq (ww_seq (ww_reg (fun n k=>by simp -implicitDefEqProofs (disch:=omega) only [go_sem,reduceIte,Nat.reduceEqDiff,gt_start,List.getD_cons_zero,List.getD_cons_succ,len_sl ha,len_sl hb,d_false];rfl) ?_))
  refine ww_false sS (ww_skip ?_)
  refine sR ?_
  refine ww_ret (done _ (.ofNat 1) ?_ sS rfl)
  have hlt:=vl_lt_len (B:=10000) (by decide) db ca hl
  unfold cmpI
  rw [if_neg (by omega),if_pos hlt]
end Go.AM.S
end
section
namespace Go.AM.S
open Go Go.AM Go.Proofs NumL
open _root_.Go.AM.G (R)
set_option maxRecDepth 100000
theorem tbl26:tbl 26=some ⟨rc26,[.cell 4 31]⟩:=by kernel_rfl
theorem tbl28:tbl 28=some ⟨rc28,[.cell 4 31]⟩:=by kernel_rfl
theorem tbl32:tbl 32=some ⟨rc32,[.cell 2 31]⟩:=by kernel_rfl
theorem zr_same {d e f:List Nat} {b:Bool} (hf:vl 10000 f=vl 10000 d+vl 10000 e):zr f (b && !f.isEmpty)=zr d b+zr e b:=by
 cases b with
 | false=>simp only [zr,Bool.false_and,cond_false];omega
 | true =>
  cases f with
  | nil=>simp only [vl] at hf;simp only [zr,Bool.true_and,List.isEmpty_nil,Bool.not_true,cond_false,cond_true,vl];omega
  | cons x l=>simp only [zr,Bool.true_and,List.isEmpty_cons,Bool.not_false,cond_true];omega
theorem zr_diff {d e f:List Nat} {b:Bool} (hf:vl 10000 f+vl 10000 e=vl 10000 d):zr f (b && !f.isEmpty)=zr d b+zr e (!b):=by
 cases b with
 | false=>simp only [zr,Bool.false_and,cond_false,Bool.not_false,cond_true];omega
 | true =>
  cases f with
  | nil=>simp only [vl] at hf;simp only [zr,Bool.true_and,List.isEmpty_nil,Bool.not_true,cond_false,cond_true,vl];omega
  | cons x l=>simp only [zr,Bool.true_and,List.isEmpty_cons,Bool.not_false,cond_true,Bool.not_true,cond_false];omega
theorem addR_spec {k l:Nat} {va vb:V} {x y:Int} (ha:IsR k va x) (hb:IsR l vb y) (hk:k≤1000000) (hl:l≤1000000):Gives 26 [va,vb] fun r=>IsR (max k l+1) r (x+y):=by
 obtain ⟨d,b,⟨⟨s,rfl,hs⟩,dd,cd,h0⟩,rfl,hdl⟩:=ha
 obtain ⟨e,c,⟨⟨u,rfl,hu⟩,de,ce,he0⟩,rfl,hel⟩:=hb
 refine gives_of tbl26 fun h Q hQ=>?_
 unfold rc26
 refine sRG ?_
 have fin:∀ (s2:V) (f:List Nat) (g:Bool) (st:St),NR (.agg [.bool g,s2]) f g→zr f g=zr d b+zr e c→f.length≤max k l+1→gt st.tm 4=.ptr (.loc 4 1) 0→lg st.loc 4=(1,.cells false [.bool g,s2])→st.hp=⟨h.rows,none,h.mods⟩→Q st:=by
  intro s2 f g st hn hz hf h4 hr hh
  obtain ⟨⟨s3,e3,hs3⟩,q⟩:=hn
  obtain rfl:s2=s3:=by simpa using e3
  exact hQ _ _ (fin_cell (x:=.bool g) (y:=s2) (f:=false) (d:=4) (g:=1) (by kernel_rfl) h4 hr (Pl.bool _) hs3.pl (by rw [hh])) ⟨f,g,⟨⟨s2,rfl,hs3⟩,q⟩,hz.symm,hf⟩
 by_cases hbc:b=c
 ·subst hbc
  have eqb:bin Pg .eql 4 false (.bool b) (.bool b)=some (.bool true):=by rw [bin_eqb 4 false b b U4,beq_self_eq_true]
  refine ww_seq (ww_seq (ww_reg (fun n k=>by simp -implicitDefEqProofs (disch:=omega) only [go_sem,reduceIte,Nat.reduceEqDiff,gt_start,List.getD_cons_zero,List.getD_cons_succ,ldc_fst L4,eqb];rfl) ?_))
  refine ww_true sS ?_
  obtain ⟨p,hp,m,hm,dm,hvm,hlm⟩:=plusR_spec hs hu dd de (by omega) (by omega) ⟨h.rows,none,h.mods⟩
  obtain ⟨r,hr,f,⟨⟨s2,rfl,hs2⟩,df,cf,hf0⟩,ht⟩:=trim_spec hm dm (by omega) b ⟨h.rows,none,h.mods⟩
  have hlen:=ht.len
  refine ww_seq (ww_call (hp.and hr) (fun n hn k=>by
   simp -implicitDefEqProofs (disch:=omega) only [go_sem,reduceIte,Nat.reduceEqDiff,gt_start,List.getD_cons_zero,List.getD_cons_succ,ldc_snd L29,ldc_fst L4,cld2 hn.1 hs.ex hu.ex hs.quiet hu.quiet,cld2 hn.2 (Ex1.bool _) hm.ex rfl hm.quiet,stc_two N31 1 (.bool (b && !f.isEmpty)) s2 (.bool false) .nils _ rfl hs2.pl.ok]
   exact finD_ok (by kernel_rfl)) ?_)
  exact ww_ret (fin s2 f _ _ ⟨⟨s2,rfl,hs2⟩,df,cf,hf0⟩ (zr_same (by rw [ht.vl,hvm])) (by omega) sS sS rfl)
 ·have ec:c = !b:=by cases b<;>cases c<;>first | rfl | exact absurd rfl hbc
  have eqb:bin Pg .eql 4 false (.bool b) (.bool c)=some (.bool false):=by
   rw [bin_eqb 4 false b c U4,ec];cases b<;>rfl
  refine ww_seq (ww_seq (ww_reg (fun n k=>by simp -implicitDefEqProofs (disch:=omega) only [go_sem,reduceIte,Nat.reduceEqDiff,gt_start,List.getD_cons_zero,List.getD_cons_succ,ldc_fst L4,eqb];rfl) ?_))
  refine ww_false sS (ww_skip ?_)
  obtain ⟨q,hq,rfl⟩:=lessR_spec hs hu dd de cd ce (by omega) (by omega) ⟨h.rows,none,h.mods⟩
  rcases Nat.lt_or_ge (vl 10000 d) (vl 10000 e) with hlt | hge
  ·have hcmp:cmpI (vl 10000 d) (vl 10000 e)=.negSucc 0:=by unfold cmpI;rw [if_pos hlt]
   rw [hcmp] at hq
   refine ww_seq (ww_seq (ww_call (hq) (fun n hn k=>by simp -implicitDefEqProofs (disch:=omega) only [go_sem,reduceIte,Nat.reduceEqDiff,gt_start,List.getD_cons_zero,List.getD_cons_succ,ldc_snd L29,clc2 hn hs.ex hu.ex];rfl) ?_))
   refine ww_false sS (ww_skip ?_)
   have hle:d.length≤e.length:=by
    rcases Nat.lt_or_ge e.length d.length with h1 | h1
    ·have:=vl_lt_len (B:=10000) (by decide) de cd h1;omega
    ·exact h1
   obtain ⟨p,hp,m,hm,dm,hvm,hlm⟩:=minusR_spec hu hs de dd (by omega) hle (by omega) ⟨h.rows,none,h.mods⟩
   obtain ⟨r,hr,f,⟨⟨s2,rfl,hs2⟩,df,cf,hf0⟩,ht⟩:=trim_spec hm dm (by omega) c ⟨h.rows,none,h.mods⟩
   have hlen:=ht.len
   refine ww_seq (ww_call (hp.and hr) (fun n hn k=>by
    simp -implicitDefEqProofs (disch:=omega) only [go_sem,reduceIte,Nat.reduceEqDiff,gt_start,List.getD_cons_zero,List.getD_cons_succ,ldc_snd L29,ldc_fst L4,cld2 hn.1 hu.ex hs.ex hu.quiet hs.quiet,cld2 hn.2 (Ex1.bool _) hm.ex rfl hm.quiet,stc_two N31 1 (.bool (c && !f.isEmpty)) s2 (.bool false) .nils _ rfl hs2.pl.ok]
    exact finD_ok (by kernel_rfl)) ?_)
   refine ww_ret (fin s2 f _ _ ⟨⟨s2,rfl,hs2⟩,df,cf,hf0⟩ ?_ (by omega) sS sS rfl)
   rw [zr_diff (d:=e) (e:=d) (by rw [ht.vl,hvm]),ec,Int.add_comm]
   cases b<;>rfl
  ·have hcmp:∃ n,cmpI (vl 10000 d) (vl 10000 e)=.ofNat n:=by unfold cmpI;rw [if_neg (by omega)];split<;>exact ⟨_,rfl⟩
   obtain ⟨n0,hcmp⟩:=hcmp
   rw [hcmp] at hq
   refine ww_seq (ww_seq (ww_call (hq) (fun n hn k=>by simp -implicitDefEqProofs (disch:=omega) only [go_sem,reduceIte,Nat.reduceEqDiff,gt_start,List.getD_cons_zero,List.getD_cons_succ,ldc_snd L29,clc2 hn hs.ex hu.ex,d_true];rfl) ?_))
   refine ww_true sS ?_
   have hle:e.length≤d.length:=by
    rcases Nat.lt_or_ge d.length e.length with h1 | h1
    ·have:=vl_lt_len (B:=10000) (by decide) dd ce h1;omega
    ·exact h1
   obtain ⟨p,hp,m,hm,dm,hvm,hlm⟩:=minusR_spec hs hu dd de (by omega) hle (by omega) ⟨h.rows,none,h.mods⟩
   obtain ⟨r,hr,f,⟨⟨s2,rfl,hs2⟩,df,cf,hf0⟩,ht⟩:=trim_spec hm dm (by omega) b ⟨h.rows,none,h.mods⟩
   have hlen:=ht.len
   refine ww_seq (ww_call (hp.and hr) (fun n hn k=>by
    simp -implicitDefEqProofs (disch:=omega) only [go_sem,reduceIte,Nat.reduceEqDiff,gt_start,List.getD_cons_zero,List.getD_cons_succ,ldc_snd L29,ldc_fst L4,cld2 hn.1 hs.ex hu.ex hs.quiet hu.quiet,cld2 hn.2 (Ex1.bool _) hm.ex rfl hm.quiet,stc_two N31 1 (.bool (b && !f.isEmpty)) s2 (.bool false) .nils _ rfl hs2.pl.ok]
    exact finD_ok (by kernel_rfl)) ?_)
   refine ww_ret (fin s2 f _ _ ⟨⟨s2,rfl,hs2⟩,df,cf,hf0⟩ ?_ (by omega) sS sS rfl)
   rw [zr_diff (d:=d) (e:=e) (by rw [ht.vl,hvm]),ec]
theorem IsR.form {k:Nat} {v:V} {x:Int} (h:IsR k v x):∃ s b,v=.agg [.bool b,s]∧Pl s∧Ex1 v∧AM.quiet v=true:=by
 obtain ⟨d,b,hn,_,_⟩:=h
 have h1:=hn.ex;have h2:=hn.quiet
 obtain ⟨⟨s,rfl,hs⟩,_⟩:=hn
 exact ⟨s,b,rfl,hs.pl,h1,h2⟩
theorem negR_spec {k:Nat} {va:V} {x:Int} (ha:IsR k va x) (hk:k≤1000000):Gives 32 [va] fun r=>IsR k r (-x):=by
 obtain ⟨d,b,⟨⟨s,rfl,hs⟩,dd,cd,h0⟩,hx,hl⟩:=ha
 refine gives_of tbl32 fun h Q hQ=>?_
 unfold rc32
 refine sRG ?_
 have fin:∀ (st:St) (g:Bool),g=(!b&&decide (0<d.length))→gt st.tm 2=.ptr (.loc 2 1) 0→lg st.loc 2=(1,.cells false [.bool g,s])→st.hp=⟨h.rows,none,h.mods⟩→Q st:=by
  intro st g hg h2 hr hh
  refine hQ _ _ (fin_cell (x:=.bool g) (y:=s) (f:=false) (d:=2) (g:=1) (by kernel_rfl) h2 hr (Pl.bool _) hs.pl (by rw [hh])) ⟨d,g,⟨⟨s,rfl,hs⟩,dd,cd,fun e=>by rw [hg,e];simp⟩,?_,hl⟩
  subst hx;subst hg
  unfold zr
  cases b with
  | true=>simp only [Bool.not_true,Bool.false_and,cond_true,cond_false,Int.neg_neg]
  | false =>
   cases d with
   | nil=>rfl
   | cons x l=>simp
 cases b with
 | true =>
  refine ww_seq (ww_reg (fun n k=>by simp -implicitDefEqProofs (disch:=omega) only [go_sem,reduceIte,Nat.reduceEqDiff,ldc_fst L4,ldc_snd L29,b32_1_11 (Pl.bool _) hs.pl,stc_two N31 1 (.bool false) s (.bool false) .nils _ rfl hs.pl.ok];rfl) ?_)
  exact ww_ret (fin _ false (by simp) sS sS rfl)
 | false =>
  refine ww_seq (ww_reg (fun n k=>by simp -implicitDefEqProofs (disch:=omega) only [go_sem,reduceIte,Nat.reduceEqDiff,ldc_fst L4,ldc_snd L29,len_sl hs,b32_1_11 (Pl.bool _) hs.pl,stc_two N31 1 (.bool (decide (0<d.length))) s (.bool false) .nils _ rfl hs.pl.ok];rfl) ?_)
  exact ww_ret (fin _ (decide (0<d.length)) (by simp) sS sS rfl)
theorem subR_spec {k l:Nat} {va vb:V} {x y:Int} (ha:IsR k va x) (hb:IsR l vb y) (hk:k≤1000000) (hl:l≤1000000):Gives 28 [va,vb] fun r=>IsR (max k l+1) r (x - y):=by
 obtain ⟨s,b,rfl,ps,es,qs⟩:=ha.form
 obtain ⟨u,c,rfl,pu,eu,qu⟩:=hb.form
 refine gives_of tbl28 fun h Q hQ=>?_
 unfold rc28
 refine sRG ?_
 obtain ⟨p,hp,hpI⟩:=negR_spec hb hl ⟨h.rows,none,h.mods⟩
 obtain ⟨r,hr,hrI⟩:=addR_spec ha hpI hk hl ⟨h.rows,none,h.mods⟩
 obtain ⟨s1,b1,rfl,ps1,es1,qs1⟩:=hpI.form
 obtain ⟨s2,b2,rfl,ps2,es2,qs2⟩:=hrI.form
 refine ww_seq (ww_call (hp.and hr) (fun n hn k=>by simp -implicitDefEqProofs (disch:=omega) only [go_sem,reduceIte,Nat.reduceEqDiff,gt_start,List.getD_cons_zero,List.getD_cons_succ,ldc_two L31,cld1 hn.1 eu qu,cld2 hn.2 es es1 qs qs1,stc_two N31 1 (.bool b2) s2 (.bool false) .nils _ rfl ps2.ok];exact finD_ok (by kernel_rfl)) ?_)
 exact ww_ret (hQ _ _ (fin_cell (x:=.bool b2) (y:=s2) (f:=false) (d:=4) (g:=1) (by kernel_rfl) sS sS (Pl.bool _) ps2 rfl) (by rw [Int.sub_eq_add_neg];exact hrI))
end Go.AM.S
end
section
namespace Go.AM.S
open Go Go.AM Go.Proofs NumL
open _root_.Go.AM.G (R)
set_option maxRecDepth 100000
theorem tbl88:tbl 88=some ⟨rc88,[.tmp 4]⟩:=by kernel_rfl
theorem fld31 (v w:V) (l:List V):fld Pg 31 (.agg (v::w::l)) 1=some w:=by kernel_rfl
theorem times_step {D:Nat} {out:List Nat} {i w x d c p m:Nat} (hl:out.length=i) (hv:vl D out+D ^ i*w=p*m) (he:w+x*m=d+D*c):vl D (out++[d])+D ^ (i+1)*c=(p+D ^ i*x)*m:=by
 rw [vl_append,vl_one,hl,Nat.pow_succ,Nat.mul_assoc,Nat.add_mul,Nat.mul_assoc]
 have h1:D ^ i*(w+x*m)=D ^ i*(d+D*c):=by rw [he]
 simp only [Nat.mul_add] at h1
 omega
theorem times_bound {w x m:Nat} (hw:w<10000) (hx:x<10000) (hm:m<10000):(w+x*m) / 10000<10000∧w+x*m<1000000000:=by
 have h:=Nat.mul_le_mul (show x≤9999 by omega) (show m≤9999 by omega)
 constructor
 ·rw [Nat.div_lt_iff_lt_mul (by decide)];omega
 ·omega
theorem times_spec {va:V} {a:List Nat} (ha:Sl .i64 va a) (da:Dg 10000 a) (la:a.length≤1000000) {q:Nat} (hq:q<10000) :
  Gives 88 [va,.int .i64 (.ofNat q)] fun r=>∃ c,Sl .i64 r c∧Dg 10000 c∧Cn c∧vl 10000 c=vl 10000 a*q∧c.length≤a.length+1:=by
 refine gives_of tbl88 fun h Q hQ=>?_
 unfold rc88
 refine sR ?_
 refine sR ?_
 refine sR ?_
 refine ww_join (M:=fun s=>∃ out,Tk s.loc 34 (gt s.tm 5) .i64 out∧Dg 10000 out∧vl 10000 out=vl 10000 a*q∧out.length≤a.length+1∧s.hp=⟨h.rows,none,h.mods⟩) ?_ (fun s ⟨out,htk,hdg,hv,hlen,hhp⟩=>?_)
 ·refine sR ?_
  refine ww_for (fun m s=>∃ i w out,m+i=a.length+1∧gt s.tm 0=va∧gt s.tm 1=.int .i64 (.ofNat q)∧gt s.tm 7=.int .i64 (.ofNat i)∧gt s.tm 6=.int .i64 (.ofNat w)∧Tk s.loc 34 (gt s.tm 5) .i64 out∧out.length=i∧Dg 10000 out∧w<10000∧(i≤a.length∨w=0)∧vl 10000 out+10000 ^ i*w=vl 10000 (a.take i)*q∧s.hp=⟨h.rows,none,h.mods⟩) (a.length+1) ⟨0,0,[],rfl,sSG,sSG,sS,sS,.inl ⟨rfl,sS⟩,rfl,Dg.nil _,by decide,.inl (Nat.zero_le _),by simp [vl],rfl⟩ ?_
  intro m s ⟨i,w,out,hm,h0,h1,h7,h6,htk,hlen,hdg,hw,hin,hv,hhp⟩
  refine ww_seq (ww_join (M:=fun s'=>gt s'.tm 15=.bool (decide (i<a.length∨0<w))∧Kp [0,1,5,6,7] s.tm s'.tm∧s'.loc=s.loc∧s'.hp=s.hp) ?_ (fun s' ⟨k15,kk,kl,kh⟩=>?_))
  ·by_cases c1:i<a.length
   ·refine ww_reg (fun n k=>by simp -implicitDefEqProofs (disch:=omega) only [go_sem,reduceIte,Nat.reduceEqDiff,h0,h7,len_sl ha,decide_eq_true c1];rfl) ?_
    exact ⟨by rw [decide_eq_true (.inl c1)];exact sS,(by (try dsimp only);repeat (first | with_reducible exact Kp_refl _ _ | with_reducible refine Kp_pt (by decide) ?_)),rfl,rfl⟩
   ·refine ww_reg (fun n k=>by simp -implicitDefEqProofs (disch:=omega) only [go_sem,reduceIte,Nat.reduceEqDiff,h0,h6,h7,len_sl ha,decide_eq_false c1];rfl) ?_
    exact ⟨by rw [show decide (i<a.length∨0<w)=decide (0<w) by congr 1;apply propext;omega];exact sS,(by (try dsimp only);repeat (first | with_reducible exact Kp_refl _ _ | with_reducible refine Kp_pt (by decide) ?_)),rfl,rfl⟩
  ·have k0:=(kk 0 (by decide)).trans h0;have k1:=(kk 1 (by decide)).trans h1;have k6:=(kk 6 (by decide)).trans h6;have k7:=(kk 7 (by decide)).trans h7;have k5:=kk 5 (by decide)
   refine ww_if k15 (fun hc=>ww_skip ?_) (fun hc=>ww_exit ?_)
   ·have hx:a.getD i 0<10000:=da.get (by decide) i
    obtain ⟨b1,b2⟩:=times_bound hw hx hq
    have b3:=(times_bound (show 0<10000 by decide) hx hq).2
    rw [Nat.zero_add] at b3
    obtain ⟨v5,l5,happ,htk5,hfr⟩:=a88_8_4 [(w+a.getD i 0*q) % 10000] none true htk (by simp) (by simp;omega)
    refine ww_seq (ww_block ?_)
    refine ww_join (M:=fun s1=>gt s1.tm 6=.int .i64 (.ofNat (w+a.getD i 0*q))∧Kp [0,1,5,7] s'.tm s1.tm∧s1.loc=s.loc∧s1.hp=s.hp) ?_ (fun s1 ⟨a6,ak,al,ah⟩=>?_)
    ·refine ww_seq (ww_reg (fun n k=>by simp -implicitDefEqProofs (disch:=omega) only [go_sem,reduceIte,Nat.reduceEqDiff,k0,k7,len_sl ha];rfl) ?_)
     refine ww_if (by simp only [gt_pt,reduceIte];rfl) (fun hia=>?_) (fun hia=>ww_skip ?_)
     ·refine ww_reg (fun n k=>by simp -implicitDefEqProofs (disch:=omega) only [go_sem,reduceIte,Nat.reduceEqDiff,k0,k1,k6,k7,ia29 ha];rfl) ?_
      exact ⟨sS,(by (try dsimp only);repeat (first | with_reducible exact Kp_refl _ _ | with_reducible refine Kp_pt (by decide) ?_)),kl,kh⟩
     ·exact ⟨(by simp -implicitDefEqProofs (disch:=omega) only [go_sem,reduceIte,Nat.reduceEqDiff,k6,getD_ge hia,Nat.zero_mul,Nat.add_zero]),(by (try dsimp only);repeat (first | with_reducible exact Kp_refl _ _ | with_reducible refine Kp_pt (by decide) ?_)),kl,kh⟩
    have a1:=(ak 1 (by decide)).trans k1;have a7:=(ak 7 (by decide)).trans k7;have a5:=(ak 5 (by decide)).trans k5
    refine ww_seq (ww_reg (fun n k=>by simp -implicitDefEqProofs (disch:=omega) only [go_sem,reduceIte,Nat.reduceEqDiff,a6,a5,al,bs29,happ];rfl) ?_)
    refine sE1 a6 ?_
    refine sE1 a7 ?_
    refine ⟨m - 1,by omega,i+1,(w+a.getD i 0*q) / 10000,out++[(w+a.getD i 0*q) % 10000],by omega,(by simp -implicitDefEqProofs (disch:=omega) only [go_sem,reduceIte,Nat.reduceEqDiff,ak 0 (by decide),k0]),(sS1 a1),sS,sS,?_,by simp [hlen],hdg.snoc (Nat.mod_lt _ (by decide)),b1,?_,?_,ah.trans hhp⟩
    ·have e:∀ x y,gt (pt (pt (pt s1.tm 5 v5) 6 x) 7 y) 5=v5:=fun x y=>sS
     rw [e];exact htk5
    ·rcases Nat.lt_or_ge i a.length with q1 | q1
     ·exact .inl q1
     ·right
      rw [getD_ge (by omega),Nat.zero_mul]
      omega
    ·rw [vl_take_next]
     exact times_step hlen hv (by omega)
   ·rw [if_pos rfl]
    refine ⟨out,by rw [kl,k5];exact htk,hdg,?_,by omega,kh.trans hhp⟩
    have en:w=0:=by omega
    subst en
    rw [List.take_of_length_le (by omega)] at hv
    simpa using hv
 ·obtain ⟨v',hsl,hex⟩:=htk.out
  obtain ⟨r,hr,d,⟨⟨x,rfl,hx⟩,dd,cd,_⟩,ht⟩:=trim_spec hsl hdg (by omega) false ⟨h.rows,none,h.mods⟩
  refine ww_seq (ww_call (hr) (fun n hn k=>by simp -implicitDefEqProofs (disch:=omega) only [go_sem,reduceIte,Nat.reduceEqDiff,hhp,clx2 (Ex1.bool _) hex hn,fld31];rfl) ?_)
  exact ww_ret (hQ _ _ (fin_tmp (v:=x) sS (hx.ex _) rfl hx.noRefs) ⟨d,hx,dd,cd,by rw [ht.vl,hv],by have:=ht.len;omega⟩)
end Go.AM.S
end
section
namespace Go.AM.S
open Go Go.AM Go.Proofs NumL
open _root_.Go.AM.G (R)
set_option maxRecDepth 100000
end Go.AM.S
end
section
namespace Go.AM.S
open Go Go.AM Go.Proofs NumL
open _root_.Go.AM.G (R)
set_option maxRecDepth 100000
theorem known_any (n:Nat):fn Pg kn0 tbl (n+40) 13 [] noHp=some (.val (.bool true) noHp):=by kernel_rfl
theorem known_runs:Runs Pg kn0 tbl 13 [] noHp (.val (.bool true) noHp):=⟨40,fun n hn=>by
 obtain ⟨m,rfl⟩:=Nat.exists_eq_add_of_le hn
 rw [Nat.add_comm];exact known_any m⟩
end Go.AM.S
end
section
namespace Go.AM.S
open Go Go.AM Go.Proofs NumL
open _root_.Go.AM.G (R)
set_option maxRecDepth 100000
section
variable {P:Program} {C:Cfg} {call:CallF} {gl:Nat→Bool} {o:Oper} {t' tm:Tm} {loc:Lo} {hp:Hp} {j:V→Lo→Hp→R}
theorem gen_makeG {d:Nat} {x:Nat} {t e:TypeId} {n b:Nat} {k1 k2:IntKind} (hd:o.dst=some d) (ho:o.op=.makeSlice t (.tmp x) (.tmp x)) (hg:gl d=true) (he:elemT P t=some e) (hl:layE P e=some (1,false)) (hb:(P.info? e).map (·.bytes)=some b)
  (hz:zeroV P e=some (.int k2 (.ofNat 0))) (hv:gt t' x=.int k1 (.ofNat n)) (hn:n*b≤70368744177664) (hn2:n≤70368744177664) :
  gen P C call gl o t' tm loc hp j=j (.arr (.glob hp.rows.length) 0 n (some n) 1 false) loc (hadd hp (.cells false (nl k2 (List.replicate n 0)))):=by
 have hf:flat (List.replicate n (V.int k2 (.ofNat 0)))=nl k2 (List.replicate n 0):=by
  unfold flat nl
  rw [List.map_replicate]
  clear hv hn hn2
  induction n with
  | zero=>rfl
  | succ n ih=>rw [List.replicate_succ,List.flatMap_cons,ih];rfl
 refine gen_val (v:=.arr (.glob hp.rows.length) 0 n (some n) 1 false) (st:=⟨t',loc,hadd hp (.cells false (nl k2 (List.replicate n 0)))⟩) hd ?_
 have hp1:locV P C gl (⟨t',loc,hp⟩:St).ρ (⟨t',loc,hp⟩:St).lc o=none:=by
  unfold locV
  simp only [ho,pureV,Option.map_none]
 unfold stepV
 rw [hp1]
 unfold stepG
 simp only [ho,hd,opd_gt,hv,makeV,he,hl,hb,hz]
 rw [show Nat.ble n n=true from by rw [Nat.ble_eq];exact Nat.le_refl n,show Nat.ble (n*b) maxBytes=true from by rw [Nat.ble_eq];exact hn,show Nat.ble n maxBytes=true from by rw [Nat.ble_eq];exact hn2]
 simp only [V.cells,List.length_cons,List.length_nil,V.live,Bool.and_self,hg,addRow,cond_true,hf]
 rfl
theorem slc_cut {t e:TypeId} {ag0:Bool} (he:F.elemT P t=some e) (hl:F.layE P e=some (1,ag0)) (r:Ref) (len c:Nat) (ag:Bool) (k k':IntKind) (i m:Nat) (hi:i<m) (hm:m≤len) (hc:len≤c) :
  slc P t (.arr r 0 len (some c) 1 ag) (some (.int k (.ofNat i))) (some (.int k' (.ofNat m))) none=some (.arr r i (m - i) (some (c - i)) 1 ag):=by
 show F.sliceV P t (.arr r 0 len (some c) 1 ag) (some (.ofNat i)) (some (.ofNat m)) none=_
 unfold F.sliceV
 simp only [he,hl,Nat.beq_refl,cond_true]
 unfold F.sliceArr
 simp only [Option.getD_some,F.toNatLe]
 rw [show Nat.ble m len=true from by rw [Nat.ble_eq];exact hm]
 simp only [cond_true]
 rw [show Nat.ble i m=true from by rw [Nat.ble_eq];omega]
 simp only [cond_true,show Nat.beq i c=false from by
  cases hb:Nat.beq i c with
  | false=>rfl
  | true=>have:=Nat.eq_of_beq_eq_true hb;omega,Bool.false_and,cond_false,Nat.mul_one,Nat.zero_add]
theorem slc_pre {t e:TypeId} {ag0:Bool} (he:F.elemT P t=some e) (hl:F.layE P e=some (1,ag0)) (r:Ref) (off len c:Nat) (ag:Bool) (k':IntKind) (i:Nat) (hi:i≤len) :
  slc P t (.arr r off len (some c) 1 ag) none (some (.int k' (.ofNat i))) none=some (.arr r off i (some c) 1 ag):=by
 show F.sliceV P t (.arr r off len (some c) 1 ag) none (some (.ofNat i)) none=_
 unfold F.sliceV
 simp only [he,hl,Nat.beq_refl,cond_true]
 unfold F.sliceArr
 simp only [Option.getD_some,F.toNatLe]
 rw [show Nat.ble i len=true from by rw [Nat.ble_eq];exact hi]
 simp only [cond_true,Option.getD_none,show Nat.ble 0 i=true from Nat.ble_eq ▸ Nat.zero_le i,show (Nat.beq 0 0)=true from rfl,Bool.not_true,Bool.and_false,cond_false,Nat.zero_mul,Nat.add_zero,Nat.sub_zero]
def put (L:List Nat) (i:Nat) (l:List Nat):List Nat:=L.take i++l++L.drop (i+l.length)
theorem setAt_put (k:IntKind) (L l:List Nat) (i:Nat) (h:i+l.length≤L.length):setAt (nl k L) i (nl k l)=some (nl k (put L i l)):=by
 unfold setAt put
 simp only [nl_length]
 rw [show Nat.ble (i+l.length) L.length=true from by rw [Nat.ble_eq];exact h]
 simp only [cond_true,nl,List.map_append,List.map_take,List.map_drop]
theorem put_length {L l:List Nat} {i:Nat} (h:i+l.length≤L.length):(put L i l).length=L.length:=by
 unfold put
 simp only [List.length_append,List.length_take,List.length_drop]
 omega
theorem gen_clear {x:Nat} {c:Call} {t e:TypeId} {k:IntKind} {r off len:Nat} {li:Option Nat} {L:List Nat} (hd:o.dst=none) (ho:o.op=.call c) (hc:c.callee=.builtin .clear) (ha:c.args = #[.tmp x]) (hty:c.argTypes[0]? = some t)
  (he:elemT P t=some e) (hl:layE P e=some (1,false)) (hz:zeroV P e=some (.int k (.ofNat 0))) (hx:gt t' x=.arr (.glob r) off len li 1 false) (hlen:0<len) (hr:hp.rows[r]? = some (.cells false (nl k L))) (hb:off+len≤L.length) :
  gen P C call gl o t' tm loc hp j=j (.tuple []) loc (hset hp r (.cells false (nl k (put L off (List.replicate len 0))))):=by
 have hf:flat (List.replicate len (V.int k (.ofNat 0)))=nl k (List.replicate len 0):=by
  rw [←flat_nl]
  unfold nl
  rw [List.map_replicate]
 refine gen_none (v:=.tuple []) (st:=⟨t',loc,hset hp r (.cells false (nl k (put L off (List.replicate len 0))))⟩) hd ?_
 have hp1:locV P C gl (⟨t',loc,hp⟩:St).ρ (⟨t',loc,hp⟩:St).lc o=none:=by
  unfold locV
  simp only [ho,pureV,hc,ha,Option.map_none]
 unfold stepV
 rw [hp1]
 unfold stepG
 simp only [ho,callS,hc,hty,hd,opds,ha,List.map_cons,List.map_nil,opd_gt,hx,clearV,he,hl,hz,hf]
 rw [show Nat.blt 0 len=true from by rw [Nat.blt_eq];exact hlen]
 simp only [Nat.beq_refl,V.live,V.cells,V.noLoc,List.length_cons,List.length_nil,List.all_cons,List.all_nil,V.cellOk,Bool.or_true,Bool.and_self,cond_true,getRow_glob,hr,setAt_put k L (List.replicate len 0) off (by simpa using hb),setRow_glob]
theorem gen_copy {d x y:Nat} {c:Call} {t e:TypeId} {k:IntKind} {r off len:Nat} {li:Option Nat} {L ys:List Nat} {w:V} (hd:o.dst=some d) (ho:o.op=.call c) (hc:c.callee=.builtin .copy) (ha:c.args = #[.tmp x,.tmp y]) (hty:c.argTypes[0]? = some t)
  (he:elemT P t=some e) (hl:layE P e=some (1,false)) (hxy:x≠y) (hit:itemsOf ⟨pt (pt .lf x (.arr (.glob r) off len li 1 false)) y w,loc,hp⟩ w=some (nl k ys)) (hys:ys.length≤len) (hr:hp.rows[r]? = some (.cells false (nl k L))) (hb:off+len≤L.length) :
  gen P C call gl o (pt (pt .lf x (.arr (.glob r) off len li 1 false)) y w) tm loc hp j=j (.int .i64 (.ofNat ys.length)) loc (hset hp r (.cells false (nl k (put L off ys)))):=by
 have hx:gt (pt (pt .lf x (.arr (.glob r) off len li 1 false)) y w) x=.arr (.glob r) off len li 1 false:=by rw [gt_pt,if_neg (Ne.symm hxy),gt_pt,if_pos rfl]
 have hy:gt (pt (pt .lf x (.arr (.glob r) off len li 1 false)) y w) y=w:=by rw [gt_pt,if_pos rfl]
 have hf:flat ((nl k ys).take len)=nl k ys:=by rw [List.take_of_length_le (by rw [nl_length];exact hys),flat_nl]
 refine gen_val (v:=.int .i64 (.ofNat ys.length)) (st:=⟨pt (pt .lf x (.arr (.glob r) off len li 1 false)) y w,loc,hset hp r (.cells false (nl k (put L off ys)))⟩) hd ?_
 have hp1:locV P C gl (⟨pt (pt .lf x (.arr (.glob r) off len li 1 false)) y w,loc,hp⟩:St).ρ (⟨pt (pt .lf x (.arr (.glob r) off len li 1 false)) y w,loc,hp⟩:St).lc o=none:=by
  unfold locV
  simp only [ho,pureV,hc,ha,Option.map_none]
 unfold stepV
 rw [hp1]
 unfold stepG
 simp only [ho,callS,hc,hty,hd,opds,ha,List.map_cons,List.map_nil,opd_gt,hx,hy,copyV,he,hl,hit,fits_nl,flat_nl,noLocL_nl,Nat.beq_refl,Bool.or_true,Bool.and_self,getRow_glob,hr,hf,setAt_put k L ys off (by omega),nl_length,Nat.mul_one]
 rw [show Nat.ble (off+len) L.length=true from by rw [Nat.ble_eq];exact hb,Nat.min_eq_left hys]
 simp only [cond_true,setRow_glob]
 rfl
end
end Go.AM.S
end
section
namespace Go.AM.S
open Go Go.AM Go.Proofs NumL
open _root_.Go.AM.G (R)
set_option maxRecDepth 100000
theorem tbl85:tbl 85=some ⟨rc85,[.tmp 4]⟩:=by kernel_rfl
theorem g85_1_3 (c:CallF) (t:Tm) (l:Lo) (h:Hp) (j:V→Lo→Hp→R) (k:IntKind) (n:Nat) (hn:n≤1000000000):go1 Try.f85 85 1 3 11 (.int k (.ofNat n)) c t l h j=j (.arr (.glob h.rows.length) 0 n (some n) 1 false) l (hadd h (.cells false (nl .u32 (List.replicate n 0)))) :=
 gen_makeG (C:=Cg) (gl:=Cg.glob 85) (call:=c) (tm:=t) (loc:=l) (hp:=h) (j:=j) (t':=pt .lf 11 (.int k (.ofNat n))) (k1:=k) (n:=n) (o:=opA Try.f85 1 3) (d:=12) (x:=11) (t:=24) (e:=86) (b:=4) (by kernel_rfl) (by kernel_rfl) (by kernel_rfl) (by kernel_rfl) (by kernel_rfl) (by kernel_rfl) (by kernel_rfl) (by rw [gt_pt,if_pos rfl]) (by omega) (by omega)
theorem or_low {a b m:Nat} (hb:b<2 ^ m):a*2 ^ m ||| b=a*2 ^ m+b:=by
 rw [Nat.mul_comm,Nat.two_pow_add_eq_or_of_lt hb]
theorem shl_parts {x up:Nat} (hx:x<4294967296) (hu:up≤32):x*2 ^ up<18446744073709551616:=by
 have h1:2 ^ up≤2 ^ 32:=Nat.pow_le_pow_right (by decide) hu
 calc x*2 ^ up≤4294967295*2 ^ 32:=Nat.mul_le_mul (by omega) h1
  _<_:=by decide
structure I85 (v:V) (a:List Nat) (up:Nat) (h:Hp) (m:Nat) (s:St) (i:Nat) (L:List Nat):Prop where
 m:m+i=a.length
 h0:gt s.tm 13=v
 h1:gt s.tm 1=.int .u64 (.ofNat up)
 h5:gt s.tm 5=.arr (.glob h.rows.length) 0 (a.length+1) (some (a.length+1)) 1 false
 h14:gt s.tm 14=.int .i64 (.ofNat a.length)
 h15:gt s.tm 15=.int .i64 (.ofNat i)
 len:L.length=a.length+1
 dg:Dg B L
 top:L.getD i 0<2 ^ up
 zero:∀ q,i<q→L.getD q 0=0
 v:vl B L=vl B (a.take i)*2 ^ up
 row:s.hp.rows[h.rows.length]? = some (.cells false (nl .u32 L))
 rl:s.hp.rows.length=h.rows.length+1
 same:∀ q,q<h.rows.length→s.hp.rows[q]? = h.rows[q]?
 dg2:DG h.rows.length s.hp
theorem shl_split (x up:Nat) (hu:up≤32):x*2 ^ up % 4294967296=x % 2 ^ (32 - up)*2 ^ up:=by
 have e:(4294967296:Nat)=2 ^ (32 - up)*2 ^ up:=by rw [←Nat.pow_add,Nat.sub_add_cancel hu]
 rw [e,Nat.mul_mod_mul_right]
theorem shl_hi {x up:Nat} (hx:x<4294967296):x*2 ^ up / 4294967296<2 ^ up:=by
 rw [Nat.div_lt_iff_lt_mul (by decide),Nat.mul_comm (2 ^ up)]
 exact Nat.mul_lt_mul_of_pos_right hx (Nat.two_pow_pos up)
theorem low_fit {x up y:Nat} (hu:up≤32) (hy:y<2 ^ up):(y ||| x*2 ^ up % 4294967296)=y+x*2 ^ up % 4294967296∧y+x*2 ^ up % 4294967296<4294967296:=by
 rw [shl_split x up hu]
 have h1:x % 2 ^ (32 - up)+1≤2 ^ (32 - up):=Nat.mod_lt _ (Nat.two_pow_pos _)
 have h2:(x % 2 ^ (32 - up)+1)*2 ^ up≤2 ^ (32 - up)*2 ^ up:=Nat.mul_le_mul_right _ h1
 rw [←Nat.pow_add,Nat.sub_add_cancel hu,Nat.add_mul,Nat.one_mul] at h2
 refine ⟨by rw [Nat.or_comm,or_low hy,Nat.add_comm],?_⟩
 have:(2:Nat) ^ 32=4294967296:=rfl
 omega
theorem vl_rep0 (B n:Nat):vl B (List.replicate n 0)=0:=by
 induction n with
 | zero=>rfl
 | succ n ih=>simp only [List.replicate_succ,vl,ih,Nat.mul_zero,Nat.add_zero]
theorem getD_rep0 (n i:Nat):(List.replicate n 0).getD i 0=0:=by
 rw [List.getD_eq_getElem?_getD,List.getElem?_replicate]
 split<;>rfl
theorem dg_rep0 (n:Nat):Dg B (List.replicate n 0):=by
 intro x hx
 rw [List.eq_of_mem_replicate hx];decide
theorem back_eq {h h':Hp} {l:List V} (hd:DG h.rows.length h') (hl:V.noRefsL l=false):backHp h h' l=⟨h'.rows,h.dirty,h.mods⟩:=by
 unfold backHp
 rw [clean_dg hd,hl];rfl
theorem shl_step {p i v0 v1 v2 l lo hi w x u:Nat} (e1:v1+p ^ i*l=v0+p ^ i*(l+lo)) (e2:v2=v1+p ^ (i+1)*hi) (hy:lo+p*hi=x*u) (hv:v0=w*u):v2=(w+p ^ i*x)*u:=by
 rw [Nat.add_mul,Nat.mul_assoc,←hy,←hv,e2,Nat.pow_succ,Nat.mul_add,Nat.mul_assoc]
 rw [Nat.mul_add] at e1
 omega
theorem shifted_runs {v:V} {a:List Nat} {up:Nat} (hv:Sl .u32 v a) (da:Dg B a) (la:a.length≤1000000) (hu:up≤32) (h:Hp) :
  ∃ h' L,Runs Pg kn0 tbl 85 [v,.int .u64 (.ofNat up)] h (.val (.arr (.glob h.rows.length) 0 (a.length+1) (some (a.length+1)) 1 false) h')∧L.length=a.length+1∧Dg B L∧vl B L=vl B a*2 ^ up∧h'.rows.length=h.rows.length+1∧h'.rows[h.rows.length]? = some (.cells false (nl .u32 L))∧(∀ q,q<h.rows.length→h'.rows[q]? = h.rows[q]?)∧h'.dirty=h.dirty:=by
 let Post:Out→Prop:=fun o=>∃ h' L,o=.val (.arr (.glob h.rows.length) 0 (a.length+1) (some (a.length+1)) 1 false) h'∧L.length=a.length+1∧Dg B L∧vl B L=vl B a*2 ^ up∧h'.rows.length=h.rows.length+1∧h'.rows[h.rows.length]? = some (.cells false (nl .u32 L))∧(∀ q,q<h.rows.length→h'.rows[q]? = h.rows[q]?)∧h'.dirty=h.dirty
 suffices hw:WW Pg kn0 tbl rc85 ⟨startTm [v,.int .u64 (.ofNat up)],.lf,⟨h.rows,none,h.mods⟩⟩ (fun s=>∃ o,fin Pg h [.tmp 4] s=some o∧Post o) (fun _ _=>False) (fun s=>∃ o,fin Pg h [.tmp 4] s=some o∧Post o) by
  obtain ⟨o,h1,h',L,rfl,h2⟩:=runs_ex (kn:=kn0) (h:=h) rfl tbl85 hw
  exact ⟨h',L,h1,h2⟩
 unfold rc85
 refine sR ?_
 refine ww_seq (ww_reg (fun n k=>by simp -implicitDefEqProofs (disch:=omega) only [go_sem,reduceIte,Nat.reduceEqDiff,gt_start,List.getD_cons_zero,List.getD_cons_succ,len_sl hv,g85_1_3];rfl) ?_)
 refine ww_seq (ww_seq (ww_reg (fun n k=>by simp -implicitDefEqProofs (disch:=omega) only [go_sem,reduceIte,Nat.reduceEqDiff,gt_start,List.getD_cons_zero,List.getD_cons_succ,len_sl hv];rfl) ?_))
 refine ww_for (fun m s=>∃ i L,I85 v a up h m s i L) a.length ⟨0,List.replicate (a.length+1) 0,by omega,sSG,sSG,sS,sS,sS,by simp,dg_rep0 _,?_,fun q _=>getD_rep0 _ q,?_,hadd_at _ _,?_,fun q hq=>hadd_lt _ _ hq,fun x hx=>by cases hx⟩ ?_
 ·rw [getD_rep0];exact Nat.two_pow_pos _
 ·rw [vl_rep0];simp [vl]
 ·rw [hadd_len]
 intro m s ⟨i,L,hm,h0,h1,h5,h14,h15,hL,hdg,htop,hz,hvl,hrow,hrl,hsame,hdg2⟩
 refine sR2 h14 h15 ?_
 refine ww_seq (ww_if (by simp only [gt_pt,reduceIte];rfl) (fun hi=>ww_skip ?_) (fun hi=>ww_exit ?_))
 ·have hx:a.getD i 0<4294967296:=da.get (by decide) i
  have hp:=shl_parts hx hu
  obtain ⟨f1,f2⟩:=low_fit (x:=a.getD i 0) hu htop
  have hLi:L.getD i 0<4294967296:=hdg.get (by decide) i
  have hhi:=shl_hi (up:=up) hx
  have hu2:(2:Nat) ^ up≤4294967296:=Nat.pow_le_pow_right (by decide) hu
  refine ww_seq (ww_block ?_)
  refine ww_seq (ww_reg (fun n k=>by simp -implicitDefEqProofs (disch:=omega) only [go_sem,reduceIte,Nat.reduceEqDiff,h0,h15,ia24 hv];rfl) ?_)
  refine sR1 h1 ?_
  refine ww_seq (ww_reg (fun n k=>by simp -implicitDefEqProofs (disch:=omega) only [go_sem,reduceIte,Nat.reduceEqDiff,h5,nth_rows hrow,ldg_nl L86,wrap_u32_mod,f1,w85_6_8 hrow];rfl) ?_)
  have hrow2:=hset_at s.hp (row:=.cells false (nl .u32 (L.set i (L.getD i 0+a.getD i 0*2 ^ up % 4294967296)))) hrow
  refine ww_reg (fun n k=>by simp -implicitDefEqProofs (disch:=omega) only [go_sem,reduceIte,Nat.reduceEqDiff,h5,Nat.reducePow,w85_7_7 (off:=i+1) hrow2 (by rw [List.length_set];omega)];rfl) ?_
  refine sE1 h15 ?_
  refine ⟨m - 1,by omega,i+1,(L.set i (L.getD i 0+a.getD i 0*2 ^ up % 4294967296)).set (i+1) (a.getD i 0*2 ^ up / 4294967296),by omega,(sS1 h0),(sS1 h1),(sS1 h5),(sS1 h14),sS,by simp [hL],(hdg.set _ f2).set _ (Nat.lt_of_lt_of_le hhi hu2),?_,?_,?_,hset_at _ hrow2,by rw [hset_len,hset_len];exact hrl,fun q hq=>by rw [hset_ne _ (by omega),hset_ne _ (by omega)];exact hsame q hq,(hdg2.set (Nat.le_refl _) _).set (Nat.le_refl _) _⟩
  ·rw [getD_set_eq _ _ _ (by rw [List.length_set];omega)];exact hhi
  ·intro q hq
   rw [getD_set_ne _ _ _ _ (by omega),getD_set_ne _ _ _ _ (by omega)]
   exact hz q (by omega)
  ·have e1:=vl_set B L i (L.getD i 0+a.getD i 0*2 ^ up % 4294967296) (by omega)
   have e2:=vl_set B (L.set i (L.getD i 0+a.getD i 0*2 ^ up % 4294967296)) (i+1) (a.getD i 0*2 ^ up / 4294967296) (by rw [List.length_set];omega)
   rw [getD_set_ne _ _ _ _ (by omega),hz (i+1) (by omega),Nat.mul_zero,Nat.add_zero] at e2
   rw [vl_take_next]
   exact shl_step e1 e2 (Nat.mod_add_div _ _) hvl
 ·rw [if_pos rfl]
  have ei:i=a.length:=by omega
  subst ei
  refine sR1 h5 ?_
  rw [List.take_length] at hvl
  have key:fin Pg h [.tmp 4] ⟨pt (pt s.tm 16 (.bool (decide (a.length<a.length)))) 4 (.arr (.glob h.rows.length) 0 (a.length+1) (some (a.length+1)) 1 false),s.loc,s.hp⟩ = some (.val (.arr (.glob h.rows.length) 0 (a.length+1) (some (a.length+1)) 1 false) (backHp h s.hp [.arr (.glob h.rows.length) 0 (a.length+1) (some (a.length+1)) 1 false])):=by
   unfold fin
   simp only [resV,rho_gt,Option.map_some]
   rw [show ∀ t w,gt (pt t 4 w) 4=w from fun t w=>sS]
   rfl
  refine ww_ret ⟨_,key,_,L,rfl,hL,hdg,hvl,?_⟩
  rw [back_eq hdg2 rfl]
  exact ⟨hrl,hrow,hsame,rfl⟩
end Go.AM.S
end
section
namespace Go.AM.S
open Go Go.AM Go.Proofs NumL
open _root_.Go.AM.G (R)
set_option maxRecDepth 100000
theorem tbl87:tbl 87=some ⟨rc87,[.tmp 4]⟩:=by kernel_rfl
structure I87 (r:Nat) (a:List Nat) (up:Nat) (c:Nat) (h:Hp) (m:Nat) (s:St) (i:Nat) (L:List Nat):Prop where
 m:m+i=a.length
 h12:gt s.tm 12=.arr (.glob r) 0 a.length (some c) 1 false
 h1:gt s.tm 1=.int .u64 (.ofNat up)
 h5:gt s.tm 5=.arr (.loc 11 1) 0 a.length (some a.length) 1 false
 h13:gt s.tm 13=.int .i64 (.ofNat a.length)
 h14:gt s.tm 14=.int .i64 (.ofNat i)
 row:lg s.loc 11=(1,.cells false (nl .u32 L))
 len:L.length=a.length
 dg:Dg B L
 top:∀ q,i=q+1→L.getD q 0<2 ^ (32 - up)
 zero:∀ q,i≤q→L.getD q 0=0
 v:vl B L*2 ^ up+a.getD 0 0 % 2 ^ up*(if i=0 then 0 else 1)=vl B (a.take i)
 hp:s.hp=h
theorem back_parts {x up:Nat} (hx:x<4294967296) (hu:up<32):x*2 ^ 32 / 2 ^ up=x*2 ^ (32 - up):=by
 rw [show (2:Nat) ^ 32=2 ^ (32 - up)*2 ^ up by rw [←Nat.pow_add,Nat.sub_add_cancel (by omega)],←Nat.mul_assoc,Nat.mul_div_cancel _ (Nat.two_pow_pos up)]
theorem back_hi {x up:Nat} (hu:up<32):x*2 ^ (32 - up) / 4294967296=x / 2 ^ up:=by
 rw [show (4294967296:Nat)=2 ^ up*2 ^ (32 - up) by rw [←Nat.pow_add,Nat.add_sub_cancel' (by omega)],Nat.mul_div_mul_right _ _ (Nat.two_pow_pos _)]
theorem back_lt {x up:Nat} (hx:x<4294967296) (hu:up<32):x / 2 ^ up<2 ^ (32 - up):=by
 rw [Nat.div_lt_iff_lt_mul (Nat.two_pow_pos up),←Nat.pow_add,Nat.sub_add_cancel (by omega)]
 exact hx
theorem back_step {p b v0 v1 v2 l lo hi x u r w:Nat} (e1:v1=v0+p*b*hi) (e2:v2+p*l=v1+p*(l+lo)) (hx:b*hi*u+lo*u=b*x) (hv:v0*u+r=w):v2*u+r=w+p*b*x:=by
 rw [Nat.mul_add] at e2
 have e3:v2=v0+p*b*hi+p*lo:=by omega
 have e4:p*(b*hi*u+lo*u)=p*(b*x):=by rw [hx]
 rw [Nat.mul_add,←Nat.mul_assoc,←Nat.mul_assoc,←Nat.mul_assoc,←Nat.mul_assoc] at e4
 rw [e3,Nat.add_mul,Nat.add_mul]
 omega
theorem back_runs {r c:Nat} {a:List Nat} {up:Nat} {h:Hp} {f:Bool} (hr:h.rows[r]? = some (.cells f (nl .u32 a))) (da:Dg B a) (la:a.length≤1000000) (hu:up<32) :
  ∃ v b,Runs Pg kn0 tbl 87 [.arr (.glob r) 0 a.length (some c) 1 false,.int .u64 (.ofNat up)] h (.val v h)∧Sl .u32 v b∧Dg B b∧vl B b=vl B a / 2 ^ up∧b.length=a.length:=by
 let Post:Out→Prop:=fun o=>∃ v b,o=.val v h∧Sl .u32 v b∧Dg B b∧vl B b=vl B a / 2 ^ up∧b.length=a.length
 suffices hw:WW Pg kn0 tbl rc87 ⟨startTm [.arr (.glob r) 0 a.length (some c) 1 false,.int .u64 (.ofNat up)],.lf,⟨h.rows,none,h.mods⟩⟩ (fun s=>∃ o,fin Pg h [.tmp 4] s=some o∧Post o) (fun _ _=>False) (fun s=>∃ o,fin Pg h [.tmp 4] s=some o∧Post o) by
  obtain ⟨o,h1,v,b,rfl,h2⟩:=runs_ex (kn:=kn0) (h:=h) rfl tbl87 hw
  exact ⟨v,b,h1,h2⟩
 unfold rc87
 refine sR ?_
 refine sRG ?_
 refine sQG ?_
 refine ww_for (fun m s=>∃ i L,I87 r a up c ⟨h.rows,none,h.mods⟩ m s i L) a.length ⟨0,List.replicate a.length 0,by omega,sSG,sSG,sS,sS,sS,sS,by simp,dg_rep0 _,(fun q hq=>by omega),fun q _=>getD_rep0 _ q,by rw [vl_rep0];simp [vl],rfl⟩ ?_
 intro m s ⟨i,L,hm,h12,h1,h5,h13,h14,hrow,hL,hdg,htop,hz,hvl,hhp⟩
 have hrr:s.hp.rows[r]? = some (.cells f (nl .u32 a)):=by rw [hhp];exact hr
 refine sR2 h13 h14 ?_
 refine ww_seq (ww_if (by simp only [gt_pt,reduceIte];rfl) (fun hi=>ww_skip ?_) (fun hi=>ww_exit ?_))
 ·have hx:a.getD i 0<4294967296:=da.get (by decide) i
  have hp32:a.getD i 0*2 ^ 32<18446744073709551616:=by
   have:(2:Nat) ^ 32=4294967296:=rfl
   omega
  have hle:a.getD i 0*2 ^ (32 - up)<18446744073709551616:=by rw [←back_parts hx hu];exact Nat.lt_of_le_of_lt (Nat.div_le_self _ _) hp32
  have hhi:=back_lt hx hu
  have hhi2:a.getD i 0 / 2 ^ up<4294967296:=Nat.lt_of_le_of_lt (Nat.div_le_self _ _) hx
  have hLi:=hz i (Nat.le_refl _)
  refine ww_join (M:=fun s1=>∃ L2,gt s1.tm 12=.arr (.glob r) 0 a.length (some c) 1 false∧gt s1.tm 1=.int .u64 (.ofNat up)∧gt s1.tm 5=.arr (.loc 11 1) 0 a.length (some a.length) 1 false∧gt s1.tm 13=.int .i64 (.ofNat a.length)∧gt s1.tm 14=.int .i64 (.ofNat i)∧lg s1.loc 11=(1,.cells false (nl .u32 L2))∧L2.length=a.length∧Dg B L2∧L2.getD i 0<2 ^ (32 - up)∧(∀ q,i<q→L2.getD q 0=0)∧vl B L2*2 ^ up+a.getD 0 0 % 2 ^ up=vl B (a.take (i+1))∧s1.hp=⟨h.rows,none,h.mods⟩) ?_ ?_
  ·refine ww_block ?_
   refine ww_seq (ww_reg (fun n k=>by simp -implicitDefEqProofs (disch:=omega) only [go_sem,reduceIte,Nat.reduceEqDiff,h12,h14,nth_rows hrr,ldg_nl L86];rfl) ?_)
   refine ww_seq (ww_reg (fun n k=>by simp -implicitDefEqProofs (disch:=omega) only [go_sem,reduceIte,Nat.reduceEqDiff,h1,Nat.reducePow,back_parts hx hu];rfl) ?_)
   refine ww_seq (ww_reg (fun n k=>by simp -implicitDefEqProofs (disch:=omega) only [go_sem,reduceIte,Nat.reduceEqDiff,h5,hrow,hLi,Nat.zero_or,Nat.reducePow,back_hi hu];rfl) ?_)
   have e1:=vl_set B L i (a.getD i 0 / 2 ^ up) (by omega)
   rw [hLi,Nat.mul_zero,Nat.add_zero] at e1
   have hmd:=Nat.div_add_mod (a.getD i 0) (2 ^ up)
   refine sR ?_
   refine ww_if (by simp only [gt_pt,reduceIte];rfl) (fun h0=>?_) (fun h0=>ww_skip ?_)
   ·have hq:=htop (i - 1) (by omega)
    obtain ⟨f1,f2⟩:=low_fit (x:=a.getD i 0) (up:=32 - up) (by omega) hq
    have hn1:(L.set i (a.getD i 0 / 2 ^ up)).getD (i - 1) 0=L.getD (i - 1) 0:=getD_set_ne _ _ _ _ (by omega)
    have hLq:L.getD (i - 1) 0<4294967296:=hdg.get (by decide) _
    have hb:i - 1<(L.set i (a.getD i 0 / 2 ^ up)).length:=by rw [List.length_set];omega
    refine ww_reg (fun n k=>by simp -implicitDefEqProofs (disch:=omega) only [go_sem,reduceIte,Nat.reduceEqDiff,h5,wrap_u32_mod,hn1,f1,ldc_nl (P:=Pg) L86 1 false .u32 _ _ hb,stc_nl (P:=Pg) N86 _ _ hb];rfl) ?_
    refine ⟨(L.set i (a.getD i 0 / 2 ^ up)).set (i - 1) (L.getD (i - 1) 0+a.getD i 0*2 ^ (32 - up) % 4294967296),(sS1 h12),(sS1 h1),(sS1 h5),(sS1 h13),(sS1 h14),sS,by simp [hL],(hdg.set _ hhi2).set _ f2,?_,?_,?_,hhp⟩
    ·rw [getD_set_ne _ _ _ _ (by omega),getD_set_eq _ _ _ (by omega)];exact hhi
    ·intro q hq
     rw [getD_set_ne _ _ _ _ (by omega),getD_set_ne _ _ _ _ (by omega)]
     exact hz q (by omega)
    ·have e2:=vl_set B (L.set i (a.getD i 0 / 2 ^ up)) (i - 1) (L.getD (i - 1) 0+a.getD i 0*2 ^ (32 - up) % 4294967296) hb
     rw [hn1] at e2
     rw [if_neg (by omega),Nat.mul_one] at hvl
     rw [vl_take_next]
     have ei:B ^ i=B ^ (i - 1)*B:=by rw [←Nat.pow_succ];congr 1;omega
     rw [ei] at e1 ⊢
     refine back_step e1 e2 ?_ hvl
     have e5:(4294967296:Nat)=2 ^ (32 - up)*2 ^ up:=by rw [←Nat.pow_add,Nat.sub_add_cancel (by omega)]
     have e3:a.getD i 0*2 ^ (32 - up) % 4294967296=a.getD i 0 % 2 ^ up*2 ^ (32 - up):=by
      rw [e5,Nat.mul_comm (2 ^ (32 - up)) (2 ^ up),Nat.mul_mod_mul_right]
     rw [e3,Nat.mul_assoc _ (2 ^ (32 - up)),←e5]
     show 4294967296*(a.getD i 0 / 2 ^ up)*2 ^ up+a.getD i 0 % 2 ^ up*4294967296=4294967296*a.getD i 0
     rw [Nat.mul_assoc,Nat.mul_comm (a.getD i 0 / 2 ^ up),Nat.mul_comm (a.getD i 0 % 2 ^ up),←Nat.mul_add,hmd]
   ·have ei:i=0:=by omega
    subst ei
    refine ⟨L.set 0 (a.getD 0 0 / 2 ^ up),(sS1 h12),(sS1 h1),(sS1 h5),(sS1 h13),(sS1 h14),sS,by simpa using hL,hdg.set _ hhi2,by rw [getD_set_eq _ _ _ (by omega)];exact hhi,fun q hq=>by rw [getD_set_ne _ _ _ _ (by omega)];exact hz q (by omega),?_,hhp⟩
    rw [e1,vl_take_next]
    simp only [if_true,Nat.mul_zero,Nat.add_zero,Nat.pow_zero,Nat.one_mul] at hvl ⊢
    rw [←hvl,Nat.add_mul,Nat.mul_comm (a.getD 0 0 / 2 ^ up)]
    omega
  ·intro s1 ⟨L2,g12,g1,g5,g13,g14,grow,gL,gdg,gtop,gz,gvl,ghp⟩
   refine sE1 g14 ?_
   exact ⟨m - 1,by omega,i+1,L2,by omega,(sS1 g12),(sS1 g1),(sS1 g5),(sS1 g13),sS,(by simp -implicitDefEqProofs (disch:=omega) only [go_sem,reduceIte,Nat.reduceEqDiff,grow]),gL,gdg,fun q hq=>by rw [show q=i by omega];exact gtop,fun q hq=>gz q (by omega),by rw [if_neg (by omega),Nat.mul_one];exact gvl,ghp⟩
 ·rw [if_pos rfl]
  have ei:i=a.length:=by omega
  refine sR1 h5 ?_
  have key:fin Pg h [.tmp 4] ⟨pt (pt s.tm 15 (.bool (decide (i<a.length)))) 4 (.arr (.loc 11 1) 0 a.length (some a.length) 1 false),s.loc,s.hp⟩ = some (.val (.slice none false 1 (nl .u32 L)) h):=by
   have hx:=exp_arr (tm:=pt (pt s.tm 15 (.bool (decide (i<a.length)))) 4 (.arr (.loc 11 1) 0 a.length (some a.length) 1 false)) (hp:=s.hp) (li:=some a.length) hrow
   rw [hL] at hx
   exact fin_tmp sS hx (by rw [hhp]) rfl
  refine ww_ret ⟨_,key,_,L,rfl,.inl ⟨false,rfl⟩,hdg,?_,hL⟩
  rw [ei,List.take_length] at hvl
  rw [←hvl]
  symm
  split
  ·rw [Nat.mul_zero,Nat.add_zero,Nat.mul_div_cancel _ (Nat.two_pow_pos up)]
  ·rw [Nat.mul_one,Nat.mul_comm,Nat.mul_add_div (Nat.two_pow_pos up),Nat.div_eq_of_lt (Nat.mod_lt _ (Nat.two_pow_pos up)),Nat.add_zero]
end Go.AM.S
end
section
namespace Go.AM.S
open Go Go.AM Go.Proofs NumL
open _root_.Go.AM.G (R)
set_option maxRecDepth 100000
theorem tbl89:tbl 89=some ⟨rc89,[.tmp 2]⟩:=by kernel_rfl
theorem tbl84:tbl 84=some ⟨rc84,[.tmp 2]⟩:=by kernel_rfl
def Bits (x n:Nat):Prop:=x<2 ^ n∧(0<x→2 ^ n≤2*x)
instance (x n:Nat):Decidable (Bits x n):=inferInstanceAs (Decidable (_∧_))
theorem idx_any (s:Str) (k:IntKind) (i:Nat) (hi:i<s.n):idx Pg 9 (.str s) (.int k (.ofNat i))=some (.int .u8 (.ofNat (s.get i))):=by
 have hu:G.isStr (Pg.underlying 9)=true:=by rw [U9];rfl
 show (bif G.isStr (Pg.underlying 9) then (bif Nat.blt i s.n then some (V.int .u8 (.ofNat (s.get i))) else none) else none)=_
 rw [hu,show Nat.blt i s.n=true from by rw [Nat.blt_eq];exact hi]
 rfl
theorem len8:∀ i,i<256→Bits i (Str.get ⟨256,1013866857139168856493015739252390649739422828853819106890363778118420553376247557433637691341895324351018602695588957474325319502760499485336098898398377509666851054660423406800006203933793007272033180812049178612605246075062580585469430410618860250057463399279570354286669047577758927328864388992123306212451509403152394148136105363817402562688186708175358218852349079190158732807302672745370040257219644697201681238697346923541678507645485296520536209706771857694240900605172937619415410180424934769249448772944216470541052485265558808433676546390051204254346932932316488017972311616136051587427851453983453479168⟩ i)∧Str.get ⟨256,1013866857139168856493015739252390649739422828853819106890363778118420553376247557433637691341895324351018602695588957474325319502760499485336098898398377509666851054660423406800006203933793007272033180812049178612605246075062580585469430410618860250057463399279570354286669047577758927328864388992123306212451509403152394148136105363817402562688186708175358218852349079190158732807302672745370040257219644697201681238697346923541678507645485296520536209706771857694240900605172937619415410180424934769249448772944216470541052485265558808433676546390051204254346932932316488017972311616136051587427851453983453479168⟩ i≤8:=by decide +kernel
theorem Bits.up {x n k:Nat} (h:Bits (x / 2 ^ k) n) (hx:2 ^ k≤x):Bits x (k+n):=by
 have hp:=Nat.two_pow_pos k
 obtain ⟨h1,h2⟩:=h
 have h3:=h2 (Nat.div_pos hx hp)
 refine ⟨?_,fun _=>?_⟩
 ·rw [Nat.div_lt_iff_lt_mul hp] at h1
  rwa [Nat.pow_add,Nat.mul_comm]
 ·have h4:2 ^ k*2 ^ n≤2 ^ k*(2*(x / 2 ^ k)):=Nat.mul_le_mul_left _ h3
  have h5:=Nat.div_mul_le_self x (2 ^ k)
  rw [Nat.mul_comm] at h5
  rw [Nat.pow_add]
  have h6:2 ^ k*(2*(x / 2 ^ k))=2*(2 ^ k*(x / 2 ^ k)):=by rw [←Nat.mul_assoc,←Nat.mul_assoc,Nat.mul_comm (2 ^ k) 2]
  omega
theorem len32_spec {x:Nat} (hx:x<4294967296):Gives 89 [.int .u32 (.ofNat x)] fun r=>∃ n,r=.int .i64 (.ofNat n)∧Bits x n∧n≤32:=by
 refine gives_of tbl89 fun h Q hQ=>?_
 unfold rc89
 refine sR ?_
 have last:∀ (s:St) (y n:Nat),y<256→n≤24→(∀ m,Bits y m→Bits x (n+m))→gt s.tm 0=.int .u32 (.ofNat y)→gt s.tm 2=.int .i64 (.ofNat n)→s.hp=⟨h.rows,none,h.mods⟩→WW Pg kn0 tbl (.seq (.reg fun c t l h k=>gn Try.f89 89 7 2 c (p14 t (g0 t)) t l h (fun v0 l0 h0=>bO (idx Pg 9 (.str ⟨256,1013866857139168856493015739252390649739422828853819106890363778118420553376247557433637691341895324351018602695588957474325319502760499485336098898398377509666851054660423406800006203933793007272033180812049178612605246075062580585469430410618860250057463399279570354286669047577758927328864388992123306212451509403152394148136105363817402562688186708175358218852349079190158732807302672745370040257219644697201681238697346923541678507645485296520536209706771857694240900605172937619415410180424934769249448772944216470541052485265558808433676546390051204254346932932316488017972311616136051587427851453983453479168⟩) v0) fun v1=>gn Try.f89 89 7 4 c (p16 t v1) t l0 h0 (fun v2 l2 h2=>bO (bin Pg .add 3 false (g2 t) v2) fun v3=>k (p2 t v3) l2 h2))) .ret) s (fun _=>False) (fun _ _=>False) Q:=by
  intro s y n hy hn hb h0 h2 hh
  obtain ⟨b1,b2⟩:=len8 y hy
  generalize hg:Str.get ⟨256,1013866857139168856493015739252390649739422828853819106890363778118420553376247557433637691341895324351018602695588957474325319502760499485336098898398377509666851054660423406800006203933793007272033180812049178612605246075062580585469430410618860250057463399279570354286669047577758927328864388992123306212451509403152394148136105363817402562688186708175358218852349079190158732807302672745370040257219644697201681238697346923541678507645485296520536209706771857694240900605172937619415410180424934769249448772944216470541052485265558808433676546390051204254346932932316488017972311616136051587427851453983453479168⟩ y=q at b1 b2
  refine ww_seq (ww_reg (fun n k=>by simp -implicitDefEqProofs (disch:=omega) only [go_sem,reduceIte,Nat.reduceEqDiff,h0,h2,wrap_u8,idx_any,hg];rfl) ?_)
  exact ww_ret (hQ _ _ (fin_tmp (v:=.int .i64 (.ofNat (n+q))) sS (Ex1.int _ _ _) (by rw [hh]) rfl) ⟨_,rfl,hb q b1,by omega⟩)
 refine ww_join (M:=fun s=>∃ y n,y<65536∧n≤16∧(∀ m,Bits y m→Bits x (n+m))∧gt s.tm 0=.int .u32 (.ofNat y)∧gt s.tm 2=.int .i64 (.ofNat n)∧s.hp=⟨h.rows,none,h.mods⟩) ?_ ?_
 ·refine sRG ?_
  refine ww_if (by simp only [gt_pt,reduceIte];rfl) (fun hb=>?_) (fun hb=>ww_skip ?_)
  ·have e1:x / 2 ^ 16<65536:=by rw [Nat.div_lt_iff_lt_mul (by decide)];exact hx
   refine sRG ?_
   refine sE ?_
   exact ⟨x / 2 ^ 16,16,e1,Nat.le_refl _,fun m hm=>hm.up hb,sS,sS,rfl⟩
  ·exact ⟨x,0,by omega,by decide,fun m hm=>by rwa [Nat.zero_add],sSG,sS,rfl⟩
 intro s ⟨y,n,hy,hn,hb,h0,h2,hh⟩
 refine ww_join (M:=fun s=>∃ y n,y<256∧n≤24∧(∀ m,Bits y m→Bits x (n+m))∧gt s.tm 0=.int .u32 (.ofNat y)∧gt s.tm 2=.int .i64 (.ofNat n)∧s.hp=⟨h.rows,none,h.mods⟩) ?_ ?_
 ·refine sR1 h0 ?_
  refine ww_if (by simp only [gt_pt,reduceIte];rfl) (fun hc=>?_) (fun hc=>ww_skip ?_)
  ·have e1:y / 2 ^ 8<256:=by rw [Nat.div_lt_iff_lt_mul (by decide)];exact hy
   refine sR1 h0 ?_
   refine sE1 h2 ?_
   exact ⟨y / 2 ^ 8,n+8,e1,by omega,fun m hm=>by rw [Nat.add_assoc];exact hb _ (hm.up hc),sS,sS,hh⟩
  ·exact ⟨y,n,by omega,by omega,hb,(sS1 h0),(sS1 h2),hh⟩
 ·intro s ⟨y,n,hy,hn,hb,h0,h2,hh⟩
  exact last s y n hy hn hb h0 h2 hh
theorem lz32_spec {x:Nat} (hx:x<4294967296) (h0:0<x):Gives 84 [.int .u32 (.ofNat x)] fun r=>∃ n,r=.int .i64 (.ofNat n)∧n<32∧2147483648≤x*2 ^ n∧x*2 ^ n<4294967296:=by
 refine gives_of tbl84 fun h Q hQ=>?_
 unfold rc84
 refine sR ?_
 obtain ⟨_,hr,n,rfl,⟨b1,b2⟩,hn⟩:=len32_spec hx ⟨h.rows,none,h.mods⟩
 have b3:=b2 h0
 have hn0:0<n:=by
  rcases Nat.eq_zero_or_pos n with e | e
  ·subst e;simp at b1;omega
  ·exact e
 refine ww_seq (ww_call (hr) (fun n hn k=>by simp -implicitDefEqProofs (disch:=omega) only [go_sem,reduceIte,Nat.reduceEqDiff,gt_start,List.getD_cons_zero,List.getD_cons_succ,clc1 hn (Ex1.int _ _)];rfl) ?_)
 have e1:(2:Nat) ^ n*2 ^ (32 - n)=4294967296:=by rw [←Nat.pow_add,Nat.add_sub_cancel' hn]
 have hp:=Nat.two_pow_pos (32 - n)
 refine ww_ret (hQ _ _ (fin_tmp (v:=.int .i64 (.ofNat (32 - n))) sS (Ex1.int _ _ _) rfl rfl) ⟨_,rfl,by omega,?_,?_⟩)
 ·have:=Nat.mul_le_mul_right (2 ^ (32 - n)) b3
  rw [e1,Nat.mul_assoc] at this
  omega
 ·rw [←e1]
  exact Nat.mul_lt_mul_of_pos_right b1 hp
end Go.AM.S
end
section
namespace Go.AM.S
open Go Go.AM Go.Proofs NumL
open _root_.Go.AM.G (R)
set_option maxRecDepth 100000
theorem tbl86:tbl 86=some ⟨rc86,[.tmp 6]⟩:=by kernel_rfl
theorem fld26 (v:V) (l:List V):fld Pg 26 (.agg (v::l)) 0=some v:=by kernel_rfl
theorem m86_6_1 (c:CallF) (t' t:Tm) (l:Lo) (h:Hp) (j:V→Lo→Hp→R):gn Try.f86 86 6 1 c t' t l h j=go1 Try.f86 86 6 1 27 (gt t' 27) c t l h j:=gn_go1 (by kernel_rfl)
theorem c86_6_1 {r off len:Nat} {li:Option Nat} {L:List Nat} {h:Hp} (hlen:0<len) (hr:h.rows[r]? = some (.cells false (nl .u32 L))) (hb:off+len≤L.length) (c:CallF) (t:Tm) (l:Lo) (j:V→Lo→Hp→R) :
  go1 Try.f86 86 6 1 27 (.arr (.glob r) off len li 1 false) c t l h j=j (.tuple []) l (hset h r (.cells false (nl .u32 (put L off (List.replicate len 0))))) :=
 gen_clear (C:=Cg) (gl:=Cg.glob 86) (call:=c) (o:=opA Try.f86 6 1) (x:=27) (t:=24) (e:=86) (k:=.u32) (c:={ callee:=.builtin .clear,args:=#[.tmp 27],argTypes:=#[24] }) (by kernel_rfl) (by kernel_rfl) rfl rfl rfl (by kernel_rfl) (by kernel_rfl) (by kernel_rfl) (by rw [gt_pt,if_pos rfl]) hlen hr hb
theorem c86_7_2 {r off len:Nat} {li:Option Nat} {L ys:List Nat} {w:V} {h:Hp} {l:Lo} (hw:∀ tm,itemsOf ⟨tm,l,h⟩ w=some (nl .u32 ys)) (hys:ys.length≤len) (hr:h.rows[r]? = some (.cells false (nl .u32 L))) (hb:off+len≤L.length) (c:CallF) (t:Tm) (j:V→Lo→Hp→R) :
  go2 Try.f86 86 7 2 28 29 (.arr (.glob r) off len li 1 false) w c t l h j=j (.int .i64 (.ofNat ys.length)) l (hset h r (.cells false (nl .u32 (put L off ys)))) :=
 gen_copy (C:=Cg) (gl:=Cg.glob 86) (call:=c) (o:=opA Try.f86 7 2) (d:=30) (x:=28) (y:=29) (t:=24) (e:=86) (k:=.u32) (c:={ callee:=.builtin .copy,args:=#[.tmp 28,.tmp 29],argTypes:=#[24,24] }) (by kernel_rfl) (by kernel_rfl) rfl rfl rfl (by kernel_rfl) (by kernel_rfl) (by decide) (hw _) hys hr hb
theorem put_put {L a b:List Nat} {i:Nat} (h:b.length≤a.length) (hi:i+a.length≤L.length):put (put L i a) i b=put L i (b++a.drop b.length):=by
 have e1:(put L i a).take i=L.take i:=by
  unfold put
  rw [List.append_assoc,List.take_append_of_le_length (by simp;omega),List.take_take,Nat.min_self]
 have e2:(put L i a).drop (i+b.length)=a.drop b.length++L.drop (i+a.length):=by
  unfold put
  rw [List.append_assoc,List.drop_append,List.length_take,Nat.min_eq_left (by omega),List.drop_eq_nil_of_le (by simp;omega),List.nil_append,Nat.add_sub_cancel_left,List.drop_append,Nat.sub_eq_zero_of_le h]
  rfl
 have e3:(b++a.drop b.length).length=a.length:=by simp;omega
 show (put L i a).take i++b++(put L i a).drop (i+b.length)=L.take i++(b++a.drop b.length)++L.drop (i+(b++a.drop b.length).length)
 rw [e1,e2,e3]
 simp only [List.append_assoc]
theorem vl_pad (B:Nat) (a:List Nat) (n:Nat):vl B (a++List.replicate n 0)=vl B a:=by rw [vl_append,vl_rep0];simp
theorem len_le {B:Nat} (hB:0<B) {a b:List Nat} (da:Dg B a) (cb:Cn b) (h:vl B b≤vl B a):b.length≤a.length:=by
 rcases Nat.lt_or_ge a.length b.length with h1 | h1
 ·have:=vl_lt_len hB da cb h1;omega
 ·exact h1
theorem back_set {h h':Hp} {r:Nat} {row:Row} {l:List V} (hr:r<h.rows.length):(backHp h (hset h' r row) l).rows=(hset h' r row).rows:=by
 have hc:cleanB h (hset h' r row)=false:=by
  have hd:(hset h' r row).dirty=lower h'.dirty r:=rfl
  unfold cleanB
  rw [hd]
  cases h'.dirty with
  | none =>
   show Nat.ble h.rows.length r=false
   cases hb:Nat.ble h.rows.length r with
   | false=>rfl
   | true=>rw [Nat.ble_eq] at hb;omega
  | some x =>
   show Nat.ble h.rows.length (min x r)=false
   cases hb:Nat.ble h.rows.length (min x r) with
   | false=>rfl
   | true=>rw [Nat.ble_eq] at hb;omega
 unfold backHp
 rw [hc];rfl
theorem takes_runs {n r0 r1 i m q lb:Nat} {li lj:Option Nat} {L Lb:List Nat} {fb:Bool} {h:Hp} (hr0:h.rows[r0]? = some (.cells false (nl .u32 L))) (hr1:h.rows[r1]? = some (.cells fb (nl .u32 Lb))) (dL:Dg B L) (dLb:Dg B Lb) (hne:r0≠r1)
  (him:i+m≤L.length) (hm:0<m) (hlb:lb≤Lb.length) (hb:0<lb) (lL:L.length≤1000000) (lLb:Lb.length≤900000) (hq:q<4294967296) (hn:DG n h) (hn0:n≤r0) :
  ∃ ok h',Runs Pg kn0 tbl 86 [.arr (.glob r0) i m li 1 false,.arr (.glob r1) 0 lb lj 1 false,.int .u64 (.ofNat q)] h (.val (.bool ok) h')∧DG n h'∧h.rows.length≤h'.rows.length∧(∀ p,p<h.rows.length→p≠r0→h'.rows[p]? = h.rows[p]?) ∧
   (ok=false→vl B ((L.drop i).take m)<vl B (Lb.take lb)*q∧h'=h)∧(ok=true→∃ c,c.length=m∧Dg B c∧vl B c+vl B (Lb.take lb)*q=vl B ((L.drop i).take m)∧h'.rows[r0]? = some (.cells false (nl .u32 (put L i c)))):=by
 let Post:Out→Prop:=fun o=>∃ ok h',o=.val (.bool ok) h'∧DG n h'∧h.rows.length≤h'.rows.length∧(∀ p,p<h.rows.length→p≠r0→h'.rows[p]? = h.rows[p]?) ∧
   (ok=false→vl B ((L.drop i).take m)<vl B (Lb.take lb)*q∧h'=h)∧(ok=true→∃ c,c.length=m∧Dg B c∧vl B c+vl B (Lb.take lb)*q=vl B ((L.drop i).take m)∧h'.rows[r0]? = some (.cells false (nl .u32 (put L i c))))
 suffices hw:WW Pg kn0 tbl rc86 ⟨startTm [.arr (.glob r0) i m li 1 false,.arr (.glob r1) 0 lb lj 1 false,.int .u64 (.ofNat q)],.lf,⟨h.rows,none,h.mods⟩⟩ (fun s=>∃ o,fin Pg h [.tmp 6] s=some o∧Post o) (fun _ _=>False) (fun s=>∃ o,fin Pg h [.tmp 6] s=some o∧Post o) by
  obtain ⟨o,h1,ok,h',rfl,h2⟩:=runs_ex (kn:=kn0) (h:=h) rfl tbl86 hw
  exact ⟨ok,h',h1,h2⟩
 have hl0:r0<h.rows.length:=by
  rcases Nat.lt_or_ge r0 h.rows.length with h1 | h1
  ·exact h1
  ·rw [List.getElem?_eq_none h1] at hr0;simp at hr0
 unfold rc86
 refine sR ?_
 have hbl:(Lb.take lb).length=lb:=by rw [List.length_take,Nat.min_eq_left hlb]
 have hbne:Lb.take lb≠[]:=fun e=>by rw [e] at hbl;simp at hbl;omega
 have hcl1:=clone_runs (va:=.arr (.glob r1) 0 lb lj 1 false) ⟨h.rows,none,h.mods⟩ (by intro e;cases e) (.inr ⟨_,_,_,_,rfl⟩) hbne (by omega) (fun tm loc=>by
  have:=items_glob (tm:=tm) (loc:=loc) (h:=⟨h.rows,none,h.mods⟩) (li:=lj) hr1 (off:=0) (len:=lb) (by omega)
  rwa [List.drop_zero] at this)
 obtain ⟨v2,h2,d2,hg2,gr2,dd2,vl2,ll2,HG2,vn2,le2⟩:=grown_runs (n:=h.rows.length) (h:=hadd ⟨h.rows,none,h.mods⟩ (.cells false (nl .u32 (Lb.take lb)))) (v:=.arr (.glob h.rows.length) 0 (Lb.take lb).length none 1 false) q 0 (.inr ⟨hbne,_,rfl,hadd_at _ _⟩) (dLb.take lb) (by omega) hq (by decide) (fun x hx=>by cases hx) (fun r e=>by cases e;exact Nat.le_refl _) (by rw [hadd_len];exact Nat.le_succ _)
 rcases gr2 with ⟨e2,_⟩ | ⟨ne2,r2,rfl,hr2⟩
 ·exfalso;rw [e2] at le2;simp only [List.length_nil] at le2;omega
 obtain ⟨u3,h3,d3,hg3,⟨⟨s3,rfl,hs3⟩,dd3,cd3,_⟩,ht3,HG3,rl3⟩:=made_glob (n:=h.rows.length) hr2 dd2 (by omega) false HG2.dg (vn2 _ rfl)
 have hrl2:=HG2.len
 rw [hadd_len] at hrl2
 have hrl2':h.rows.length+1≤h2.rows.length:=hrl2
 have same3:∀ p,p<h.rows.length→h3.rows[p]? = h.rows[p]?:=by
  intro p hp
  have hp2:=vn2 _ rfl
  rw [HG3.same p (by omega) (by intro e;cases e;omega),HG2.same p (by rw [hadd_len];exact Nat.lt_succ_of_lt hp) (by intro e;cases e;omega)]
  exact hadd_lt ⟨h.rows,none,h.mods⟩ _ hp
 refine ww_seq (ww_call (hcl1.and (hg2.and hg3)) (fun n hn k=>by simp -implicitDefEqProofs (disch:=omega) only [go_sem,reduceIte,Nat.reduceEqDiff,gt_start,List.getD_cons_zero,List.getD_cons_succ,clc1 hn.1 (Ex1.glob _ _ _ _ _ _),clc3 hn.2.1 (Ex1.glob _ _ _ _ _ _) (Ex1.int _ _) (Ex1.int _ _),clc2 hn.2.2 (Ex1.glob _ _ _ _ _ _) (Ex1.bool _),fld26];rfl) ?_)
 have hpl:((L.drop i).take m).length=m:=by rw [List.length_take,List.length_drop,Nat.min_eq_left (by omega)]
 have hpne:(L.drop i).take m≠[]:=fun e=>by rw [e] at hpl;simp at hpl;omega
 have hr03:h3.rows[r0]? = some (.cells false (nl .u32 L)):=by rw [same3 _ hl0];exact hr0
 have hcl4:=clone_runs (va:=.arr (.glob r0) i m li 1 false) h3 (by intro e;cases e) (.inr ⟨_,_,_,_,rfl⟩) hpne (by omega) (fun tm loc=>items_glob (tm:=tm) (loc:=loc) (h:=⟨h3.rows,none,h3.mods⟩) (li:=li) hr03 (off:=i) (len:=m) him)
 have hrl3:h.rows.length≤h3.rows.length:=by omega
 obtain ⟨u5,h5,d5,hg5,⟨⟨s5,rfl,hs5⟩,dd5,cd5,_⟩,ht5,HG5,rl5⟩:=made_glob (n:=h.rows.length) (h:=hadd h3 (.cells false (nl .u32 ((L.drop i).take m)))) (hadd_at _ _) ((dL.drop i).take m) (by omega) false (HG3.dg.add _) hrl3
 have hrl5:h.rows.length≤h5.rows.length:=by rw [rl5,hadd_len];omega
 have same5:∀ p,p<h.rows.length→h5.rows[p]? = h.rows[p]?:=by
  intro p hp
  rw [HG5.same p (by rw [hadd_len];omega) (by intro e;cases e;omega),hadd_lt _ _ (by omega)]
  exact same3 p hp
 refine ww_seq (ww_call (hcl4.and hg5) (fun n hn k=>by simp -implicitDefEqProofs (disch:=omega) only [go_sem,reduceIte,Nat.reduceEqDiff,gt_start,List.getD_cons_zero,List.getD_cons_succ,clc1 hn.1 (Ex1.glob _ _ _ _ _ _),clc2 hn.2 (Ex1.glob _ _ _ _ _ _) (Ex1.bool _),fld26];rfl) ?_)
 have v3:vl B d3=vl B (Lb.take lb)*q:=by rw [ht3.vl,vl2,Nat.add_zero]
 have v5:vl B d5=vl B ((L.drop i).take m):=ht5.vl B
 have l3:=ht3.len
 have l5:=ht5.len
 obtain ⟨_,hcm,rfl⟩:=compare_spec hs3 hs5 dd3 dd5 cd3 cd5 (by omega) (by omega) h5
 rcases Nat.lt_or_ge (vl B d5) (vl B d3) with hlt | hge
 ·have hc:cmpI (vl B d3) (vl B d5)=.ofNat 1:=by unfold cmpI;rw [if_neg (by omega),if_pos hlt]
  rw [hc] at hcm
  refine ww_seq (ww_seq (ww_call (hcm) (fun n hn k=>by simp -implicitDefEqProofs (disch:=omega) only [go_sem,reduceIte,Nat.reduceEqDiff,clc2 hn hs3.ex hs5.ex,d_true];rfl) ?_))
  refine ww_true sS ?_
  refine sR ?_
  refine ww_ret ⟨_,fin_tmpD (v:=.bool false) sS (Ex1.bool _) HG5.dg rfl,false,h,rfl,hn,Nat.le_refl _,fun _ _ _=>rfl,fun _=>⟨by rw [←v3,←v5];exact hlt,rfl⟩,fun e=>by cases e⟩
 ·have hc:∃ z,cmpI (vl B d3) (vl B d5)=z∧bin Pg .gtr 3 true (.int .i64 z) (.int .i64 (.ofNat 0))=some (.bool false):=by
   unfold cmpI
   rcases Nat.lt_or_ge (vl B d3) (vl B d5) with h1 | h1
   ·exact ⟨_,rfl,by rw [if_pos h1];rfl⟩
   ·exact ⟨_,rfl,by rw [if_neg (by omega),if_neg (by omega)];rfl⟩
  obtain ⟨z,hz,hzb⟩:=hc
  rw [hz] at hcm
  refine ww_seq (ww_seq (ww_call (hcm) (fun n hn k=>by simp -implicitDefEqProofs (disch:=omega) only [go_sem,reduceIte,Nat.reduceEqDiff,clc2 hn hs3.ex hs5.ex,hzb];rfl) ?_))
  refine ww_false sS (ww_skip ?_)
  have hll:d3.length≤d5.length:=len_le (by decide) dd5 cd3 hge
  obtain ⟨w6,hmi,c,hsc,dc,vc,lc⟩:=minus_spec hs5 hs3 dd5 dd3 (by omega) hll hge h5
  refine ww_seq (ww_call (hmi) (fun n hn k=>by simp -implicitDefEqProofs (disch:=omega) only [go_sem,reduceIte,Nat.reduceEqDiff,clc2 hn hs5.ex hs3.ex];rfl) ?_)
  have hr05:h5.rows[r0]? = some (.cells false (nl .u32 L)):=by rw [same5 _ hl0];exact hr0
  refine ww_seq (ww_reg (fun n k=>by simp -implicitDefEqProofs (disch:=omega) only [go_sem,reduceIte,Nat.reduceEqDiff,gt_start,List.getD_cons_zero,List.getD_cons_succ,m86_6_1,c86_6_1 hm hr05 him];rfl) ?_)
  have hr06:=hset_at h5 (row:=.cells false (nl .u32 (put L i (List.replicate m 0)))) hr05
  have hpz:(put L i (List.replicate m 0)).length=L.length:=put_length (by simpa using him)
  refine ww_seq (ww_reg (fun n k=>by simp -implicitDefEqProofs (disch:=omega) only [go_sem,reduceIte,Nat.reduceEqDiff,gt_start,List.getD_cons_zero,List.getD_cons_succ,c86_7_2 (fun tm=>items_sl hsc _) (show c.length≤m by omega) hr06 (by rw [hpz];exact him)];rfl) ?_)
  refine sR ?_
  have hrow:=hset_at (hset h5 r0 (.cells false (nl .u32 (put L i (List.replicate m 0))))) (row:=.cells false (nl .u32 (put (put L i (List.replicate m 0)) i c))) hr06
  have hpp:put (put L i (List.replicate m 0)) i c=put L i (c++List.replicate (m - c.length) 0):=by rw [put_put (by simp;omega) (by simpa using him),List.drop_replicate]
  have hd6:DG n (hset (hset h5 r0 (.cells false (nl .u32 (put L i (List.replicate m 0))))) r0 (.cells false (nl .u32 (put (put L i (List.replicate m 0)) i c)))):=(DG.set (n:=n) (fun x hx=>Nat.le_trans (by omega) (HG5.dg x hx)) hn0 _).set hn0 _
  refine ww_ret ⟨.val (.bool true) (backHp h (hset (hset h5 r0 (.cells false (nl .u32 (put L i (List.replicate m 0))))) r0 (.cells false (nl .u32 (put (put L i (List.replicate m 0)) i c)))) [.bool true]),?_,true,_,rfl,hn.back hd6 _,?_⟩
  ·unfold fin
   simp only [resV,rho_gt,Option.map_some]
   rw [show ∀ t w,gt (pt t 6 w) 6=w from fun t w=>sS]
   rfl
  rw [back_set hl0]
  refine ⟨by rw [hset_len,hset_len];exact hrl5,fun p hp hne=>by rw [hset_ne _ hne,hset_ne _ hne];exact same5 p hp,(fun e=>by cases e),fun _=>⟨c++List.replicate (m - c.length) 0,by simp;omega,?_,by rw [vl_pad,←v3,←v5];exact vc,by rw [hrow,hpp]⟩⟩
  intro x hx
  rcases List.mem_append.1 hx with h1 | h1
  ·exact dc x h1
  ·rw [List.eq_of_mem_replicate h1];decide
end Go.AM.S
end
section
namespace Go.AM.S
open Go Go.AM Go.Proofs NumL
open _root_.Go.AM.G (R)
set_option maxRecDepth 100000
section
variable {C:Cfg} {P:Program} {call:CallF} {gl:Nat→Bool} {o:Oper} {t' tm:Tm} {loc:Lo} {hp:Hp}
theorem genD_cv {d x:Nat} {s t:TypeId} {ks kd k:IntKind} {n:Int} {J:JD} {X:XD} (hd:o.dst=some d) (ho:o.op=.convert s t (.tmp x)) (h1:P.underlying s=some (.int ks)) (h2:P.underlying t=some (.int kd)) (hv:gt t' x=.int k n) :
  genD P C call gl o t' loc hp J X=J (.int kd (F.wrapI kd n)) ⟨[],[],false,false,false,false⟩ loc hp:=by
 have hp1:locV P C gl (⟨t',loc,hp⟩:St).ρ (⟨t',loc,hp⟩:St).lc o=some (.int kd (F.wrapI kd n),none):=by
  unfold locV
  simp only [ho,pureV,opd_gt,hv,convV,h1,h2,F.wrapI_eq,Option.map_some]
 have hf:footV P C gl (⟨t',loc,hp⟩:St).ρ (⟨t',loc,hp⟩:St).lc o=some ⟨[],[],false,false,false,false⟩:=by
  unfold footV
  rw [hp1]
  simp only [ho]
 have hs:stepV P C gl ⟨t',loc,hp⟩ o=some (.val (.int kd (F.wrapI kd n)) ⟨t',loc,hp⟩):=by
  unfold stepV
  rw [hp1];rfl
 unfold genD
 rw [F.e_footV,F.e_oneV,F.e_rho,F.e_lcf,hf]
 show G.onSome (oneV P C call gl ⟨t',loc,hp⟩ o) _ none=_
 unfold oneV
 rw [hs]
 have e1:F.settle hp hp ⟨[],[],false,false,false,false⟩ = ⟨[],[],false,false,false,false⟩:=by
  unfold F.settle
  rw [Nat.beq_refl,Nat.beq_refl];rfl
 simp only [putV,hd]
 show J (gt (aset t' d (V.int kd (F.wrapI kd n))) d) (F.settle hp hp ⟨[],[],false,false,false,false⟩) loc hp=_
 rw [gt_eq,aget_aset,if_pos rfl,e1]
end
theorem dv78_7 (k:IntKind) (n:Int) (c:CallF) (t:Tm) (l:Lo) (h:Hp) (J:JD) (X:XD):gD Try.f78 78 18 7 c (pt t 97 (.int k n)) l h J X=J (.int .u64 (F.wrapI .u64 n)) ⟨[],[],false,false,false,false⟩ l h :=
 genD_cv (C:=Cg) (gl:=Cg.glob 78) (call:=c) (o:=opA Try.f78 18 7) (d:=98) (x:=97) (s:=86) (t:=80) (by kernel_rfl) (by kernel_rfl) U86 U80 (by rw [gt_pt,if_pos rfl])
theorem dv78_15 (k:IntKind) (n:Int) (c:CallF) (t:Tm) (l:Lo) (h:Hp) (J:JD) (X:XD):gD Try.f78 78 18 15 c (pt t 105 (.int k n)) l h J X=J (.int .u64 (F.wrapI .u64 n)) ⟨[],[],false,false,false,false⟩ l h :=
 genD_cv (C:=Cg) (gl:=Cg.glob 78) (call:=c) (o:=opA Try.f78 18 15) (d:=106) (x:=105) (s:=86) (t:=80) (by kernel_rfl) (by kernel_rfl) U86 U80 (by rw [gt_pt,if_pos rfl])
structure Norm (b:List Nat) (up:Nat) (Lb:List Nat):Prop where
 len:Lb.length=b.length+1
 dg:Dg B Lb
 v:vl B (Lb.take b.length)=vl B b*2 ^ up
 top:0<Lb.getD (b.length - 1) 0
 lead:Lb.getD (b.length - 1) 0*B ^ (b.length - 1)≤vl B b*2 ^ up
 high:2147483648*B ^ (b.length - 1)≤vl B b*2 ^ up
theorem norm_of {b Lb:List Nat} {up:Nat} (hb:b≠[]) (db:Dg B b) (hu:up<32) (h1:2147483648≤b.getD (b.length - 1) 0*2 ^ up) (h2:b.getD (b.length - 1) 0*2 ^ up<4294967296)
  (hl:Lb.length=b.length+1) (dL:Dg B Lb) (hv:vl B Lb=vl B b*2 ^ up):Norm b up Lb:=by
 have hp:0<b.length:=List.length_pos_iff.2 hb
 have hB:0<B:=by decide
 have hu0:=Nat.two_pow_pos up
 have eb:=vl_at B b (b.length - 1) (by omega)
 rw [List.drop_eq_nil_of_le (show b.length≤b.length - 1+1 by omega)] at eb
 simp only [vl,Nat.mul_zero,Nat.add_zero] at eb
 have t1:vl B (b.take (b.length - 1))<B ^ (b.length - 1):=vl_lt_of hB (db.take _) (by simp)
 have hpow:B ^ b.length=B ^ (b.length - 1)*B:=by rw [←Nat.pow_succ];congr 1;omega
 generalize hx:b.getD (b.length - 1) 0=x at *
 generalize hP:B ^ (b.length - 1)=p at *
 have hx1:(x+1)*2 ^ up≤4294967296:=by
  have e5:(4294967296:Nat)=2 ^ (32 - up)*2 ^ up:=by rw [←Nat.pow_add,Nat.sub_add_cancel (by omega)]
  rw [e5] at h2 ⊢
  exact Nat.mul_le_mul_right _ (Nat.lt_of_mul_lt_mul_right h2)
 have hlt:vl B b*2 ^ up<B ^ b.length:=by
  rw [hpow]
  have h3:vl B b<p*(x+1):=by rw [eb,Nat.mul_add,Nat.mul_one];omega
  have h4:vl B b*2 ^ up<p*(x+1)*2 ^ up:=Nat.mul_lt_mul_of_pos_right h3 hu0
  rw [Nat.mul_assoc] at h4
  exact Nat.lt_of_lt_of_le h4 (Nat.mul_le_mul_left _ hx1)
 have hvt:vl B (Lb.take b.length)=vl B b*2 ^ up:=by
  rw [←vl_mod B hB Lb dL,hv,Nat.mod_eq_of_lt hlt]
 have hhigh:2147483648*p≤vl B b*2 ^ up:=by
  have h3:p*x≤vl B b:=by rw [eb];omega
  have h4:p*x*2 ^ up≤vl B b*2 ^ up:=Nat.mul_le_mul_right _ h3
  have h5:p*2147483648≤p*(x*2 ^ up):=Nat.mul_le_mul_left _ h1
  rw [Nat.mul_assoc] at h4
  rw [Nat.mul_comm]
  omega
 have el:=vl_at B (Lb.take b.length) (b.length - 1) (by simp;omega)
 have et:(Lb.take b.length).getD (b.length - 1) 0=Lb.getD (b.length - 1) 0:=getD_take _ _ _ (by omega)
 rw [List.drop_eq_nil_of_le (show (Lb.take b.length).length≤b.length - 1+1 by simp;omega),et,hvt,hP] at el
 simp only [vl,Nat.mul_zero,Nat.add_zero] at el
 have t2:vl B ((Lb.take b.length).take (b.length - 1))<p:=by rw [←hP];exact vl_lt_of hB ((dL.take _).take _) (by simp;omega)
 have hp0:0<p:=by rw [←hP];exact Nat.pow_pos hB
 refine ⟨hl,dL,hvt,?_,?_,by rw [hP];exact hhigh⟩
 ·rcases Nat.eq_zero_or_pos (Lb.getD (b.length - 1) 0) with e | e
  ·rw [e,Nat.mul_zero,Nat.add_zero] at el;omega
  ·exact e
 ·rw [hP,el,Nat.mul_comm];omega
theorem guess_ok {rv bv bt two p:Nat} (hbt:0<bt) (hp:rv<(two+1)*p) (hl:bt*p≤bv) (hB:rv<bv*B):rv<bv*(min (two / bt) 4294967295+1):=by
 rcases Nat.lt_or_ge (two / bt) 4294967295 with h | h
 ·rw [Nat.min_eq_left (by omega)]
  have h1:two+1≤bt*(two / bt+1):=by
   have:=Nat.lt_mul_div_succ two hbt
   omega
  calc rv<(two+1)*p:=hp
   _≤bt*(two / bt+1)*p:=Nat.mul_le_mul_right _ h1
   _=bt*p*(two / bt+1):=by rw [Nat.mul_assoc,Nat.mul_comm (two / bt+1),←Nat.mul_assoc]
   _≤bv*(two / bt+1):=Nat.mul_le_mul_right _ hl
 ·rw [Nat.min_eq_right h];exact hB
structure Div (a' bv lb la i:Nat) (L O:List Nat):Prop where
 len:L.length=la+1
 olen:O.length=la
 dg:Dg B L
 odg:Dg B O
 eq:vl B L+bv*vl B O=a'
 low:vl B (L.drop i)<bv
 zero:∀ j,j<i→O.getD j 0=0
theorem div_start {a L:List Nat} {up lb bv:Nat} (da:Dg B a) (hl:L.length=a.length+1) (dL:Dg B L) (hv:vl B L=vl B a*2 ^ up) (hu:up<32) (hlb:0<lb) (hla:lb≤a.length) (hh:2147483648*B ^ (lb - 1)≤bv) :
  Div (vl B a*2 ^ up) bv lb a.length (a.length - lb+1) L (List.replicate a.length 0):=by
 refine ⟨hl,by simp,dL,dg_rep0 _,by rw [vl_rep0,hv];simp,?_,fun j _=>getD_rep0 _ j⟩
 have hB:0<B:=by decide
 rw [←vl_div B hB L dL,hv,Nat.div_lt_iff_lt_mul (Nat.pow_pos hB)]
 have h1:vl B a<B ^ a.length:=vl_lt_of hB da (Nat.le_refl _)
 have h2:(2:Nat) ^ up≤2147483648:=Nat.pow_le_pow_right (n:=2) (by decide) (show up≤31 by omega)
 have h3:B ^ a.length=B ^ (lb - 1)*B ^ (a.length - lb+1):=by rw [←Nat.pow_add];congr 1;omega
 calc vl B a*2 ^ up<B ^ a.length*2 ^ up:=Nat.mul_lt_mul_of_pos_right h1 (Nat.two_pow_pos up)
  _≤B ^ a.length*2147483648:=Nat.mul_le_mul_left _ h2
  _=2147483648*B ^ (lb - 1)*B ^ (a.length - lb+1):=by rw [h3,Nat.mul_comm,Nat.mul_assoc]
  _≤bv*B ^ (a.length - lb+1):=Nat.mul_le_mul_right _ hh
theorem Div.rest {a' bv lb la i:Nat} {L O:List Nat} (D:Div a' bv lb la (i+1) L O) (hb:bv<B ^ lb) (hi:i+lb≤la):vl B (L.drop (i+lb+1))=0:=by
 have h1:=D.low
 have h2:=vl_split B (L.drop (i+1)) lb
 have hl:=D.len
 rw [Nat.min_eq_left (show lb≤(L.drop (i+1)).length by simp;omega),List.drop_drop,show i+1+lb=i+lb+1 by omega] at h2
 rcases Nat.eq_zero_or_pos (vl B (L.drop (i+lb+1))) with e | e
 ·exact e
 ·exfalso
  have:B ^ lb*1≤B ^ lb*vl B (L.drop (i+lb+1)):=Nat.mul_le_mul_left _ e
  omega
theorem Div.part {a' bv lb la i:Nat} {L O:List Nat} (D:Div a' bv lb la (i+1) L O) (hb:bv<B ^ lb) (hi:i+lb≤la):vl B ((L.drop i).take (lb+1))=vl B (L.drop i):=by
 have h2:=vl_split B (L.drop i) (lb+1)
 rw [List.drop_drop,show i+(lb+1)=i+lb+1 by omega,D.rest hb hi] at h2
 omega
theorem Div.lt {a' bv lb la i:Nat} {L O:List Nat} (D:Div a' bv lb la (i+1) L O) (hi:i+lb≤la):vl B (L.drop i)<bv*B:=by
 have hl:=D.len
 rw [vl_drop_cons B L i (by omega)]
 have h1:=D.low
 have h2:L.getD i 0<B:=D.dg.get (by decide) i
 have h3:B*(vl B (L.drop (i+1))+1)≤B*bv:=Nat.mul_le_mul_left _ h1
 rw [Nat.mul_add,Nat.mul_one] at h3
 rw [Nat.mul_comm bv]
 omega
theorem Div.two {a' bv lb la i:Nat} {L O:List Nat} (D:Div a' bv lb la (i+1) L O) (hb:bv<B ^ lb) (hi:i+lb≤la) (hlb:0<lb):vl B (L.drop i)<(L.getD (i+lb) 0*4294967296+L.getD (i+(lb - 1)) 0+1)*B ^ (lb - 1):=by
 have hl:=D.len
 have h2:=vl_split B (L.drop i) (lb - 1)
 rw [Nat.min_eq_left (show lb - 1≤(L.drop i).length by simp;omega),List.drop_drop,vl_drop_cons B L (i+(lb - 1)) (by omega),show i+(lb - 1)+1=i+lb by omega,vl_drop_cons B L (i+lb) (by omega),D.rest hb hi,Nat.mul_zero,Nat.add_zero] at h2
 have h3:vl B ((L.drop i).take (lb - 1))<B ^ (lb - 1):=vl_lt_of (by decide) ((D.dg.drop i).take _) (by simp;omega)
 rw [h2,Nat.mul_comm _ (B ^ (lb - 1)),Nat.mul_add (B ^ (lb - 1)) _ 1,Nat.mul_one,show L.getD (i+lb) 0*4294967296+L.getD (i+(lb - 1)) 0=L.getD (i+(lb - 1)) 0+B*L.getD (i+lb) 0 by rw [Nat.mul_comm,Nat.add_comm]]
 omega
theorem Div.next {a' bv lb la i q:Nat} {L O c:List Nat} (D:Div a' bv lb la (i+1) L O) (hb:bv<B ^ lb) (hi:i+lb≤la) (hlb:0<lb) (hc:c.length=lb+1) (dc:Dg B c) (hv:vl B c+bv*q=vl B (L.drop i)) (hlt:vl B c<bv) (hq:q<B) :
  Div a' bv lb la i (put L i c) (O.set i q):=by
 have hl:=D.len
 have ho:=D.olen
 have e1:vl B ((put L i c).drop i)=vl B c:=by
  unfold put
  rw [List.append_assoc,List.drop_append,List.length_take,Nat.min_eq_left (by omega),List.drop_eq_nil_of_le (by simp;omega),List.nil_append,Nat.sub_self,List.drop_zero,vl_append,hc,show i+(lb+1)=i+lb+1 by omega,D.rest hb hi,Nat.mul_zero,Nat.add_zero]
 have e2:(put L i c).take i=L.take i:=by
  unfold put
  rw [List.append_assoc,List.take_append_of_le_length (by simp;omega),List.take_take,Nat.min_self]
 have hpl:(put L i c).length=L.length:=put_length (by omega)
 refine ⟨hpl.trans hl,by simp [ho],?_,D.odg.set _ hq,?_,by rw [e1];exact hlt,fun j hj=>by rw [getD_set_ne _ _ _ _ (by omega)];exact D.zero j (by omega)⟩
 ·intro x hx
  unfold put at hx
  rcases List.mem_append.1 hx with h1 | h1
  ·rcases List.mem_append.1 h1 with h2 | h2
   ·exact D.dg.take i x h2
   ·exact dc x h2
  ·exact D.dg.drop _ x h1
 ·have s1:=vl_split B (put L i c) i
  have s2:=vl_split B L i
  rw [e1,e2,hpl] at s1
  rw [Nat.min_eq_left (by omega)] at s1 s2
  have s3:=vl_set B O i q (by omega)
  rw [D.zero i (by omega),Nat.mul_zero,Nat.add_zero] at s3
  have s4:=D.eq
  rw [s1,s3,Nat.mul_add]
  rw [s2,←hv] at s4
  rw [Nat.mul_add] at s4
  have s5:bv*(B ^ i*q)=B ^ i*(bv*q):=by rw [←Nat.mul_assoc,←Nat.mul_assoc,Nat.mul_comm bv]
  omega
theorem div_end {va vb up lb la:Nat} {L O:List Nat} (D:Div (va*2 ^ up) (vb*2 ^ up) lb la 0 L O):vl B O*vb+vl B L / 2 ^ up=va∧vl B L / 2 ^ up<vb:=by
 have h1:=D.eq
 have h2:=D.low
 have hp:=Nat.two_pow_pos up
 rw [List.drop_zero] at h2
 have h3:vl B L / 2 ^ up<vb:=by rw [Nat.div_lt_iff_lt_mul hp];exact h2
 refine ⟨?_,h3⟩
 have h4:vl B L / 2 ^ up+vb*vl B O=va:=by
  have e:vl B L+vb*vl B O*2 ^ up=va*2 ^ up:=by rw [←h1,Nat.mul_assoc vb,Nat.mul_comm (vl B O),←Nat.mul_assoc]
  have e2:(vl B L+vb*vl B O*2 ^ up) / 2 ^ up=va:=by rw [e,Nat.mul_div_cancel _ hp]
  rwa [Nat.add_mul_div_right _ _ hp] at e2
 rw [Nat.mul_comm];omega
end Go.AM.S
end
section
namespace Go.AM.S
open Go Go.AM Go.Proofs NumL
open _root_.Go.AM.G (R)
set_option maxRecDepth 100000
theorem tbl78:tbl 78=some ⟨rc78,[.tmp 4,.tmp 5]⟩:=by kernel_rfl
theorem fin_arr_two {h:Hp} {a b d g n:Nat} {li:Option Nat} {k:IntKind} {l:List Nat} {s:St} {w:V} (hv:gt s.tm a=.arr (.loc d g) 0 n li 1 false) (hn:n=l.length) (hr:lg s.loc d=(g,.cells false (nl k l))) (hw:gt s.tm b=w) (pw:Ex1 w) (rw':w.noRefs=true) (hd:DG h.rows.length s.hp) :
  fin Pg h [.tmp a,.tmp b] s=some (.val (.tuple [.slice none false 1 (nl k l),w]) h):=by
 subst hn
 unfold fin
 have e1:resV Pg s [.tmp a,.tmp b]=some [.arr (.loc d g) 0 l.length li 1 false,w]:=by simp only [resV,rho_gt,hv,hw,Option.map_some]
 rw [e1]
 have e2:exps false s [.arr (.loc d g) 0 l.length li 1 false,w]=some ([.slice none false 1 (nl k l),w],⟨s.tm,lp s.loc d (g,.cells true (nl k l)),s.hp⟩):=by
  rw [show ∀ (st:St) (v:V) (r:List V),exps false st (v::r)=(match exp false st v with
   | none=>none
   | some (v',st')=>match exps false st' r with
    | none=>none
    | some (l',st'')=>some (v'::l',st'')) from fun _ _ _=>rfl]
  have hx:=exp_arr (tm:=s.tm) (hp:=s.hp) (li:=li) hr
  have hx':exp false s (.arr (.loc d g) 0 l.length li 1 false)=some (.slice none false 1 (nl k l),⟨s.tm,lp s.loc d (g,.cells true (nl k l)),s.hp⟩):=hx
  rw [hx']
  simp only [exps_ex [w] _ ⟨pw,trivial⟩]
 simp only [e2]
 show some (Out.val (.tuple [.slice none false 1 (nl k l),w]) (backHp h s.hp [.slice none false 1 (nl k l),w]))=_
 unfold backHp
 rw [clean_dg hd]
 simp only [V.noRefsL,V.noRefs,rw',Bool.and_self,cond_true,Option.isNone_none]
theorem short_bound {n x b:Nat} (hn:n<b) (hb:b≤4294967296) (hx:x<4294967296):(n*4294967296+x) / b<4294967296:=by
 rw [Nat.div_lt_iff_lt_mul (by omega)]
 have:=Nat.mul_le_mul_right 4294967296 (show n+1≤b by omega)
 rw [Nat.mul_comm 4294967296]
 omega
structure I78 (va:V) (a b Lb:List Nat) (up N:Nat) (s:St) (m:Nat) (L O:List Nat):Prop where
 h0:gt s.tm 0=va
 h1:gt s.tm 1=.arr (.glob N) 0 b.length (some (b.length+1)) 1 false
 h9:gt s.tm 9=.int .u64 (.ofNat up)
 h10:gt s.tm 10=.arr (.glob (N+1)) 0 (a.length+1) (some (a.length+1)) 1 false
 h11:gt s.tm 11=.arr (.loc 78 1) 0 a.length (some a.length) 1 false
 h12:gt s.tm 12=.int .i64 (.ofNat (b.length - 1))
 row:lg s.loc 78=(1,.cells false (nl .u32 O))
 rb:s.hp.rows[N]? = some (.cells false (nl .u32 Lb))
 rl:s.hp.rows[N+1]? = some (.cells false (nl .u32 L))
 dg:DG N s.hp
 D:Div (vl B a*2 ^ up) (vl B b*2 ^ up) b.length a.length m L O
def Quot (a b:List Nat) (r:V):Prop:=∃ s t d e,r=.tuple [s,t]∧Sl .u32 s d∧Sl .u32 t e∧Dg B d∧Dg B e∧Cn e∧vl B d*vl B b+vl B e=vl B a∧vl B e<vl B b∧d.length=a.length
theorem divided_spec {va vb:V} {a b:List Nat} (ha:Sl .u32 va a) (hb:Sl .u32 vb b) (da:Dg B a) (db:Dg B b) (cb:Cn b) (hne:b≠[]) (hle:b.length≤a.length) (la:a.length≤400000):Gives 78 [va,vb] (Quot a b):=by
 have hb0:0<b.length:=List.length_pos_iff.2 hne
 have htop:b.getD (b.length - 1) 0≠0:=cb _ (by omega)
 refine gives_of tbl78 fun h Q hQ=>?_
 unfold rc78
 refine sR ?_
 by_cases h1:b.length=1
 ·have hbb:b=[b.getD 0 0]:=by
   obtain ⟨x,rfl⟩:=List.length_eq_one_iff.1 h1
   rfl
  have hvb:vl B b=b.getD 0 0:=by rw [hbb,vl_one];rfl
  have hx0:b.getD 0 0≠0:=by rw [h1] at htop;exact htop
  have hxB:b.getD 0 0<4294967296:=db.get (by decide) 0
  refine ww_seq (ww_seq (ww_reg (fun n k=>by simp -implicitDefEqProofs (disch:=omega) only [go_sem,reduceIte,Nat.reduceEqDiff,gt_start,List.getD_cons_zero,List.getD_cons_succ,len_sl hb,h1,d_true];rfl) ?_))
  refine ww_true sS ?_
  refine ww_seq (ww_reg (fun n k=>by simp -implicitDefEqProofs (disch:=omega) only [go_sem,reduceIte,Nat.reduceEqDiff,gt_start,List.getD_cons_zero,List.getD_cons_succ,len_sl ha];rfl) ?_)
  refine ww_seq (ww_seq (ww_reg (fun n k=>by simp -implicitDefEqProofs (disch:=omega) only [go_sem,reduceIte,Nat.reduceEqDiff,gt_start,List.getD_cons_zero,List.getD_cons_succ,len_sl ha,i_dec];rfl) ?_))
  refine ww_for (fun m s=>∃ z O,m≤a.length∧gt s.tm 8=.int .i64 (dn m)∧gt s.tm 7=.int .u64 (.ofNat z)∧z<b.getD 0 0∧gt s.tm 0=va∧gt s.tm 1=vb∧gt s.tm 6=.arr (.loc 21 1) 0 a.length (some a.length) 1 false∧lg s.loc 21=(1,.cells false (nl .u32 O))∧O.length=a.length∧Dg B O∧vl B (a.drop m)=b.getD 0 0*vl B (O.drop m)+z∧s.hp=⟨h.rows,none,h.mods⟩) a.length ⟨0,List.replicate a.length 0,Nat.le_refl _,sS,sS,by omega,sSG,sSG,sS,sS,by simp,dg_rep0 _,by rw [List.drop_length,List.drop_eq_nil_of_le (by simp)];rfl,rfl⟩ ?_
  intro m s ⟨z,O,hm,h8,h7,hz,g0,g1,h6,hrow,hO,dO,hv,hhp⟩
  cases m with
  | zero =>
   refine ww_seq (ww_seq (ww_reg (fun n k=>by simp -implicitDefEqProofs (disch:=omega) only [go_sem,reduceIte,Nat.reduceEqDiff,h8,dn];rfl) ?_))
   refine ww_false sS (ww_exit ?_)
   rw [if_pos rfl]
   obtain ⟨r,hr,e,⟨⟨s2,rfl,hs2⟩,de,ce,he0⟩,ht⟩:=made_spec (va:=.slice none false 1 (nl .u32 [z])) (a:=[z]) (.inl ⟨false,rfl⟩) (fun x hx=>by rw [List.mem_singleton.1 hx];exact Nat.lt_trans hz hxB) (by simp) false ⟨h.rows,none,h.mods⟩
   have hl56:lg (lp s.loc 56 ((lg s.loc 56).1+1,.cells false (nl .u32 [z]))) 56=((lg s.loc 56).1+1,.cells false (nl .u32 [z])):=by rw [lg_lp,if_pos rfl]
   refine ww_seq (ww_call (hr) (fun n hn k=>by simp -implicitDefEqProofs (disch:=omega) only [go_sem,reduceIte,Nat.reduceEqDiff,h7,h6,hhp,cl_arr2 (show 1=[z].length from rfl) hl56 hn (Ex1.bool _),fld26];rfl) ?_)
   refine ww_ret (hQ _ _ (fin_arr_two (d:=21) (li:=some a.length) (g:=1) (k:=.u32) (l:=O) sS hO.symm (sS1 hrow) sS hs2.ex hs2.noRefs (fun x hx=>by cases hx)) ⟨_,_,O,e,rfl,.inl ⟨false,rfl⟩,hs2,dO,de,ce,?_,?_,hO⟩)
   ·rw [ht.vl,vl_one,hvb,Nat.mul_comm]
    simpa using hv.symm
   ·rw [ht.vl,vl_one,hvb];exact hz
  | succ i =>
   have h8':gt s.tm 8=.int .i64 (.ofNat i):=h8
   have hx:a.getD i 0<4294967296:=da.get (by decide) i
   have hq:=short_bound hz (Nat.le_of_lt hxB) hx
   refine ww_seq (ww_seq (ww_reg (fun n k=>by simp -implicitDefEqProofs (disch:=omega) only [go_sem,reduceIte,Nat.reduceEqDiff,h8',d_true];rfl) ?_))
   refine ww_true sS (ww_skip ?_)
   refine ww_seq (ww_block ?_)
   refine ww_seq (ww_reg (fun n k=>by simp -implicitDefEqProofs (disch:=omega) only [go_sem,reduceIte,Nat.reduceEqDiff,h7,g0,h8',ia24 ha,Nat.reducePow,or_shl];rfl) ?_)
   refine ww_seq (ww_reg (fun n k=>by simp -implicitDefEqProofs (disch:=omega) only [go_sem,reduceIte,Nat.reduceEqDiff,g1,ia24 hb,h6,h8',hrow];rfl) ?_)
   refine ww_reg (fun n k=>by simp -implicitDefEqProofs (disch:=omega) only [go_sem,reduceIte,Nat.reduceEqDiff,g1,ia24 hb];rfl) ?_
   refine ww_reg (fun n k=>by simp -implicitDefEqProofs (disch:=omega) only [go_sem,reduceIte,Nat.reduceEqDiff,h8',i_dec];rfl) ?_
   refine ⟨i,by omega,(z*4294967296+a.getD i 0) % b.getD 0 0,O.set i ((z*4294967296+a.getD i 0) / b.getD 0 0),by omega,sS,sS,Nat.mod_lt _ (by omega),(sS1 g0),(sS1 g1),(sS1 h6),sS,by simpa using hO,dO.set _ hq,?_,hhp⟩
   rw [vl_drop_cons B a i (by omega),vl_drop_cons B _ i (by rw [List.length_set];omega),hv,getD_set_eq _ _ _ (by omega),drop_set_ge]
   have:=Nat.div_add_mod (z*4294967296+a.getD i 0) (b.getD 0 0)
   rw [Nat.mul_add,Nat.mul_add]
   have e1:B*(b.getD 0 0*vl B (O.drop (i+1)))=b.getD 0 0*(B*vl B (O.drop (i+1))):=by rw [←Nat.mul_assoc,←Nat.mul_assoc,Nat.mul_comm B]
   have e2:B*z=z*4294967296:=Nat.mul_comm _ _
   omega
 ·have hxB:b.getD (b.length - 1) 0<4294967296:=db.get (by decide) _
  obtain ⟨_,hlz,up,rfl,hup,hlo,hhi⟩:=lz32_spec hxB (Nat.pos_of_ne_zero htop) ⟨h.rows,none,h.mods⟩
  refine ww_seq (ww_seq (ww_reg (fun n k=>by simp -implicitDefEqProofs (disch:=omega) only [go_sem,reduceIte,Nat.reduceEqDiff,gt_start,List.getD_cons_zero,List.getD_cons_succ,len_sl hb,d_false];rfl) ?_))
  refine ww_false sS (ww_skip ?_)
  refine ww_seq (ww_call (hlz) (fun n hn k=>by simp -implicitDefEqProofs (disch:=omega) only [go_sem,reduceIte,Nat.reduceEqDiff,gt_start,List.getD_cons_zero,List.getD_cons_succ,len_sl hb,ia24 hb,clc1 hn (Ex1.int _ _),wrap_u64];rfl) ?_)
  obtain ⟨k1,Lb,hs1,lLb,dLb,vLb,rl1,rr1,rs1,rd1⟩:=shifted_runs hb db (by omega) (show up≤32 by omega) ⟨h.rows,none,h.mods⟩
  have hN:=norm_of hne db hup hlo hhi lLb dLb vLb
  refine ww_seq (ww_call (hs1) (fun n hn k=>by simp -implicitDefEqProofs (disch:=omega) only [go_sem,reduceIte,Nat.reduceEqDiff,gt_start,List.getD_cons_zero,List.getD_cons_succ,len_sl hb,clc2 hn hb.ex (Ex1.int _ _),slc_pre E24 L86];rfl) ?_)
  obtain ⟨k2,L0,hs2,lL0,dL0,vL0,rl2,rr2,rs2,rd2⟩:=shifted_runs ha da (by omega) (show up≤32 by omega) k1
  refine ww_seq (ww_call (hs2) (fun n hn k=>by simp -implicitDefEqProofs (disch:=omega) only [go_sem,reduceIte,Nat.reduceEqDiff,gt_start,List.getD_cons_zero,List.getD_cons_succ,clc2 hn ha.ex (Ex1.int _ _)];rfl) ?_)
  refine ww_seq (ww_reg (fun n k=>by simp -implicitDefEqProofs (disch:=omega) only [go_sem,reduceIte,Nat.reduceEqDiff,gt_start,List.getD_cons_zero,List.getD_cons_succ,len_sl ha];rfl) ?_)
  refine ww_seq (ww_reg (fun n k=>by simp -implicitDefEqProofs (disch:=omega) only [go_sem,reduceIte,Nat.reduceEqDiff,gt_start,List.getD_cons_zero,List.getD_cons_succ,len_arr];rfl) ?_)
  refine ww_seq (ww_seq (ww_reg (fun n k=>by simp -implicitDefEqProofs (disch:=omega) only [go_sem,reduceIte,Nat.reduceEqDiff,gt_start,List.getD_cons_zero,List.getD_cons_succ,len_sl ha,len_arr];rfl) ?_))
  rw [rl1] at rl2 rr2 rs2
  have rl1':k1.rows.length=h.rows.length+1:=rl1
  have hlB:vl B b*2 ^ up<B ^ b.length:=by rw [←hN.v];exact vl_lt_of (by decide) (dLb.take _) (by simp;omega)
  have hDG:DG h.rows.length k2:=by intro x hx;rw [rd2,rd1] at hx;cases hx
  have hst:=div_start da lL0 dL0 vL0 hup hb0 hle hN.high
  refine ww_for (fun m s=>∃ L O,m≤a.length - b.length+1∧gt s.tm 13=.int .i64 (dn m)∧I78 va a b Lb up h.rows.length s m L O) (a.length - b.length+1) ⟨L0,List.replicate a.length 0,Nat.le_refl _,(by simp -implicitDefEqProofs (disch:=omega) only [go_sem,reduceIte,Nat.reduceEqDiff,dn]),⟨sSG,sS,sS,(sS1 rl1'),sS,sS,sS,by rw [rs2 _ (Nat.lt_succ_self _)];exact rr1,rr2,hDG,hst⟩⟩ ?_
  intro m s ⟨L,O,hm,h13,H⟩
  have H':=H
  obtain ⟨g0,g1,g9,g10,g11,g12,row,rb,rl,dg,D⟩:=H'
  have hLl:=D.len
  have hOl:=D.olen
  cases m with
  | zero =>
   refine ww_seq (ww_seq (ww_reg (fun n k=>by simp -implicitDefEqProofs (disch:=omega) only [go_sem,reduceIte,Nat.reduceEqDiff,h13,dn];rfl) ?_))
   refine ww_false sS (ww_exit ?_)
   rw [if_pos rfl]
   obtain ⟨de1,de2⟩:=div_end (va:=vl B a) (vb:=vl B b) (up:=up) (lb:=b.length) (la:=a.length) D
   obtain ⟨w,e,hbk,hse,dde,vee,lee⟩:=back_runs (c:=a.length+1) rl D.dg (by omega) hup
   rw [hLl] at hbk
   obtain ⟨r,hr,f,⟨⟨s2,rfl,hs2⟩,df,cf,hf0⟩,ht⟩:=made_spec hse dde (by omega) false s.hp
   refine ww_seq (ww_call (hbk.and hr) (fun n hn k=>by simp -implicitDefEqProofs (disch:=omega) only [go_sem,reduceIte,Nat.reduceEqDiff,g9,g10,g11,clc2 hn.1 (Ex1.glob _ _ _ _ _ _) (Ex1.int _ _),clc2 hn.2 hse.ex (Ex1.bool _),fld26];rfl) ?_)
   refine ww_ret (hQ _ _ (fin_arr_two (d:=78) (li:=some a.length) (g:=1) (k:=.u32) (l:=O) sS hOl.symm (by simp -implicitDefEqProofs (disch:=omega) only [go_sem,reduceIte,Nat.reduceEqDiff,row]) sS hs2.ex hs2.noRefs dg) ⟨_,_,O,f,rfl,.inl ⟨false,rfl⟩,hs2,D.odg,df,cf,?_,?_,hOl⟩)
   ·rw [ht.vl,vee];exact de1
   ·rw [ht.vl,vee];exact de2
  | succ i =>
   have h13':gt s.tm 13=.int .i64 (.ofNat i):=h13
   have hi:i+b.length≤a.length:=by omega
   have e1:i+(b.length - 1)+1=i+b.length:=by omega
   have e2:i+(b.length - 1)+2 - i=b.length+1:=by omega
   have x1:L.getD (i+b.length) 0<4294967296:=D.dg.get (by decide) _
   have x2:L.getD (i+(b.length - 1)) 0<4294967296:=D.dg.get (by decide) _
   have x3:Lb.getD (b.length - 1) 0<4294967296:=dLb.get (by decide) _
   have x4:=hN.top
   refine ww_seq (ww_seq (ww_reg (fun n k=>by simp -implicitDefEqProofs (disch:=omega) only [go_sem,reduceIte,Nat.reduceEqDiff,h13',d_true];rfl) ?_))
   refine ww_true sS (ww_skip ?_)
   refine ww_seq (ww_block ?_)
   refine ww_seq (ww_reg (fun n k=>by simp -implicitDefEqProofs (disch:=omega) only [go_sem,reduceIte,Nat.reduceEqDiff,h13',g10,g12,e1,nth_rows rl,ldg_nl L86,dv78_7,dv78_15,Nat.reducePow,or_shl];exact finD_ok (by kernel_rfl)) ?_)
   have lLb':=hN.len
   have hw:F.wrapI .u64 (.ofNat ((L.getD (i+b.length) 0*4294967296+L.getD (i+(b.length - 1)) 0) / Lb.getD (b.length - 1) 0))=.ofNat ((L.getD (i+b.length) 0*4294967296+L.getD (i+(b.length - 1)) 0) / Lb.getD (b.length - 1) 0):=wrap_u64 (Nat.lt_of_le_of_lt (Nat.div_le_self _ _) (by omega))
   refine ww_seq (ww_reg (fun n k=>by simp -implicitDefEqProofs (disch:=omega) only [go_sem,reduceIte,Nat.reduceEqDiff,g1,g12,nth_rows rb,ldg_nl L86,hw,mn_n];rfl) ?_)
   have hlt:=D.lt hi
   have hgs:=guess_ok hN.top (D.two hlB hi hb0) hN.lead hlt
   refine ww_join (M:=fun s1=>∃ q c,gt s1.tm 15=.int .u64 (.ofNat q)∧q<4294967296∧gt s1.tm 13=.int .i64 (.ofNat i)∧gt s1.tm 0=va∧gt s1.tm 1=.arr (.glob h.rows.length) 0 b.length (some (b.length+1)) 1 false∧gt s1.tm 9=.int .u64 (.ofNat up)∧gt s1.tm 10=.arr (.glob (h.rows.length+1)) 0 (a.length+1) (some (a.length+1)) 1 false∧gt s1.tm 11=.arr (.loc 78 1) 0 a.length (some a.length) 1 false∧gt s1.tm 12=.int .i64 (.ofNat (b.length - 1))∧lg s1.loc 78=(1,.cells false (nl .u32 O))∧s1.hp.rows[h.rows.length]? = some (.cells false (nl .u32 Lb))∧s1.hp.rows[h.rows.length+1]? = some (.cells false (nl .u32 (put L i c)))∧DG h.rows.length s1.hp∧Div (vl B a*2 ^ up) (vl B b*2 ^ up) b.length a.length i (put L i c) (O.set i q)) ?_ ?_
   ·refine ww_for (fun m s1=>gt s1.tm 15=.int .u64 (.ofNat m)∧m<4294967296∧vl B (L.drop i)<vl B b*2 ^ up*(m+1)∧gt s1.tm 13=.int .i64 (.ofNat i)∧I78 va a b Lb up h.rows.length s1 (i+1) L O) _ ⟨sS,Nat.lt_of_le_of_lt (Nat.min_le_right _ _) (by decide),hgs,(sS1 h13'),⟨(sS1 g0),(sS1 g1),(sS1 g9),(sS1 g10),(sS1 g11),(sS1 g12),(by simp -implicitDefEqProofs (disch:=omega) only [go_sem,reduceIte,Nat.reduceEqDiff,row]),rb,rl,dg,D⟩⟩ ?_
    intro q s1 ⟨j15,hq,hrv,j13,⟨i0,i1,i9,i10,i11,i12,irow,irb,irl,idg,_⟩⟩
    have hpt:=D.part hlB hi
    obtain ⟨ok,hq',htk,tdg,tlen,tsame,tno,tyes⟩:=takes_runs (n:=h.rows.length) (r0:=h.rows.length+1) (r1:=h.rows.length) (i:=i) (m:=b.length+1) (q:=q) (lb:=b.length) (li:=some (a.length+1 - i)) (lj:=some (b.length+1)) irl irb D.dg dLb (by omega) (by omega) (by omega) (by omega) hb0 (by omega) (by omega) hq idg (Nat.le_succ _)
    rw [hpt,hN.v] at tno tyes
    have hNr:h.rows.length<s1.hp.rows.length:=by
     rcases Nat.lt_or_ge h.rows.length s1.hp.rows.length with h1 | h1
     ·exact h1
     ·rw [List.getElem?_eq_none h1] at irb;simp at irb
    cases ok with
    | true =>
     obtain ⟨c,lc,dc,vc,rc⟩:=tyes rfl
     refine ww_seq (ww_seq (ww_call (htk) (fun n hn k=>by simp -implicitDefEqProofs (disch:=omega) only [go_sem,reduceIte,Nat.reduceEqDiff,i1,i10,i12,j13,j15,e2,slc_cut E24 L86,clc3 hn (Ex1.glob _ _ _ _ _ _) (Ex1.glob _ _ _ _ _ _) (Ex1.int _ _)];rfl) ?_))
     refine ww_false sS (ww_exit ?_)
     rw [if_pos rfl]
     refine ⟨q,c,(sS1 j15),hq,(sS1 j13),(sS1 i0),(sS1 i1),(sS1 i9),(sS1 i10),(sS1 i11),(sS1 i12),(by simp -implicitDefEqProofs (disch:=omega) only [go_sem,reduceIte,Nat.reduceEqDiff,irow]),by rw [tsame _ hNr (by omega)];exact irb,rc,tdg,D.next hlB hi hb0 lc dc vc ?_ hq⟩
     rw [Nat.mul_add,Nat.mul_one] at hrv
     omega
    | false =>
     obtain ⟨tlt,rfl⟩:=tno rfl
     have hq0:0<q:=by
      rcases Nat.eq_zero_or_pos q with e | e
      ·subst e;simp at tlt
      ·exact e
     refine ww_seq (ww_seq (ww_call (htk) (fun n hn k=>by simp -implicitDefEqProofs (disch:=omega) only [go_sem,reduceIte,Nat.reduceEqDiff,i1,i10,i12,j13,j15,e2,slc_cut E24 L86,clc3 hn (Ex1.glob _ _ _ _ _ _) (Ex1.glob _ _ _ _ _ _) (Ex1.int _ _)];rfl) ?_))
     refine ww_true sS (ww_skip (ww_block ?_))
     refine ww_reg (fun n k=>by simp -implicitDefEqProofs (disch:=omega) only [go_sem,reduceIte,Nat.reduceEqDiff,j15,wrap_u64];rfl) ?_
     exact ⟨q - 1,by omega,sS,by omega,by rw [Nat.sub_add_cancel hq0];exact tlt,(sS1 j13),⟨(sS1 i0),(sS1 i1),(sS1 i9),(sS1 i10),(sS1 i11),(sS1 i12),(by simp -implicitDefEqProofs (disch:=omega) only [go_sem,reduceIte,Nat.reduceEqDiff,irow]),irb,irl,idg,D⟩⟩
   ·intro s1 ⟨q,c,j15,hq,j13,i0,i1,i9,i10,i11,i12,irow,irb,irl,idg,iD⟩
    refine ww_reg (fun n k=>by simp -implicitDefEqProofs (disch:=omega) only [go_sem,reduceIte,Nat.reduceEqDiff,j13,j15,i11,irow,wrap_u32];rfl) ?_
    refine ww_reg (fun n k=>by simp -implicitDefEqProofs (disch:=omega) only [go_sem,reduceIte,Nat.reduceEqDiff,j13,i_dec];rfl) ?_
    exact ⟨i,by omega,put L i c,O.set i q,by omega,sS,⟨(sS1 i0),(sS1 i1),(sS1 i9),(sS1 i10),(sS1 i11),(sS1 i12),sS,irb,irl,idg,iD⟩⟩
end Go.AM.S
end
section
namespace Go.AM.S
open Go Go.AM Go.Proofs NumL
open _root_.Go.AM.G (R)
set_option maxRecDepth 100000
theorem tbl70:tbl 70=some ⟨rc70,[.cell 2 31]⟩:=by kernel_rfl
theorem mustR_spec {l:List Nat} (hd:Dg 256 l) (hl:l.length≤1000):Gives 70 [.str (sl l)] fun r=>IsR 252 r (zOf l):=by
 refine gives_of tbl70 fun h Q hQ=>?_
 obtain ⟨_,hp,v,rfl,hI⟩:=parseR_spec hd hl ⟨h.rows,none,h.mods⟩
 obtain ⟨s,b,rfl,ps,es,qs⟩:=hI.form
 unfold rc70
 refine sR ?_
 refine ww_seq (ww_call (hp) (fun n hn k=>by simp -implicitDefEqProofs (disch:=omega) only [go_sem,reduceIte,Nat.reduceEqDiff,gt_start,List.getD_cons_zero,List.getD_cons_succ,clc1 hn (Ex1.str _),ext_tuple,stc_two N31 1 (.bool b) s (.bool false) .nils _ rfl ps.ok];rfl) ?_)
 refine ww_seq (ww_reg (fun n k=>by simp -implicitDefEqProofs (disch:=omega) only [go_sem,reduceIte,Nat.reduceEqDiff,ldc_two L31,stc_two N31 1 (.bool b) s (.bool false) .nils _ rfl ps.ok];rfl) ?_)
 exact ww_ret (hQ _ _ (fin_cell (x:=.bool b) (y:=s) (f:=false) (d:=2) (g:=1) (by kernel_rfl) sS sS (Pl.bool _) ps rfl) hI)
end Go.AM.S
end
section
namespace Go.AM.S
open Go Go.AM Go.Proofs NumL
open _root_.Go.AM.G (R)
set_option maxRecDepth 100000
end Go.AM.S
end
section
namespace Go.AM.S
open Go Go.AM Go.Proofs NumL
open _root_.Go.AM.G (R)
set_option maxRecDepth 100000
section
variable {C:Cfg} {P:Program} {call:CallF} {gl:Nat→Bool} {o:Oper} {t' tm:Tm} {loc:Lo} {hp:Hp}
theorem genD_text {d x s0 g n:Nat} {li:Option Nat} {s t e:TypeId} {l:List Nat} {J:JD} {X:XD} (hd:o.dst=some d) (ho:o.op=.convert s t (.tmp x)) (h1:P.underlying s=some (.slice e)) (h2:P.underlying t=some .string) (h3:P.underlying e=some (.int .u8))
  (hx:gt t' x=.arr (.loc s0 g) 0 n li 1 false) (hi:itemsOf ⟨t',loc,hp⟩ (.arr (.loc s0 g) 0 n li 1 false)=some (nl .u8 l)) (hl:Dg 256 l) :
  genD P C call gl o t' loc hp J X=J (.str (sl l)) ⟨[s0],[],false,false,false,false⟩ loc hp:=by
 have hp1:locV P C gl (⟨t',loc,hp⟩:St).ρ (⟨t',loc,hp⟩:St).lc o=none:=by
  unfold locV
  simp only [ho,pureV,opd_gt,hx,convV,h1,h2]
  rfl
 have hf:footV P C gl (⟨t',loc,hp⟩:St).ρ (⟨t',loc,hp⟩:St).lc o=some ⟨[s0],[],false,false,false,false⟩:=by
  unfold footV
  rw [hp1]
  simp only [ho,opd_gt,hx]
  unfold convFoot
  rw [h2]
 have hs:stepV P C gl ⟨t',loc,hp⟩ o=some (.val (.str (sl l)) ⟨t',loc,hp⟩):=by
  unfold stepV
  rw [hp1]
  unfold stepG
  simp only [ho,hd,convS,h1,h2,h3,opd_gt,hx,hi,bytesOf_nl,Option.map_some,ofL_bytes hl]
 unfold genD
 rw [F.e_footV,F.e_oneV,F.e_rho,F.e_lcf,hf]
 show G.onSome (oneV P C call gl ⟨t',loc,hp⟩ o) _ none=_
 unfold oneV
 rw [hs]
 have e1:F.settle hp hp ⟨[s0],[],false,false,false,false⟩ = ⟨[s0],[],false,false,false,false⟩:=by
  unfold F.settle
  rw [Nat.beq_refl,Nat.beq_refl];rfl
 simp only [putV,hd]
 show J (gt (aset t' d (V.str (sl l))) d) (F.settle hp hp ⟨[s0],[],false,false,false,false⟩) loc hp=_
 rw [gt_eq,aget_aset,if_pos rfl,e1]
end
theorem dt24 {s0 g n:Nat} {li:Option Nat} {l:List Nat} {lo:Lo} {h:Hp} (hi:∀ tm,itemsOf ⟨tm,lo,h⟩ (.arr (.loc s0 g) 0 n li 1 false)=some (nl .u8 l)) (hl:Dg 256 l) (c:CallF) (t:Tm) (J:JD) (X:XD) :
  gD Try.f24 24 12 2 c (pt t 58 (.arr (.loc s0 g) 0 n li 1 false)) lo h J X=J (.str (sl l)) ⟨[s0],[],false,false,false,false⟩ lo h :=
 genD_text (C:=Cg) (gl:=Cg.glob 24) (call:=c) (o:=opA Try.f24 12 2) (d:=59) (x:=58) (s:=51) (t:=9) (e:=5) (by kernel_rfl) (by kernel_rfl) U51 U9 U5 (by rw [gt_pt,if_pos rfl]) (hi _) hl
theorem tx24 {l:Lo} {h:Hp} {w:V} {d:List Nat} (hw:∀ q,w≠.str q) (hi:∀ tm,itemsOf ⟨tm,l,h⟩ w=some (nl .u8 d)) (hd:Dg 256 d) (c:CallF) (t:Tm) (j:V→Lo→Hp→R):go1 Try.f24 24 11 1 52 w c t l h j=j (.str (sl d)) l h :=
 gen_text (C:=Cg) (gl:=Cg.glob 24) (call:=c) (tm:=t) (loc:=l) (hp:=h) (j:=j) (x:=52) (o:=opA Try.f24 11 1) (d:=53) (s:=51) (t:=9) (e:=5) (by kernel_rfl) (by kernel_rfl) U51 U9 U5 hw hi hd
end Go.AM.S
end
section
namespace Go.AM.S
open Go Go.AM Go.Proofs NumL
open _root_.Go.AM.G (R)
section
variable {P:Program} {C:Cfg} {call:CallF} {gl:Nat→Bool} {o:Oper} {loc:Lo} {hp:Hp}
theorem gen_growY {d d1 x y t e b : Nat} (h1 : d1 ≠ d) (hi : ApI P o d x y t) (hA : C.isArr t = true) (hg : gl d = false) (he : elemT P t = some e) (hl : layE P e = some (1, false)) (hb : byteE P e = some b) (hxy : x ≠ y)
    {k : IntKind} {l ys : List Nat} {v w : V} (hv : (l = [] ∧ v = .nils) ∨ (l ≠ [] ∧ ∃ g, v = .arr (.loc d1 g) 0 l.length (some l.length) 1 false ∧ lg loc d1 = (g, .cells false (nl k l)))) (hw : ∀ tm hp, itemsOf ⟨tm, loc, hp⟩ w = some (nl k ys)) (hys : ys ≠ []) (hn : (l.length + ys.length) * b ≤ 70368744177664) :
    ∃ v' loc', (∀ (call : CallF) (tm : Tm) (hp : Hp) (j : V → Lo → Hp → R), gen P C call gl o (pt (pt .lf x v) y w) tm loc hp j = j v' loc' hp) ∧ Ar loc' d v' k (l ++ ys) ∧ ∀ i, i ≠ d → i ≠ d1 → lg loc' i = lg loc i := by
  obtain ⟨hd, c, ho, hc, ha, hty, hni⟩ := hi
  have hx : gt (pt (pt .lf x v) y w) x = v := by rw [gt_pt, if_neg (Ne.symm hxy), gt_pt, if_pos rfl]
  have hy : gt (pt (pt .lf x v) y w) y = w := by rw [gt_pt, if_pos rfl]
  have hp1 : ∀ (tm : Tm) hp, locV P C gl (⟨tm, loc, hp⟩ : St).ρ (⟨tm, loc, hp⟩ : St).lc o = none := by
    intro tm hp
    unfold locV
    simp only [ho, pureV, hc, ha, Option.map_none]
  have hne : ∀ {q : Prop}, nl k ys = [] → q := fun h => absurd (by simpa [nl] using h) hys
  have hmb : ∀ n, n ≤ 70368744177664 → Nat.ble n maxBytes = true := fun n h => by rw [Nat.ble_eq]; exact h
  rcases hv with ⟨rfl, rfl⟩ | ⟨hl0, g, rfl, hrow⟩
  · refine ⟨.arr (.loc d ((lg loc d).1 + 1)) 0 ys.length none 1 false, lp loc d ((lg loc d).1 + 1, .cells false (nl k ys)), fun call tm hp j => gen_val (st := ⟨pt (pt .lf x .nils) y w, lp loc d ((lg loc d).1 + 1, .cells false (nl k ys)), hp⟩) hd ?_, .inr ⟨by simpa using hys, (lg loc d).1 + 1, by simp, by rw [lg_lp, if_pos rfl]; simp⟩, fun i hi _ => by rw [lg_lp, if_neg (Ne.symm hi)]⟩
    unfold stepV
    rw [hp1]
    unfold stepG
    simp only [ho, callS, hc, hty, hd, opds, ha, List.map_cons, List.map_nil, opd_gt, hx, hy, hni, cond_true, appendV, he, hl, hb, hw, fits_nl]
    split
    · rename_i h0; exact hne h0
    · rw [hmb _ (by simpa [nl_length] using hn)]
      simp only [cond_true, hA, growArr, hg, Bool.false_and, cond_false, addRow, lc_lg, aset_lp, flat_nl, nl_length]
  · have hrow' : ∀ tm hp, getRow ⟨tm, loc, hp⟩ (.loc d1 g) = some (.cells false (nl k l)) := fun tm hp => getRow_loc hrow
    refine ⟨.arr (.loc d ((lg loc d).1 + 1)) 0 (l ++ ys).length none 1 false, lp loc d ((lg loc d).1 + 1, .cells false (nl k (l ++ ys))), fun call tm hp j => gen_val (st := ⟨pt (pt .lf x (.arr (.loc d1 g) 0 l.length (some l.length) 1 false)) y w, lp loc d ((lg loc d).1 + 1, .cells false (nl k (l ++ ys))), hp⟩) hd ?_, .inr ⟨by simp [hl0], _, rfl, by rw [lg_lp, if_pos rfl]⟩, fun i hi hj => by rw [lg_lp, if_neg (Ne.symm hi)]⟩
    · unfold stepV
      rw [hp1]
      unfold stepG
      simp only [ho, callS, hc, hty, hd, opds, ha, List.map_cons, List.map_nil, opd_gt, hx, hy, hni, cond_true, appendV, he, hl, hb, hw, fits_nl, hrow', nl_length, Nat.beq_refl, beq_self_eq_true, Bool.and_self, Nat.zero_add, Nat.mul_one]
      rw [show Nat.ble l.length l.length = true from by rw [Nat.ble_eq]; exact Nat.le_refl _, hmb _ hn]
      simp only [Bool.and_self, cond_true]
      split
      · rename_i h0; exact hne h0
      · simp only [isLoc, Bool.not_true, Bool.false_and, cond_false]
        rw [show Nat.ble (l.length + ys.length) l.length = false from by
          cases hb : Nat.ble (l.length + ys.length) l.length with
          | false => rfl
          | true => rw [Nat.ble_eq] at hb; have : ys.length ≠ 0 := by simpa using hys
                    omega]
        simp only [cond_false, growArr, hg, Bool.false_and, setRow_loc, addRow, lc_lg, lg_lp, if_neg h1, aset_lp, flat_nl, nl_append, List.length_append, cond_true]
        rw [List.drop_zero, show List.take l.length (nl k l) = nl k l from by rw [← nl_length k l, List.take_length]]
end
end Go.AM.S
end
section
namespace Go.AM.S
open Go Go.AM Go.Proofs NumL
open _root_.Go.AM.G (R)
set_option maxRecDepth 100000
theorem fin_cells2 {h:Hp} {a t d g a2 t2 d2 g2:Nat} {f f2:Bool} {s:St} {x y x2 y2:V} (hl:layE Pg t=some (2,true)) (hl2:layE Pg t2=some (2,true)) (hv:gt s.tm a=.ptr (.loc d g) 0) (hv2:gt s.tm a2=.ptr (.loc d2 g2) 0) (hr:lg s.loc d=(g,.cells f [x,y])) (hr2:lg s.loc d2=(g2,.cells f2 [x2,y2])) (hx:Pl x) (hy:Pl y) (hx2:Pl x2) (hy2:Pl y2) (hc:DG h.rows.length s.hp) :
  fin Pg h [.cell a t,.cell a2 t2] s=some (.val (.tuple [.agg [x,y],.agg [x2,y2]]) h):=by
 unfold fin
 have e1:resV Pg s [.cell a t,.cell a2 t2]=some [.agg [x,y],.agg [x2,y2]]:=by
  simp only [resV,rho_gt,hv,hv2,getRow_loc hr,getRow_loc hr2,partV,hl,hl2,Option.map_some]
  rfl
 rw [e1]
 have e2:=exps_ex [.agg [x,y],.agg [x2,y2]] s ⟨exp_agg (cs:=[x,y]) (by intro v hv;simp at hv;rcases hv with rfl | rfl<;>assumption),exp_agg (cs:=[x2,y2]) (by intro v hv;simp at hv;rcases hv with rfl | rfl<;>assumption),trivial⟩
 simp only [e2]
 unfold backHp
 rw [clean_dg hc]
 simp only [V.noRefsL,V.noRefs,hx.refs,hy.refs,hx2.refs,hy2.refs,Bool.and_self,cond_true]
theorem a24_10 {g:Nat} {loc:Lo} {w:V} {ys:List Nat} (hrow:lg loc 48=(g,.cells false (nl .u8 [45]))) (hw:∀ (tm:Tm) (hp:Hp),itemsOf ⟨tm,loc,hp⟩ w=some (nl .u8 ys)) (hys:ys≠[]) (hn:ys.length≤1000000) :
  ∃ v' loc',(∀ (c:CallF) (tm:Tm) (hp:Hp) (j:V→Lo→Hp→R),go2 Try.f24 24 10 2 48 49 (.arr (.loc 48 g) 0 1 (some 1) 1 false) w c tm loc hp j=j v' loc' hp)∧Ar loc' 50 v' .u8 (45::ys)∧∀ i,i≠50→i≠48→lg loc' i=lg loc i :=
 gen_growY (k:=.u8) (l:=[45]) (d1:=48) (C:=Cg) (gl:=Cg.glob 24) (by decide) i24_10_2 (by kernel_rfl) (by kernel_rfl) (e:=5) (by kernel_rfl) (by kernel_rfl) (b:=1) (by kernel_rfl) (by decide) (.inr ⟨by simp,g,rfl,hrow⟩) hw hys (by simp;omega)
end Go.AM.S
end
section
namespace Go.AM.S
open Go Go.AM Go.Proofs NumL
open _root_.Go.AM.G (R)
set_option maxRecDepth 100000
theorem tbl24:tbl 24=some ⟨rc24,[.cell 2 26,.cell 3 31]⟩:=by kernel_rfl
theorem of24_spec {l:List Nat} (hd:Dg 256 l) (hl:l.length≤300):Gives 24 [.str (sl l)] fun r=>∃ v w z,r=.tuple [v,w]∧IsI 1002 v z∧IsR 252 w z:=by
 refine gives_of tbl24 fun h Q hQ=>?_
 unfold rc24
 refine sR ?_
 refine sR ?_
 refine ww_join (M:=fun s=>∃ v4 out,gt s.tm 4=v4∧Ar s.loc 40 v4 .u8 out∧Dg 256 out∧out.length≤l.length∧gt s.tm 0=.str (sl l)∧gt s.tm 2=.ptr (.loc 2 1) 0∧gt s.tm 3=.ptr (.loc 3 1) 0∧lg s.loc 2=(1,.cells false [.nils,.bool false])∧lg s.loc 3=(1,.cells false [.bool false,.nils])∧s.hp=⟨h.rows,none,h.mods⟩) ?_ (fun s ⟨v4,out,a4,aar,adg,alen,a0,a2,a3,al2,al3,ah⟩=>?_)
 ·refine sR ?_
  refine ww_for (fun m s=>∃ i v4 out,m+i=l.length∧gt s.tm 5=.int .i64 (.ofNat i)∧gt s.tm 4=v4∧Ar s.loc 40 v4 .u8 out∧Dg 256 out∧out.length≤i∧gt s.tm 0=.str (sl l)∧gt s.tm 2=.ptr (.loc 2 1) 0∧gt s.tm 3=.ptr (.loc 3 1) 0∧lg s.loc 2=(1,.cells false [.nils,.bool false])∧lg s.loc 3=(1,.cells false [.bool false,.nils])∧s.hp=⟨h.rows,none,h.mods⟩) l.length ⟨0,.nils,[],rfl,sS,sS,.inl ⟨rfl,rfl⟩,Dg.nil _,Nat.le_refl _,sSG,sS,sS,sS,sS,rfl⟩ ?_
  intro m s ⟨i,v4,out,hm,a5,a4,aar,adg,alen,a0,a2,a3,al2,al3,ah⟩
  refine sQ2 a0 a5 ?_
  refine ww_if (by simp only [gt_pt,reduceIte];rfl) (fun hi=>ww_skip ?_) (fun hi=>ww_exit ?_)
  ·have hx:l.getD i 0<256:=hd.get (by decide) i
   refine ww_seq (ww_block ?_)
   refine ww_mono (N:=fun s2=>∃ v4 out,gt s2.tm 4=v4∧Ar s2.loc 40 v4 .u8 out∧Dg 256 out∧out.length≤i+1∧Kp [0,2,3,5] s.tm s2.tm∧lg s2.loc 2=(1,.cells false [.nils,.bool false])∧lg s2.loc 3=(1,.cells false [.bool false,.nils])∧s2.hp=s.hp) (X:=fun _ _=>False) (Q:=fun _=>False) ?_ ?_ (fun _ _ h=>h.elim) (fun _ h=>h.elim)
   ·refine ww_join (M:=fun s2=>∃ B:Bool,gt s2.tm 34=.bool B∧Kp [0,2,3,4,5] s.tm s2.tm∧s2.loc=s.loc∧s2.hp=s.hp) ?_ (fun s2 ⟨B0,g34,gk,gl,gh⟩=>?_)
    ·by_cases c1:48≤l.getD i 0
     ·by_cases c2:l.getD i 0≤57
      ·by_cases c3:0<out.length
       ·refine ww_reg (fun n k=>by simp -implicitDefEqProofs (disch:=omega) only [go_sem,reduceIte,Nat.reduceEqDiff,a0,a5,a4,idx_sl hd,aar.len,decide_eq_true c1,decide_eq_true c2,decide_eq_true c3];rfl) ?_
        exact ⟨true,sS,(by (try dsimp only);repeat (first | with_reducible exact Kp_refl _ _ | with_reducible refine Kp_pt (by decide) ?_)),rfl,rfl⟩
       ·refine ww_reg (fun n k=>by simp -implicitDefEqProofs (disch:=omega) only [go_sem,reduceIte,Nat.reduceEqDiff,a0,a5,a4,idx_sl hd,aar.len,decide_eq_true c1,decide_eq_true c2,decide_eq_false c3];rfl) ?_
        exact ⟨decide (48<l.getD i 0),sS,(by (try dsimp only);repeat (first | with_reducible exact Kp_refl _ _ | with_reducible refine Kp_pt (by decide) ?_)),rfl,rfl⟩
      ·refine ww_reg (fun n k=>by simp -implicitDefEqProofs (disch:=omega) only [go_sem,reduceIte,Nat.reduceEqDiff,a0,a5,idx_sl hd,decide_eq_true c1,decide_eq_false c2];rfl) ?_
       exact ⟨false,sS,(by (try dsimp only);repeat (first | with_reducible exact Kp_refl _ _ | with_reducible refine Kp_pt (by decide) ?_)),rfl,rfl⟩
     ·refine ww_reg (fun n k=>by simp -implicitDefEqProofs (disch:=omega) only [go_sem,reduceIte,Nat.reduceEqDiff,a0,a5,idx_sl hd,decide_eq_false c1];rfl) ?_
      exact ⟨false,sS,(by (try dsimp only);repeat (first | with_reducible exact Kp_refl _ _ | with_reducible refine Kp_pt (by decide) ?_)),rfl,rfl⟩
    ·have g0:=(gk 0 (by decide)).trans a0;have g4:=(gk 4 (by decide)).trans a4;have g5:=(gk 5 (by decide)).trans a5
     cases B0 with
     | true =>
      refine ww_true g34 ?_
      obtain ⟨v6,l6,happ,har6,hfr6⟩:=a24_6_5 (l.getD i 0) aar (by omega)
      refine ww_reg (fun n k=>by simp -implicitDefEqProofs (disch:=omega) only [go_sem,reduceIte,Nat.reduceEqDiff,g0,g4,g5,gl,idx_sl hd,happ];rfl) ?_
      exact ⟨v6,_,sS,har6,adg.snoc hx,by simp;omega,(fun j hj=>by rw [gt_pt,if_neg (by intro e;subst e;simp at hj)];exact gk j (by simp at hj ⊢;omega)),by rw [hfr6 2 (by decide) (by decide)];exact al2,by rw [hfr6 3 (by decide) (by decide)];exact al3,gh⟩
     | false =>
      refine ww_false g34 (ww_skip ?_)
      exact ⟨v4,out,g4,by rw [gl];exact aar,adg,by omega,fun j hj=>gk j (by simp at hj ⊢;omega),by rw [gl];exact al2,by rw [gl];exact al3,gh⟩
   ·intro s2 ⟨v6,out6,b4,bar,bdg,blen,bk,bl2,bl3,bh⟩
    have b5:=(bk 5 (by decide)).trans a5
    refine sE1 b5 ?_
    exact ⟨m - 1,by omega,i+1,v6,out6,by omega,sS,(sS1 b4),bar,bdg,blen,(by simp -implicitDefEqProofs (disch:=omega) only [go_sem,reduceIte,Nat.reduceEqDiff,bk 0 (by decide),a0]),(by simp -implicitDefEqProofs (disch:=omega) only [go_sem,reduceIte,Nat.reduceEqDiff,bk 2 (by decide),a2]),(by simp -implicitDefEqProofs (disch:=omega) only [go_sem,reduceIte,Nat.reduceEqDiff,bk 3 (by decide),a3]),bl2,bl3,bh.trans ah⟩
  ·rw [if_pos rfl]
   exact ⟨v4,out,(sS1 a4),aar,adg,by omega,(sS1 a0),(sS1 a2),(sS1 a3),al2,al3,ah⟩
 ·refine ww_join (M:=fun s2=>∃ σ g li t,(σ = 44∨σ = 40∨σ = 50)∧gt s2.tm 4=.arr (.loc σ g) 0 t.length li 1 false∧lg s2.loc σ = (g,.cells false (nl .u8 t))∧Dg 256 t∧t.length≤301∧gt s2.tm 2=.ptr (.loc 2 1) 0∧gt s2.tm 3=.ptr (.loc 3 1) 0∧lg s2.loc 2=(1,.cells false [.nils,.bool false])∧lg s2.loc 3=(1,.cells false [.bool false,.nils])∧s2.hp=⟨h.rows,none,h.mods⟩) ?_ (fun s2 ⟨σ,g,li,t,hσ,b4,hrow,tdg,tlen,b2,b3,bl2,bl3,bh⟩=>?_)
  ·rcases Nat.eq_zero_or_pos out.length with e | e
   ·refine ww_seq (ww_reg (fun n k=>by simp -implicitDefEqProofs (disch:=omega) only [go_sem,reduceIte,Nat.reduceEqDiff,a4,aar.len,decide_eq_true e];rfl) ?_)
    refine ww_true sS ?_
    refine sE ?_
    exact ⟨44,(lg s.loc 44).1+1,some 1,[48],.inl rfl,(by simp -implicitDefEqProofs (disch:=omega) only [go_sem,reduceIte,Nat.reduceEqDiff,List.length_cons,List.length_nil]),sS,(by intro x hx;simp at hx;subst hx;decide),by simp,(sS1 a2),(sS1 a3),(sS1 al2),(sS1 al3),ah⟩
   ·refine ww_seq (ww_reg (fun n k=>by simp -implicitDefEqProofs (disch:=omega) only [go_sem,reduceIte,Nat.reduceEqDiff,a4,aar.len,decide_eq_false (show ¬out.length=0 by omega)];rfl) ?_)
    refine ww_false sS ?_
    have hl0:0<l.length:=by omega
    rcases aar with ⟨e0,_⟩ | ⟨hne,g,rfl,hrow⟩
    ·subst e0;simp at e
    refine ww_seq (ww_reg (fun n k=>by simp -implicitDefEqProofs (disch:=omega) only [go_sem,reduceIte,Nat.reduceEqDiff,a0,idx_sl hd];rfl) ?_)
    refine ww_if (by simp only [gt_pt,reduceIte];rfl) (fun h45=>?_) (fun h45=>ww_skip ?_)
    ·obtain ⟨v6,l6,happ,har,hfr⟩:=a24_10 (w:=.arr (.loc 40 g) 0 out.length none 1 false) (ys:=out) (loc:=lp s.loc 48 ((lg s.loc 48).1+1,.cells false (nl .u8 [45]))) (g:=(lg s.loc 48).1+1) (by rw [lg_lp,if_pos rfl]) (fun tm hp=>getRow_arr (by rw [lg_lp,if_neg (by decide)];exact hrow)) hne (by omega)
     refine sE2 a4 happ ?_
     rcases har with ⟨q,_⟩ | ⟨_,g5,rfl,hr5⟩
     ·simp at q
     exact ⟨50,g5,none,45::out,.inr (.inr rfl),sS,hr5,(by intro x hx;rcases List.mem_cons.1 hx with rfl | hx;decide;exact adg x hx),by simp;omega,(sS1 a2),(sS1 a3),by rw [hfr 2 (by decide) (by decide)];exact (sS1 al2),by rw [hfr 3 (by decide) (by decide)];exact (sS1 al3),ah⟩
    ·exact ⟨40,g,none,out,.inr (.inl rfl),(sS1 a4),hrow,adg,by omega,(sS1 a2),(sS1 a3),al2,al3,ah⟩
  ·obtain ⟨_,hp1,v,rfl,hvI⟩:=parse_spec tdg (by omega) ⟨h.rows,none,h.mods⟩
   obtain ⟨w,hp2,hwR⟩:=mustR_spec tdg (by omega) ⟨h.rows,none,h.mods⟩
   obtain ⟨sv,bv,rfl,pv,ev,qv⟩:=hvI.form
   obtain ⟨sw,bw,rfl,pw,ew,qw⟩:=hwR.form
   refine ww_seq (ww_call (hp1) (fun n hn k=>by simp -implicitDefEqProofs (disch:=omega) only [go_sem,reduceIte,Nat.reduceEqDiff,b4,bh,tx24 (l:=s2.loc) (h:=⟨h.rows,none,h.mods⟩) (w:=.arr (.loc σ g) 0 t.length li 1 false) (fun q e=>by cases e) (fun tm=>getRow_arr hrow) tdg,clc1 hn (Ex1.str _),ext_tuple,stc_two N26 ((lg s2.loc 6).1+1) sv (.bool bv) .nils (.bool false) _ pv.ok rfl];rfl) ?_)
   have hσ6:σ≠6:=by omega
   have hF:∀ x:R,finD (rgA Try.f24 12).toList [] [(0,3)] [⟨[3],[3],false,false,false,false⟩,⟨[2],[2],false,false,false,false⟩,⟨[],[],true,false,false,false⟩,⟨[σ],[],false,false,false,false⟩,ft0,⟨[6],[],false,false,false,false⟩] x=x:=by
    intro x
    rcases hσ with rfl | rfl | rfl
    ·exact finD_ok (by kernel_rfl)
    ·exact finD_ok (by kernel_rfl)
    ·exact finD_ok (by kernel_rfl)
   refine ww_seq (ww_call hp2 (fun n hn k=>by
    simp -implicitDefEqProofs (disch:=omega) only [go_sem,reduceIte,Nat.reduceEqDiff,b2,b3,b4,bl2,bl3,ldc_two L26,dt24 (lo:=lp (lp s2.loc 6 ((lg s2.loc 6).1+1,.cells false [.nils,.bool false])) 6 ((lg s2.loc 6).1+1,.cells false [sv,.bool bv])) (h:=⟨h.rows,none,h.mods⟩) (s0:=σ) (g:=g) (n:=t.length) (li:=li) (fun tm=>getRow_arr (by rw [lg_lp,if_neg (Ne.symm hσ6),lg_lp,if_neg (Ne.symm hσ6)];exact hrow)) tdg,cld1 hn (Ex1.str _) rfl,stc_two N26 1 sv (.bool bv) .nils (.bool false) _ pv.ok rfl,stc_two N31 1 (.bool bw) sw (.bool false) .nils _ rfl pw.ok]
    exact hF _) ?_)
   exact ww_ret (hQ _ _ (fin_cells2 (x:=sv) (y:=.bool bv) (x2:=.bool bw) (y2:=sw) (d:=2) (g:=1) (d2:=3) (g2:=1) (f:=false) (f2:=false) (by kernel_rfl) (by kernel_rfl) (sS1 b2) (sS1 b3) sS sS pv (Pl.bool _) (Pl.bool _) pw (fun x hx=>by cases hx)) ⟨_,_,zOf t,rfl,hvI,hwR⟩)
end Go.AM.S
end
section
namespace Go.AM.S
open Go Go.AM Go.Proofs NumL
open _root_.Go.AM.G (R)
set_option maxRecDepth 100000
section
variable {C:Cfg} {P:Program} {call:CallF} {gl:Nat→Bool} {o:Oper} {t' tm:Tm} {loc:Lo} {hp:Hp}
theorem genD_pure {d:Nat} {v:V} {J:JD} {X:XD} {t:TypeId} {l:Array (Nat × Operand)} (hd:o.dst=some d) (ho:o.op=.build t l) (hp1:locV P C gl (⟨t',loc,hp⟩:St).ρ (⟨t',loc,hp⟩:St).lc o=some (v,none)) :
  genD P C call gl o t' loc hp J X=J v ⟨[],[],false,false,false,false⟩ loc hp:=by
 have hf:footV P C gl (⟨t',loc,hp⟩:St).ρ (⟨t',loc,hp⟩:St).lc o=some ⟨[],[],false,false,false,false⟩:=by
  unfold footV
  rw [hp1]
  simp only [ho]
 have hs:stepV P C gl ⟨t',loc,hp⟩ o=some (.val v ⟨t',loc,hp⟩):=by
  unfold stepV
  rw [hp1];rfl
 unfold genD
 rw [F.e_footV,F.e_oneV,F.e_rho,F.e_lcf,hf]
 show G.onSome (oneV P C call gl ⟨t',loc,hp⟩ o) _ none=_
 unfold oneV
 rw [hs]
 have e1:F.settle hp hp ⟨[],[],false,false,false,false⟩ = ⟨[],[],false,false,false,false⟩:=by
  unfold F.settle
  rw [Nat.beq_refl,Nat.beq_refl];rfl
 simp only [putV,hd]
 show J (gt (aset t' d v) d) (F.settle hp hp ⟨[],[],false,false,false,false⟩) loc hp=_
 rw [gt_eq,aget_aset,if_pos rfl,e1]
end
theorem db37_2_0 (c:CallF) (t:Tm) (l:Lo) (h:Hp) (J:JD) (X:XD):gD Try.f37 37 2 0 c t l h J X=J (.agg [.nils,.bool false]) ⟨[],[],false,false,false,false⟩ l h :=
 genD_pure (C:=Cg) (gl:=Cg.glob 37) (call:=c) (o:=opA Try.f37 2 0) (d:=15) (t:=26) (l:=#[]) (by kernel_rfl) (by kernel_rfl) (by kernel_rfl)
theorem IsI.shrink {k l:Nat} {v:V} {z:Int} (h:IsI k v z) (hz:z.natAbs<B ^ l):IsI l v z:=by
 obtain ⟨d,b,⟨hv,dd,cd,h0⟩,rfl,hl⟩:=h
 refine ⟨d,b,⟨hv,dd,cd,h0⟩,rfl,?_⟩
 rcases Nat.lt_or_ge l d.length with h1 | h1
 ·exfalso
  have h2:=vl_ge (B:=B) cd (by intro e;subst e;simp at h1)
  have h3:(zv d b).natAbs=vl B d:=by unfold zv;cases b<;>simp
  rw [h3] at hz
  have h4:B ^ l≤B ^ (d.length - 1):=Nat.pow_le_pow_right (by decide) (by omega)
  omega
 ·exact h1
theorem IsI.abs_lt {k:Nat} {v:V} {z:Int} (h:IsI k v z):z.natAbs<B ^ k:=by
 obtain ⟨d,b,⟨hv,dd,cd,h0⟩,rfl,hl⟩:=h
 have h3:(zv d b).natAbs=vl B d:=by unfold zv;cases b<;>simp
 rw [h3]
 exact vl_lt_of (by decide) dd hl
theorem div_pos' {d e q r:Nat} (h:q*e+r=d) (hr:r<e):(d:Int) / (e:Int)=q∧(d:Int) % (e:Int)=r:=by
 rw [Int.ediv_emod_unique (by omega)]
 refine ⟨?_,by omega,by omega⟩
 rw [←h,Int.natCast_add,Int.natCast_mul,Int.mul_comm,Int.add_comm]
theorem div_neg0 {d e q:Nat} (h:q*e=d) (he:0<e):-(d:Int) / (e:Int) = -q∧-(d:Int) % (e:Int)=0:=by
 rw [Int.ediv_emod_unique (by omega)]
 refine ⟨?_,by omega,by omega⟩
 rw [←h,Int.natCast_mul,Int.mul_comm,Int.neg_mul,Int.zero_add]
theorem div_neg1 {d e q r:Nat} (h:q*e+r=d) (hr:r<e) (h0:0<r):-(d:Int) / (e:Int) = -q - 1∧-(d:Int) % (e:Int)=(e:Int) - r:=by
 rw [Int.ediv_emod_unique (by omega)]
 refine ⟨?_,by omega,by omega⟩
 rw [←h,Int.natCast_add,Int.natCast_mul,Int.mul_sub,Int.mul_neg,Int.mul_one,Int.mul_comm (e:Int)]
 omega
theorem quo_law {d e q r:Nat} (b c:Bool) (h:q*e+r=d) (hr:r<e) :
  ((bif b then -(d:Int) else d) / (bif c then -(e:Int) else e)=(bif b then (bif c then (q:Int)+(bif decide (0<r) then 1 else 0) else -(q:Int) - (bif decide (0<r) then 1 else 0)) else (bif c then -(q:Int) else q))) ∧
  ((bif b then -(d:Int) else d) % (bif c then -(e:Int) else e)=bif b&&decide (0<r) then (e:Int) - r else r):=by
 cases b with
 | false =>
  obtain ⟨h1,h2⟩:=div_pos' h hr
  cases c with
  | false=>exact ⟨h1,h2⟩
  | true =>
   simp only [cond_false,cond_true,Bool.false_and,Int.ediv_neg,Int.emod_neg,h1,h2,and_self]
 | true =>
  rcases Nat.eq_zero_or_pos r with h0 | h0
  ·subst h0
   obtain ⟨h1,h2⟩:=div_neg0 (q:=q) (by omega) hr
   cases c with
   | false=>simp only [cond_false,cond_true,h1,h2];simp
   | true=>simp only [cond_false,cond_true,Int.ediv_neg,Int.emod_neg,h1,h2];simp
  ·obtain ⟨h1,h2⟩:=div_neg1 h hr h0
   have hd:decide (0<r)=true:=decide_eq_true h0
   cases c with
   | false=>simp only [cond_false,cond_true,h1,h2,hd,Bool.true_and,and_self]
   | true =>
    simp only [cond_false,cond_true,Int.ediv_neg,Int.emod_neg,h1,h2,hd,Bool.true_and,and_true]
    omega
end Go.AM.S
end
section
namespace Go.AM.S
open Go Go.AM Go.Proofs NumL
open _root_.Go.AM.G (R)
set_option maxRecDepth 100000
theorem tbl37:tbl 37=some ⟨rc37,[.cell 4 26,.cell 5 26]⟩:=by kernel_rfl
structure I37 (s u:V) (b c:Bool) (h:Hp) (st:St):Prop where
 h2:gt st.tm 2=.ptr (.loc 2 1) 0
 h3:gt st.tm 3=.ptr (.loc 3 1) 0
 h4:gt st.tm 4=.ptr (.loc 4 1) 0
 h5:gt st.tm 5=.ptr (.loc 5 1) 0
 h6:gt st.tm 6=.ptr (.loc 6 1) 0
 h7:gt st.tm 7=.ptr (.loc 7 1) 0
 l2:lg st.loc 2=(1,.cells false [s,.bool b])
 l3:lg st.loc 3=(1,.cells false [u,.bool c])
 l4:lg st.loc 4=(1,.cells false [.nils,.bool false])
 l5:lg st.loc 5=(1,.cells false [.nils,.bool false])
 hp:st.hp=h
theorem IsI.nn {k:Nat} {s:V} {b:Bool} {z:Int} (h:IsI k (.agg [s,.bool b]) z):Pl s∧Ex1 (.agg [s,.bool b])∧AM.quiet (.agg [s,.bool b])=true:=by
 obtain ⟨s',b',e,p,x,q⟩:=h.form
 have e':s=s'∧b=b':=by simpa using e
 obtain ⟨rfl,rfl⟩:=e'
 exact ⟨p,x,q⟩
theorem quo_spec {k l:Nat} {va vb:V} {x y:Int} (ha:IsI k va x) (hb:IsI l vb y) (hk:k≤300000) (hl:l≤300000):Gives 37 [va,vb] fun r=>∃ v w,r=.tuple [v,w]∧IsI k v (x / y)∧IsI (if y=0 then k else l) w (x % y):=by
 have ha0:=ha
 have hb0:=hb
 obtain ⟨d,b,⟨⟨s,rfl,hs⟩,dd,cd,h0⟩,hx,hdl⟩:=ha
 obtain ⟨e,c,⟨⟨u,rfl,hu⟩,de,ce,he0⟩,hy,hel⟩:=hb
 refine gives_of tbl37 fun h Q hQ=>?_
 unfold rc37
 refine sRG ?_
 have fin:∀ (st:St) (v0 v1 w0 w1:V) ,IsI k (.agg [v0,v1]) (x / y)→IsI (if y=0 then k else l) (.agg [w0,w1]) (x % y)→gt st.tm 4=.ptr (.loc 4 1) 0→gt st.tm 5=.ptr (.loc 5 1) 0→lg st.loc 4=(1,.cells false [v0,v1])→lg st.loc 5=(1,.cells false [w0,w1])→st.hp=⟨h.rows,none,h.mods⟩→Q st:=by
  intro st v0 v1 w0 w1 hv hw h4 h5 l4 l5 hh
  obtain ⟨sv,bv,e1,pv,_,_⟩:=hv.form
  obtain ⟨sw,bw,e2,pw,_,_⟩:=hw.form
  obtain ⟨rfl,rfl⟩:v0=sv∧v1=.bool bv:=by simpa using e1
  obtain ⟨rfl,rfl⟩:w0=sw∧w1=.bool bw:=by simpa using e2
  exact hQ _ _ (fin_cells2 (x:=v0) (y:=.bool bv) (x2:=w0) (y2:=.bool bw) (d:=4) (g:=1) (d2:=5) (g2:=1) (f:=false) (f2:=false) (by kernel_rfl) (by kernel_rfl) h4 h5 l4 l5 pv (Pl.bool _) pw (Pl.bool _) (by rw [hh];exact fun x hx=>by cases hx)) ⟨_,_,rfl,hv,hw⟩
 rcases Nat.eq_zero_or_pos e.length with ee | ee
 ·
  have e0:e=[]:=List.length_eq_zero_iff.1 ee
  have hy0:y=0:=by rw [hy,e0,he0 e0];rfl
  refine ww_seq (ww_seq (ww_reg (fun n k=>by simp -implicitDefEqProofs (disch:=omega) only [go_sem,reduceIte,Nat.reduceEqDiff,gt_start,List.getD_cons_zero,List.getD_cons_succ,ldc_fst L24,len_sl hu,ee,d_true];rfl) ?_))
  refine ww_true sS ?_
  refine ww_seq (ww_reg (fun n k=>by simp -implicitDefEqProofs (disch:=omega) only [go_sem,reduceIte,Nat.reduceEqDiff,gt_start,List.getD_cons_zero,List.getD_cons_succ,db37_2_0,ldc_two L26,stc_two N26 1 .nils (.bool false) .nils (.bool false) _ rfl rfl,stc_two N26 1 s (.bool b) .nils (.bool false) _ hs.pl.ok rfl];exact finD_ok (by kernel_rfl)) ?_)
  refine ww_ret (fin _ .nils (.bool false) s (.bool b) ?_ ?_ sS sS sS sS rfl)
  ·rw [hy0,Int.ediv_zero];exact zeroI.mono (Nat.zero_le _)
  ·rw [hy0,Int.emod_zero,if_pos rfl];exact ha0
 have hne:e≠[]:=fun q=>by subst q;simp at ee
 have hE:0<vl B e:=Nat.pos_of_ne_zero fun q=>hne ((vl_zero ce).1 q)
 have hyn:y≠0:=by rw [hy];unfold zv;cases c<;>simp<;>omega
 refine ww_seq (ww_seq (ww_reg (fun n k=>by simp -implicitDefEqProofs (disch:=omega) only [go_sem,reduceIte,Nat.reduceEqDiff,gt_start,List.getD_cons_zero,List.getD_cons_succ,ldc_fst L24,len_sl hu,d_false];rfl) ?_))
 refine ww_false sS (ww_skip ?_)
 obtain ⟨r1,hr1,f1,⟨⟨s1,rfl,hs1⟩,df1,cf1,hf1⟩,ht1⟩:=made_spec hs dd (by omega) false ⟨h.rows,none,h.mods⟩
 refine ww_seq (ww_call (hr1) (fun n hn k=>by simp -implicitDefEqProofs (disch:=omega) only [go_sem,reduceIte,Nat.reduceEqDiff,gt_start,List.getD_cons_zero,List.getD_cons_succ,ldc_fst L24,clc2 hn hs.ex (Ex1.bool _),stc_two N26 1 .nils (.bool false) .nils (.bool false) _ rfl rfl,stc_two N26 1 s1 (.bool (false && !f1.isEmpty)) .nils (.bool false) _ hs1.pl.ok rfl];rfl) ?_)
 have hbc:∀ q:Nat,∀ f:List Nat,vl B f=q→zv f ((!(b == c)) && !f.isEmpty)=bif b == c then (q:Int) else -(q:Int):=by
  intro q f hf
  subst hf
  cases b == c with
  | true=>simp [zv]
  | false =>
   cases f with
   | nil=>rfl
   | cons x0 l0=>rfl
 refine ww_join (M:=fun st=>I37 s u b c ⟨h.rows,none,h.mods⟩ st∧∃ (sq:V) (bq:Bool) (q:Nat) (sr:V) (g:List Nat),lg st.loc 6=(1,.cells false [sq,.bool bq])∧lg st.loc 7=(1,.cells false [sr,.bool false])∧IsI k (.agg [sq,.bool bq]) (bif b == c then (q:Int) else -(q:Int))∧Sl .u32 sr g∧Dg B g∧Cn g∧q*vl B e+vl B g=vl B d∧vl B g<vl B e) ?_ ?_
 ·obtain ⟨_,hcm,rfl⟩:=compare_spec hs hu dd de cd ce (by omega) (by omega) ⟨h.rows,none,h.mods⟩
  rcases Nat.lt_or_ge (vl B d) (vl B e) with hlt | hge
  ·have hc:cmpI (vl B d) (vl B e)=.negSucc 0:=by unfold cmpI;rw [if_pos hlt]
   rw [hc] at hcm
   refine ww_seq (ww_call (hcm) (fun n hn k=>by simp -implicitDefEqProofs (disch:=omega) only [go_sem,reduceIte,Nat.reduceEqDiff,ldc_fst L24,clc2 hn hs.ex hu.ex];rfl) ?_)
   refine ww_false sS (ww_skip ?_)
   refine ⟨⟨sSG,sSG,sS,sS,sS,sS,sS,sS,sS,sS,rfl⟩,.nils,false,0,s1,f1,sS,(by simp -implicitDefEqProofs (disch:=omega) only [go_sem,reduceIte,Nat.reduceEqDiff,Bool.false_and]),by cases b == c<;>exact zeroI.mono (Nat.zero_le _),hs1,df1,cf1,by rw [ht1.vl];omega,by rw [ht1.vl];exact hlt⟩
  ·have hc:∃ z,cmpI (vl B d) (vl B e)=.ofNat z:=by
    unfold cmpI
    rw [if_neg (by omega)]
    split
    ·exact ⟨1,rfl⟩
    ·exact ⟨0,rfl⟩
   obtain ⟨z,hz⟩:=hc
   rw [hz] at hcm
   refine ww_seq (ww_call (hcm) (fun n hn k=>by simp -implicitDefEqProofs (disch:=omega) only [go_sem,reduceIte,Nat.reduceEqDiff,ldc_fst L24,clc2 hn hs.ex hu.ex,d_true];rfl) ?_)
   refine ww_true sS ?_
   obtain ⟨_,hdv,so,st,O,T,rfl,hso,hst,dO,dT,cT,hv,hlt,lO⟩:=divided_spec hs hu dd de ce hne (len_le (by decide) dd ce hge) (by omega) ⟨h.rows,none,h.mods⟩
   refine ww_seq (ww_call (hdv) (fun n hn k=>by simp -implicitDefEqProofs (disch:=omega) only [go_sem,reduceIte,Nat.reduceEqDiff,ldc_fst L24,clc2 hn hs.ex hu.ex,ext_tuple];rfl) ?_)
   obtain ⟨r2,hr2,f2,hf2,ht2⟩:=made_spec hso dO (by omega) (!(b == c)) ⟨h.rows,none,h.mods⟩
   obtain ⟨r3,hr3,f3,⟨⟨s3,rfl,hs3⟩,df3,cf3,hf3⟩,ht3⟩:=made_spec hst dT (by have:=len_le (B:=B) (by decide) de cT (by omega);omega) false ⟨h.rows,none,h.mods⟩
   have hf2':=hf2
   obtain ⟨⟨s2,rfl,hs2⟩,df2,cf2,hf20⟩:=hf2
   have l2:=ht2.len
   refine ww_call (hr2.and hr3) (fun n hn k=>by simp -implicitDefEqProofs (disch:=omega) only [go_sem,reduceIte,Nat.reduceEqDiff,ldc_snd L4,bin_neb 4 false b c U4,clc2 hn.1 hso.ex (Ex1.bool _),clc2 hn.2 hst.ex (Ex1.bool _),stc_two N26 1 s2 (.bool (!(b == c) && !f2.isEmpty)) .nils (.bool false) _ hs2.pl.ok rfl,stc_two N26 1 s3 (.bool (false && !f3.isEmpty)) s1 (.bool (false && !f1.isEmpty)) _ hs3.pl.ok rfl];rfl) ?_
   exact ⟨⟨sSG,sSG,sS,sS,sS,sS,sS,sS,sS,sS,rfl⟩,s2,_,vl B O,s3,f3,sS,(by simp -implicitDefEqProofs (disch:=omega) only [go_sem,reduceIte,Nat.reduceEqDiff,Bool.false_and]),⟨f2,_,hf2',(hbc _ _ (ht2.vl B)).symm,by omega⟩,hs3,df3,cf3,by rw [ht3.vl];exact hv,by rw [ht3.vl];exact hlt⟩
 intro st ⟨⟨h2,h3,h4,h5,h6,h7,l2,l3,l4,l5,hhp⟩,sq,bq,q,sr,g,l6,l7,hq,hsr,dg,cg,hv,hlt⟩
 obtain ⟨ql,qr⟩:=quo_law b c hv hlt
 have ex:x=bif b then -(vl B d:Int) else (vl B d:Int):=hx
 have ey:y=bif c then -(vl B e:Int) else (vl B e:Int):=hy
 rw [←ex,←ey] at ql qr
 have hgz:(0<g.length)↔0<vl B g:=by
  constructor
  ·intro h1
   exact Nat.pos_of_ne_zero fun q=>by have:=(vl_zero cg).1 q;subst this;simp at h1
  ·intro h1
   rcases Nat.eq_zero_or_pos g.length with q | q
   ·have:g=[]:=List.length_eq_zero_iff.1 q
    subst this;simp [vl] at h1
   ·exact q
 have hgl:g.length≤l:=by have:=len_le (B:=B) (by decide) de cg (by omega);omega
 have hgI:IsI l (.agg [sr,.bool false]) ((vl B g:Nat):Int):=⟨g,false,⟨⟨sr,rfl,hsr⟩,dg,cg,fun _=>rfl⟩,rfl,hgl⟩
 have hlast:∀ (s2:St) (v0 v1 w0 w1:V),IsI k (.agg [v0,v1]) (x / y)→IsI l (.agg [w0,w1]) (x % y)→I37 s u b c ⟨h.rows,none,h.mods⟩ s2→lg s2.loc 6=(1,.cells false [v0,v1])→lg s2.loc 7=(1,.cells false [w0,w1])→WW Pg kn0 tbl (.seq (.reg fun c t l h k=>bO (ld Pg 26 (g6 t) l h) fun v0=>bO (ld Pg 26 (g7 t) l h) fun v1=>jE ((65,v1)::(64,v0)::[]) fun e2=>jF ((ldF (g7 t))::(ldF (g6 t))::[]) fun q2=>gD Try.f37 37 13 2 c (p64 (p4 t (g4 t)) v0) l h (fun v2 f2 l2 h2=>jF (f2::q2) fun q3=>gD Try.f37 37 13 3 c (p65 (p5 t (g5 t)) v1) l2 h2 (fun v3 f3 l3 h3=>finD (rgA Try.f37 13).toList [(1,2)] [(1,2)] (f3::q3) (k t l3 h3)) (sD Try.f37 37 13 c 3 none e2 q3 t l2 h2)) (sD Try.f37 37 13 c 2 none e2 q2 t l h)) .ret) s2 (fun _=>False) (fun _ _=>False) Q:=by
  intro s2 v0 v1 w0 w1 hv hw ⟨k2,k3,k4,k5,k6,k7,m2,m3,m4,m5,mh⟩ m6 m7
  obtain ⟨sv,bv,e1,pv,_,_⟩:=hv.form
  obtain ⟨sw,bw,e2,pw,_,_⟩:=hw.form
  obtain ⟨rfl,rfl⟩:v0=sv∧v1=.bool bv:=by simpa using e1
  obtain ⟨rfl,rfl⟩:w0=sw∧w1=.bool bw:=by simpa using e2
  refine ww_seq (ww_reg (fun n k=>by simp -implicitDefEqProofs (disch:=omega) only [go_sem,reduceIte,Nat.reduceEqDiff,k4,k5,k6,k7,m4,m5,m6,m7,ldc_two L26,stc_two N26 1 v0 (.bool bv) .nils (.bool false) _ pv.ok rfl,stc_two N26 1 w0 (.bool bw) .nils (.bool false) _ pw.ok rfl];exact finD_ok (by kernel_rfl)) ?_)
  exact ww_ret (fin _ _ _ _ _ hv (by rw [if_neg hyn];exact hw) (sS1 k4) (sS1 k5) sS sS mh)
 have hb01:b=true∧0<vl B g∨(b&&decide (0<vl B g))=false:=by
  cases b with
  | false=>exact .inr rfl
  | true =>
   rcases Nat.eq_zero_or_pos (vl B g) with q | q
   ·exact .inr (by rw [q];rfl)
   ·exact .inl ⟨rfl,q⟩
 rcases hb01 with ⟨rfl,hg0⟩ | hbf
 ·rw [decide_eq_true hg0,Bool.true_and,cond_true] at qr
  rw [decide_eq_true hg0] at ql
  simp only [cond_true] at ql
  have hgl0:=hgz.2 hg0
  refine ww_join (M:=fun s2=>∃ v0 v1 w0 w1,IsI k (.agg [v0,v1]) (x / y)∧IsI l (.agg [w0,w1]) (x % y)∧I37 s u true c ⟨h.rows,none,h.mods⟩ s2∧lg s2.loc 6=(1,.cells false [v0,v1])∧lg s2.loc 7=(1,.cells false [w0,w1])) ?_ (fun s2 ⟨v0,v1,w0,w1,a1,a2,a3,a4,a5⟩=>hlast s2 v0 v1 w0 w1 a1 a2 a3 a4 a5)
  refine ww_seq (ww_reg (fun n k=>by simp -implicitDefEqProofs (disch:=omega) only [go_sem,reduceIte,Nat.reduceEqDiff,h2,h7,l2,l7,ldc_snd L4,ldc_fst L24,len_sl hsr,decide_eq_true hgl0];rfl) ?_)
  refine ww_true sS ?_
  obtain ⟨r4,hr4,f4,hf4,ht4⟩:=made_spec hu de (by omega) false ⟨h.rows,none,h.mods⟩
  have hI4:IsI l r4 ((vl B e:Nat):Int):=⟨f4,_,hf4,by rw [Bool.false_and];show ((vl B e:Nat):Int)=((vl B f4:Nat):Int);rw [ht4.vl],by have:=ht4.len;omega⟩
  obtain ⟨r5,hr5,hI5⟩:=sub_spec hI4 hgI (by omega) (by omega) ⟨h.rows,none,h.mods⟩
  have hEl:vl B e<B ^ l:=vl_lt_of (by decide) de hel
  have hI5':IsI l r5 (x % y):=by rw [qr];exact hI5.shrink (by omega)
  obtain ⟨s5,b5,rfl,p5,x5,q5⟩:=hI5'.form
  obtain ⟨s4,b4,rfl,p4,x4,q4⟩:=hI4.form
  obtain ⟨p7,x7,q7⟩:=hgI.nn
  refine ww_seq (ww_call (hr4.and hr5) (fun n hn k=>by simp -implicitDefEqProofs (disch:=omega) only [go_sem,reduceIte,Nat.reduceEqDiff,h3,h7,hhp,l3,l7,ldc_fst L24,ldc_two L26,cld2 hn.1 hu.ex (Ex1.bool _) hu.quiet rfl,cld2 hn.2 x4 x7 q4 q7,stc_two N26 1 s5 (.bool b5) sr (.bool false) _ p5.ok rfl];exact finD_ok (by kernel_rfl)) ?_)
  obtain ⟨r8,hr8,hI8⟩:=of_spec (z:=1) (by decide) (by decide) ⟨h.rows,none,h.mods⟩
  obtain ⟨r9,hr9,hI9⟩:=of_spec (z:=-1) (by decide) (by decide) ⟨h.rows,none,h.mods⟩
  obtain ⟨s8,b8,rfl,p8,x8,q8⟩:=hI8.form
  obtain ⟨s9,b9,rfl,p9,x9,q9⟩:=hI9.form
  have hr8':Runs Pg kn0 tbl 21 [.int .i64 (.ofNat 1)] ⟨h.rows,none,h.mods⟩ (.val (.agg [s8,.bool b8]) ⟨h.rows,none,h.mods⟩):=hr8
  have hr9':Runs Pg kn0 tbl 21 [.int .i64 (.negSucc 0)] ⟨h.rows,none,h.mods⟩ (.val (.agg [s9,.bool b9]) ⟨h.rows,none,h.mods⟩):=hr9
  refine ww_seq (ww_call (hr8') (fun n hn k=>by simp -implicitDefEqProofs (disch:=omega) only [go_sem,reduceIte,Nat.reduceEqDiff,hhp,clc1 hn (Ex1.int _ _),stc_two N26 ((lg st.loc 10).1+1) s8 (.bool b8) .nils (.bool false) _ p8.ok rfl];rfl) ?_)
  obtain ⟨pq,xq,qq⟩:=hq.nn
  have hone:∀ (s10:V) (b10:Bool) (st2:St),IsI 2 (.agg [s10,.bool b10]) (bif c then -1 else 1)→I37 s u true c ⟨h.rows,none,h.mods⟩ st2→gt st2.tm 10=.ptr (.loc 10 ((lg st.loc 10).1+1)) 0→lg st2.loc 10=((lg st.loc 10).1+1,.cells false [s10,.bool b10])→lg st2.loc 6=(1,.cells false [sq,.bool bq])→lg st2.loc 7=(1,.cells false [s5,.bool b5]) →
    WW Pg kn0 tbl (.reg fun c t l h k=>bO (ld Pg 26 (g6 t) l h) fun v0=>bO (ld Pg 26 (g10 t) l h) fun v1=>cl c 27 [v0,v1] t l h fun v2 l2 h2=>jn (fun v3 l3 h3=>k t l3 h3) fun j3=>sto 26 (g6 t) v2 l2 h2 j3 (gn Try.f37 37 12 3 c (p63 (p6 t (g6 t)) v2) t l2 h2 j3)) st2 (fun s2=>∃ v0 v1 w0 w1,IsI k (.agg [v0,v1]) (x / y)∧IsI l (.agg [w0,w1]) (x % y)∧I37 s u true c ⟨h.rows,none,h.mods⟩ s2∧lg s2.loc 6=(1,.cells false [v0,v1])∧lg s2.loc 7=(1,.cells false [w0,w1])) (fun _ _=>False) (fun _=>False):=by
   intro s10 b10 st2 hI10 ⟨k2,k3,k4,k5,k6,k7,m2,m3,m4,m5,mh⟩ m10 k10 n6 n7
   obtain ⟨r11,hr11,hI11⟩:=sub_spec hq hI10 (by omega) (by omega) ⟨h.rows,none,h.mods⟩
   have hval:(bif true == c then (q:Int) else -(q:Int)) - (bif c then -1 else 1)=x / y:=by
    rw [ql]
    cases c with
    | false=>rfl
    | true=>show (q:Int) - (-1)=q+1;omega
   rw [hval] at hI11
   have hI12:=hI11.shrink (l:=k) (Nat.lt_of_le_of_lt (Int.natAbs_ediv_le_natAbs x y) ha0.abs_lt)
   obtain ⟨s11,b11,rfl,p11,x11,q11⟩:=hI12.form
   obtain ⟨_,x10,_⟩:=hI10.nn
   refine ww_call (hr11) (fun n hn k=>by simp -implicitDefEqProofs (disch:=omega) only [go_sem,reduceIte,Nat.reduceEqDiff,k6,n6,m10,k10,mh,ldc_two L26,clc2 hn xq x10,stc_two N26 1 s11 (.bool b11) sq (.bool bq) _ p11.ok rfl];rfl) ?_
   exact ⟨s11,.bool b11,s5,.bool b5,hI12,hI5',⟨(sS1 k2),(sS1 k3),(sS1 k4),(sS1 k5),(sS1 k6),(sS1 k7),(sS1 m2),(sS1 m3),(sS1 m4),(sS1 m5),rfl⟩,sS,(sS1 n7)⟩
  cases c with
  | false =>
   refine ww_seq (ww_seq (ww_reg (fun n k=>by simp -implicitDefEqProofs (disch:=omega) only [go_sem,reduceIte,Nat.reduceEqDiff,h3,l3,ldc_snd L4];rfl) ?_))
   refine ww_false sS (ww_skip ?_)
   exact hone s8 b8 _ hI8 ⟨(sS1 h2),(sS1 h3),(sS1 h4),(sS1 h5),(sS1 h6),(sS1 h7),(sS1 l2),(sS1 l3),(sS1 l4),(sS1 l5),rfl⟩ sS sS (sS1 l6) sS
  | true =>
   refine ww_seq (ww_seq (ww_reg (fun n k=>by simp -implicitDefEqProofs (disch:=omega) only [go_sem,reduceIte,Nat.reduceEqDiff,h3,l3,ldc_snd L4];rfl) ?_))
   refine ww_true sS ?_
   refine ww_call (hr9') (fun n hn k=>by simp -implicitDefEqProofs (disch:=omega) only [go_sem,reduceIte,Nat.reduceEqDiff,clc1 hn (Ex1.int _ _),stc_two N26 ((lg st.loc 10).1+1) s9 (.bool b9) s8 (.bool b8) _ p9.ok rfl];rfl) ?_
   exact hone s9 b9 _ hI9 ⟨(sS1 h2),(sS1 h3),(sS1 h4),(sS1 h5),(sS1 h6),(sS1 h7),(sS1 l2),(sS1 l3),(sS1 l4),(sS1 l5),rfl⟩ sS sS (sS1 l6) sS
 ·rw [hbf,cond_false] at qr
  have qf:x / y=bif b == c then (q:Int) else -(q:Int):=by
   rw [ql]
   cases b with
   | false=>cases c<;>rfl
   | true =>
    rw [Bool.true_and] at hbf
    rw [hbf]
    cases c<;>simp
  refine ww_join (M:=fun s2=>s2.loc=st.loc∧I37 s u b c ⟨h.rows,none,h.mods⟩ s2) ?_ (fun s2 ⟨hloc,hI⟩=>hlast s2 sq (.bool bq) sr (.bool false) (by rw [qf];exact hq) (by rw [qr];exact hgI) hI (by rw [hloc];exact l6) (by rw [hloc];exact l7))
  cases b with
  | false =>
   refine ww_seq (ww_reg (fun n k=>by simp -implicitDefEqProofs (disch:=omega) only [go_sem,reduceIte,Nat.reduceEqDiff,h2,l2,ldc_snd L4];rfl) ?_)
   exact ww_false sS (ww_skip ⟨rfl,⟨(sS1 h2),(sS1 h3),(sS1 h4),(sS1 h5),(sS1 h6),(sS1 h7),l2,l3,l4,l5,hhp⟩⟩)
  | true =>
   rw [Bool.true_and,decide_eq_false_iff_not,←hgz] at hbf
   refine ww_seq (ww_reg (fun n k=>by simp -implicitDefEqProofs (disch:=omega) only [go_sem,reduceIte,Nat.reduceEqDiff,h2,h7,l2,l7,ldc_snd L4,ldc_fst L24,len_sl hsr,decide_eq_false hbf];rfl) ?_)
   exact ww_false sS (ww_skip ⟨rfl,⟨(sS1 h2),(sS1 h3),(sS1 h4),(sS1 h5),(sS1 h6),(sS1 h7),l2,l3,l4,l5,hhp⟩⟩)
end Go.AM.S
end
section
namespace Go.AM.S
open Go Go.AM Go.Proofs NumL
open _root_.Go.AM.G (R)
set_option maxRecDepth 100000
theorem tbl39:tbl 39=some ⟨rc39,[.cell 4 26]⟩:=by kernel_rfl
theorem abs_of {v:V} {s:V} {d f:List Nat} {b:Bool} {k:Nat} (hf:NI v f (false && !f.isEmpty)) (ht:Tr0 d f) (hl:d.length≤k):IsI k v ((vl B d:Nat):Int) :=
 ⟨f,_,hf,by rw [Bool.false_and];show ((vl B d:Nat):Int)=((vl B f:Nat):Int);rw [ht.vl],by have:=ht.len;omega⟩
theorem zv_abs (d:List Nat) (b:Bool):(zv d b).natAbs=vl B d:=by unfold zv;cases b<;>simp
theorem gcd_spec {k l:Nat} {va vb:V} {x y:Int} (ha:IsI k va x) (hb:IsI l vb y) (hk:k≤300000) (hl:l≤300000):Gives 39 [va,vb] fun r=>IsI (max k l) r ((Nat.gcd x.natAbs y.natAbs:Nat):Int):=by
 obtain ⟨d,b,⟨⟨s,rfl,hs⟩,dd,cd,h0⟩,rfl,hdl⟩:=ha
 obtain ⟨e,c,⟨⟨u,rfl,hu⟩,de,ce,he0⟩,rfl,hel⟩:=hb
 rw [zv_abs,zv_abs]
 refine gives_of tbl39 fun h Q hQ=>?_
 unfold rc39
 refine sRG ?_
 obtain ⟨r1,hr1,f1,hf1,ht1⟩:=made_spec hs dd (by omega) false ⟨h.rows,none,h.mods⟩
 obtain ⟨r2,hr2,f2,hf2,ht2⟩:=made_spec hu de (by omega) false ⟨h.rows,none,h.mods⟩
 have hI1:IsI (max k l) r1 ((vl B d:Nat):Int):=abs_of (s:=s) (b:=b) hf1 ht1 (by omega)
 have hI2:IsI (max k l) r2 ((vl B e:Nat):Int):=abs_of (s:=s) (b:=b) hf2 ht2 (by omega)
 obtain ⟨s1,b1,rfl,p1,x1,q1⟩:=hI1.form
 obtain ⟨s2,b2,rfl,p2,x2,q2⟩:=hI2.form
 refine ww_seq (ww_call (hr1.and hr2) (fun n hn k=>by simp -implicitDefEqProofs (disch:=omega) only [go_sem,reduceIte,Nat.reduceEqDiff,gt_start,List.getD_cons_zero,List.getD_cons_succ,ldc_fst L24,cld2 hn.1 hs.ex (Ex1.bool _) hs.quiet rfl,cld2 hn.2 hu.ex (Ex1.bool _) hu.quiet rfl,stc_two N26 1 s1 (.bool b1) s (.bool b) _ p1.ok rfl,stc_two N26 1 s2 (.bool b2) u (.bool c) _ p2.ok rfl];exact finD_ok (by kernel_rfl)) ?_)
 refine ww_seq (ww_for (fun m st=>∃ a sa ba sb bb,IsI (max k l) (.agg [sa,.bool ba]) ((a:Nat):Int)∧IsI (max k l) (.agg [sb,.bool bb]) ((m:Nat):Int)∧Nat.gcd a m=Nat.gcd (vl B d) (vl B e)∧gt st.tm 2=.ptr (.loc 2 1) 0∧gt st.tm 3=.ptr (.loc 3 1) 0∧gt st.tm 4=.ptr (.loc 4 1) 0∧lg st.loc 2=(1,.cells false [sa,.bool ba])∧lg st.loc 3=(1,.cells false [sb,.bool bb])∧lg st.loc 4=(1,.cells false [.nils,.bool false])∧st.hp=⟨h.rows,none,h.mods⟩) (vl B e) ⟨vl B d,s1,b1,s2,b2,hI1,hI2,rfl,sSG,sSG,sS,sS,sS,sS,rfl⟩ ?_)
 intro m st ⟨a,sa,ba,sb,bb,hA,hM,hg,h2,h3,h4,l2,l3,l4,hhp⟩
 obtain ⟨pa,xa,qa⟩:=hA.nn
 obtain ⟨pb,xb,qb⟩:=hM.nn
 have hM':=hM
 obtain ⟨f,b',⟨⟨sb',eb,hsb⟩,df,cf,hf0⟩,hmv,hfl⟩:=hM'
 obtain ⟨rfl,rfl⟩:sb=sb'∧bb=b':=by simpa using eb
 have hfm:vl B f=m:=by rw [←zv_abs f bb,←hmv];simp
 rcases Nat.eq_zero_or_pos f.length with e0 | e0
 ·have ef:f=[]:=List.length_eq_zero_iff.1 e0
  have hm0:m=0:=by rw [←hfm,ef];rfl
  refine ww_seq (ww_seq (ww_reg (fun n k=>by simp -implicitDefEqProofs (disch:=omega) only [go_sem,reduceIte,Nat.reduceEqDiff,h3,l3,ldc_fst L24,len_sl hsb,e0,d_false];rfl) ?_))
  refine ww_false sS (ww_exit ?_)
  rw [if_pos rfl]
  refine ww_seq (ww_reg (fun n k=>by simp -implicitDefEqProofs (disch:=omega) only [go_sem,reduceIte,Nat.reduceEqDiff,h2,l2,h4,l4,ldc_two L26,stc_two N26 1 sa (.bool ba) .nils (.bool false) _ pa.ok rfl];rfl) ?_)
  refine ww_ret (hQ _ _ (fin_cell (x:=sa) (y:=.bool ba) (f:=false) (d:=4) (g:=1) (by kernel_rfl) (sS1 h4) sS pa (Pl.bool _) (by rw [hhp])) ?_)
  rw [←hg,hm0,Nat.gcd_zero_right]
  exact hA
 ·have hm0:0<m:=by
   rw [←hfm]
   exact Nat.pos_of_ne_zero fun q=>by have:=(vl_zero cf).1 q;subst this;simp at e0
  refine ww_seq (ww_seq (ww_reg (fun n k=>by simp -implicitDefEqProofs (disch:=omega) only [go_sem,reduceIte,Nat.reduceEqDiff,h3,l3,ldc_fst L24,len_sl hsb,d_true];rfl) ?_))
  refine ww_true sS (ww_skip (ww_block ?_))
  obtain ⟨_,hq,v,w,rfl,hv,hw⟩:=quo_spec hA hM (by omega) (by omega) ⟨h.rows,none,h.mods⟩
  rw [if_neg (by omega),←Int.natCast_emod] at hw
  obtain ⟨sv,bv,rfl,pv,xv,_⟩:=hv.form
  obtain ⟨sw,bw,rfl,pw,xw,_⟩:=hw.form
  refine ww_seq (ww_call (hq) (fun n hn k=>by simp -implicitDefEqProofs (disch:=omega) only [go_sem,reduceIte,Nat.reduceEqDiff,h2,h3,l2,l3,hhp,ldc_two L26,clc2 hn xa xb,ext_tuple,stc_two N26 ((lg st.loc 5).1+1) sv (.bool bv) .nils (.bool false) _ pv.ok rfl,stc_two N26 ((lg st.loc 6).1+1) sw (.bool bw) .nils (.bool false) _ pw.ok rfl];rfl) ?_)
  refine ww_reg (fun n k=>by simp -implicitDefEqProofs (disch:=omega) only [go_sem,reduceIte,Nat.reduceEqDiff,h2,h3,l2,l3,ldc_two L26,stc_two N26 1 sb (.bool bb) sa (.bool ba) _ pb.ok rfl,stc_two N26 1 sw (.bool bw) sb (.bool bb) _ pw.ok rfl];exact finD_ok (by kernel_rfl)) ?_
  exact ⟨a % m,Nat.mod_lt _ hm0,m,sb,bb,sw,bw,hM,hw,by rw [←hg,Nat.gcd_comm a m,Nat.gcd_rec m a,Nat.gcd_comm],(sS1 h2),(sS1 h3),(sS1 h4),sS,sS,(sS1 l4),rfl⟩
end Go.AM.S
end
section
namespace Go.AM.S
open Go Go.AM Go.Proofs NumL
open _root_.Go.AM.G (R)
set_option maxRecDepth 100000
section
variable {P:Program} {C:Cfg} {gl:Nat→Bool} {o:Oper} {loc:Lo}
structure Fr (v:V) (k:IntKind) (l:List Nat):Prop where
 out:∃ v',Sl k v' l∧∀ st,AM.exp false st v=some (v',st)
 items:∀ st,itemsOf st v=some (nl k l)
theorem Fr.nils (k:IntKind):Fr .nils k []:=⟨⟨.nils,.inr ⟨rfl,rfl⟩,Pl.nils.ex⟩,fun _=>rfl⟩
theorem Fr.lit (k:IntKind) (l:List Nat) (f:Bool):Fr (.slice none f 1 (nl k l)) k l:=⟨⟨_,.inl ⟨f,rfl⟩,fun _=>rfl⟩,fun _=>rfl⟩
theorem Fr.tok (k:IntKind) (l:List Nat) (d g:Nat):Fr (.slice (some (.loc d g)) false 1 (nl k l)) k l:=⟨⟨.slice none false 1 (nl k l),.inl ⟨false,rfl⟩,fun _=>rfl⟩,fun _=>rfl⟩
theorem Sl.fr {k:IntKind} {v:V} {l:List Nat} (h:Sl k v l):Fr v k l:=by
 rcases h with ⟨f,rfl⟩ | ⟨rfl,rfl⟩
 ·exact Fr.lit k l f
 ·exact Fr.nils k
theorem gen_front {d x y t e b:Nat} (hi:ApI P o d x y t) (hA:C.isArr t=false) (hg:gl d=false) (he:elemT P t=some e) (hl:layE P e=some (1,false)) (hb:byteE P e=some b) (hxy:x≠y)
  {k:IntKind} {l ys:List Nat} {w:V} (hw:Fr w k ys) (hn:(l.length+ys.length)*b≤70368744177664) :
  ∃ v' loc',(∀ (call:CallF) (tm:Tm) (hp:Hp) (j:V→Lo→Hp→R),gen P C call gl o (pt (pt .lf x (.slice none true 1 (nl k l))) y w) tm loc hp j=j v' loc' hp)∧Fr v' k (l++ys)∧∀ i,i≠d→lg loc' i=lg loc i:=by
 obtain ⟨hd,c,ho,hc,ha,hty,hni⟩:=hi
 have hx:gt (pt (pt .lf x (.slice none true 1 (nl k l))) y w) x=.slice none true 1 (nl k l):=by rw [gt_pt,if_neg (Ne.symm hxy),gt_pt,if_pos rfl]
 have hy:gt (pt (pt .lf x (.slice none true 1 (nl k l))) y w) y=w:=by rw [gt_pt,if_pos rfl]
 have hp1:∀ (tm:Tm) hp,locV P C gl (⟨tm,loc,hp⟩:St).ρ (⟨tm,loc,hp⟩:St).lc o=none:=by
  intro tm hp
  unfold locV
  simp only [ho,pureV,hc,ha,Option.map_none]
 have hmb:∀ n,n≤70368744177664→Nat.ble n maxBytes=true:=fun n h=>by rw [Nat.ble_eq];exact h
 cases ys with
 | nil =>
  refine ⟨.slice none true 1 (nl k l),loc,fun call tm hp j=>gen_val (st:=⟨pt (pt .lf x (.slice none true 1 (nl k l))) y w,loc,hp⟩) hd ?_,by rw [List.append_nil];exact Fr.lit k l true,fun i _=>rfl⟩
  unfold stepV
  rw [hp1]
  unfold stepG
  simp only [ho,callS,hc,hty,hd,opds,ha,List.map_cons,List.map_nil,opd_gt,hx,hy,hni,cond_true,appendV,he,hl,hb,hw.items,fits_nl,Nat.beq_refl]
  rfl
 | cons y0 ys =>
  refine ⟨.slice (some (.loc d ((lg loc d).1+1))) false 1 (nl k (l++y0::ys)),lp loc d ((lg loc d).1+1,.tok),fun call tm hp j=>gen_val (st:=⟨pt (pt .lf x (.slice none true 1 (nl k l))) y w,lp loc d ((lg loc d).1+1,.tok),hp⟩) hd ?_,Fr.tok k _ _ _,fun i hi=>by rw [lg_lp,if_neg (Ne.symm hi)]⟩
  unfold stepV
  rw [hp1]
  unfold stepG
  simp only [ho,callS,hc,hty,hd,opds,ha,List.map_cons,List.map_nil,opd_gt,hx,hy,hni,cond_true,appendV,he,hl,hb,hw.items,fits_nl,Nat.beq_refl]
  show (bif Nat.ble (((nl k l).length+(nl k (y0::ys)).length)*b) maxBytes then _ else none)=_
  rw [nl_length,nl_length,hmb _ hn]
  simp only [cond_true,hA,cond_false,noRefsL_nl,growImm,hg,addRow,lc_lg,aset_lp,nl_append]
end
theorem f79_5_6 {loc:Lo} {n:Nat} {ys:List Nat} {w:V} (hw:Fr w .i64 ys) (hn:ys.length≤1000000):∃ v' loc',(∀ (c:CallF) (tm:Tm) (hp:Hp) (j:V→Lo→Hp→R),go2 Try.f79 79 5 6 23 24 (.slice none true 1 (nl .i64 [n])) w c tm loc hp j=j v' loc' hp)∧Fr v' .i64 (n::ys)∧∀ i,i≠25→lg loc' i=lg loc i :=
 gen_front (l:=[n]) i79_5_6 (by kernel_rfl) (by kernel_rfl) (e:=3) (by kernel_rfl) (by kernel_rfl) (b:=8) (by kernel_rfl) (by decide) hw (by simp;omega)
theorem f79_12_3 {loc:Lo} {n:Nat} {ys:List Nat} {w:V} (hw:Fr w .i64 ys) (hn:ys.length≤1000000):∃ v' loc',(∀ (c:CallF) (tm:Tm) (hp:Hp) (j:V→Lo→Hp→R),go2 Try.f79 79 12 3 45 46 (.slice none true 1 (nl .i64 [n])) w c tm loc hp j=j v' loc' hp)∧Fr v' .i64 (n::ys)∧∀ i,i≠47→lg loc' i=lg loc i :=
 gen_front (l:=[n]) i79_12_3 (by kernel_rfl) (by kernel_rfl) (e:=3) (by kernel_rfl) (by kernel_rfl) (b:=8) (by kernel_rfl) (by decide) hw (by simp;omega)
theorem tbl79:tbl 79=some ⟨rc79,[.tmp 4,.tmp 5]⟩:=by kernel_rfl
theorem fin_fr_two {h:Hp} {a b:Nat} {k:IntKind} {l:List Nat} {s:St} {v w:V} (hv:gt s.tm a=v) (fv:Fr v k l) (hw:gt s.tm b=w) (pw:Ex1 w) (rw':w.noRefs=true) (hd:DG h.rows.length s.hp) :
  ∃ v',Sl k v' l∧fin Pg h [.tmp a,.tmp b] s=some (.val (.tuple [v',w]) h):=by
 obtain ⟨v',hs,he⟩:=fv.out
 refine ⟨v',hs,?_⟩
 unfold fin
 have e1:resV Pg s [.tmp a,.tmp b]=some [v,w]:=by simp only [resV,rho_gt,hv,hw,Option.map_some]
 rw [e1]
 have e2:exps false s [v,w]=some ([v',w],s):=by
  rw [show ∀ (st:St) (v:V) (r:List V),exps false st (v::r)=(match exp false st v with
   | none=>none
   | some (v',st')=>match exps false st' r with
    | none=>none
    | some (l',st'')=>some (v'::l',st'')) from fun _ _ _=>rfl]
  rw [he s]
  simp only [exps_ex [w] _ ⟨pw,trivial⟩]
 simp only [e2]
 show some (Out.val (.tuple [v',w]) (backHp h s.hp [v',w]))=_
 unfold backHp
 rw [clean_dg hd]
 have hr:=hs.noRefs
 simp only [V.noRefsL,hr,rw',Bool.and_self,cond_true]
theorem bin_leq0 (x y:Nat):bin Pg .leq 3 true (.int .i64 (cmpI x y)) (.int .i64 (.ofNat 0))=some (.bool (decide (x≤y))):=by
 unfold cmpI
 rcases Nat.lt_trichotomy x y with h | h | h
 ·rw [if_pos h,decide_eq_true (Nat.le_of_lt h)];rfl
 ·rw [if_neg (by omega),if_neg (by omega),decide_eq_true (Nat.le_of_eq h)];rfl
 ·rw [if_neg (by omega),if_pos h,decide_eq_false (by omega)];rfl
structure I79 (va vb vq vr:V) (i:Int) (h:Hp) (s:St):Prop where
 h0:gt s.tm 0=va
 h1:gt s.tm 1=vb
 h6:gt s.tm 6=vq
 h7:gt s.tm 7=vr
 h8:gt s.tm 8=.int .i64 i
 hp:s.hp=h
theorem part_spec {va vb:V} {a b:List Nat} (ha:Sl .i64 va a) (hb:Sl .i64 vb b) (da:Dg 10000 a) (db:Dg 10000 b) (cb:Cn b) (hne:b≠[]) (la:a.length≤100000) (lb:b.length≤100000) :
  Gives 79 [va,vb] fun r=>∃ s t d e,r=.tuple [s,t]∧Sl .i64 s d∧Sl .i64 t e∧Dg 10000 d∧Dg 10000 e∧Cn e∧vl 10000 d*vl 10000 b+vl 10000 e=vl 10000 a∧vl 10000 e<vl 10000 b∧d.length=a.length:=by
 have hpos:=vl_pos_of (B:=10000) cb hne (by decide)
 refine gives_of tbl79 fun h Q hQ=>?_
 unfold rc79
 refine sR ?_
 refine sR ?_
 refine ww_seq (ww_seq (ww_reg (fun n k=>by simp -implicitDefEqProofs (disch:=omega) only [go_sem,reduceIte,Nat.reduceEqDiff,gt_start,List.getD_cons_zero,List.getD_cons_succ,len_sl ha,i_dec];rfl) ?_))
 refine ww_for (fun m s=>∃ q r vq vr,m≤a.length∧I79 va vb vq vr (dn m) ⟨h.rows,none,h.mods⟩ s∧Fr vq .i64 q∧Sl .i64 vr r∧Dg 10000 q∧Dg 10000 r∧Cn r∧q.length+m=a.length∧vl 10000 (a.drop m)=vl 10000 b*vl 10000 q+vl 10000 r∧vl 10000 r<vl 10000 b) a.length ⟨[],[],.nils,.nils,Nat.le_refl _,⟨sSG,sSG,sS,sS,sS,rfl⟩,Fr.nils _,.inr ⟨rfl,rfl⟩,Dg.nil _,Dg.nil _,fun i hi=>by simp at hi,by simp,by rw [List.drop_length];simp [vl],by simpa [vl] using hpos⟩ ?_
 intro m s ⟨q,r,vq,vr,hm,⟨h0,h1,h6,h7,h8,hhp⟩,fq,sr,dq,dr,cr,hql,hv,hlt⟩
 have hrl:=len_le (B:=10000) (by decide) db cr (Nat.le_of_lt hlt)
 cases m with
 | zero =>
  refine ww_seq (ww_seq (ww_reg (fun n k=>by simp -implicitDefEqProofs (disch:=omega) only [go_sem,reduceIte,Nat.reduceEqDiff,h8,dn];rfl) ?_))
  refine ww_false sS (ww_exit ?_)
  rw [if_pos rfl]
  refine sR2 h6 h7 ?_
  obtain ⟨v',hs',hf⟩:=fin_fr_two (h:=h) (a:=4) (b:=5) (k:=.i64) (l:=q) (s:=⟨pt (pt (pt s.tm 16 (.bool false)) 4 vq) 5 vr,s.loc,s.hp⟩) (v:=vq) (w:=vr) sS fq sS sr.ex sr.noRefs (by rw [hhp];exact fun x hx=>by cases hx)
  exact ww_ret (hQ _ _ hf ⟨_,_,q,r,rfl,hs',sr,dq,dr,cr,by rw [Nat.mul_comm];simpa using hv.symm,hlt,by omega⟩)
 | succ i =>
  have h8':gt s.tm 8=.int .i64 (.ofNat i):=h8
  have hx:a.getD i 0<10000:=da.get (by decide) i
  refine ww_seq (ww_seq (ww_reg (fun n k=>by simp -implicitDefEqProofs (disch:=omega) only [go_sem,reduceIte,Nat.reduceEqDiff,h8',d_true];rfl) ?_))
  refine ww_true sS (ww_skip ?_)
  refine ww_seq (ww_block ?_)
  obtain ⟨v5,l5,happ,fv5,hfr5⟩:=f79_5_6 (loc:=s.loc) (n:=a.getD i 0) sr.fr (by omega)
  obtain ⟨w5,sw5,ew5⟩:=fv5.out
  have d5:Dg 10000 (a.getD i 0::r):=fun x hx'=>by
   rcases List.mem_cons.1 hx' with e | e
   ·rw [e];exact hx
   ·exact dr x e
  obtain ⟨_,ht,r2,⟨⟨vr2,rfl,sr2⟩,dr2,cr2,_⟩,tr2⟩:=trim_spec sw5 d5 (by simp;omega) false ⟨h.rows,none,h.mods⟩
  have vr2v:vl 10000 r2=a.getD i 0+10000*vl 10000 r:=tr2.vl 10000
  have hrl2:r2.length≤b.length+1:=by have:=tr2.len;simp at this;omega
  have hlt2:vl 10000 r2<vl 10000 b*10000:=by
   rw [vr2v]
   have:=Nat.mul_le_mul_left 10000 hlt
   rw [Nat.mul_succ] at this
   omega
  refine ww_seq (ww_call (ht) (fun n hn k=>by simp -implicitDefEqProofs (disch:=omega) only [go_sem,reduceIte,Nat.reduceEqDiff,h0,h7,h8',hhp,ia29 ha,bs29,happ,clx2 (Ex1.bool _) ew5 hn,fld31];rfl) ?_)
  refine sR ?_
  refine ww_join (M:=fun s1=>∃ lo,lo<10000∧vl 10000 b*lo≤vl 10000 r2∧vl 10000 r2<vl 10000 b*(lo+1)∧gt s1.tm 9=.int .i64 (.ofNat lo)∧I79 va vb vq vr2 (.ofNat i) ⟨h.rows,none,h.mods⟩ s1) ?_ ?_
  ·refine ww_for (fun m s1=>∃ lo hi,m+lo=hi∧lo<hi∧hi≤10000∧vl 10000 b*lo≤vl 10000 r2∧vl 10000 r2<vl 10000 b*hi∧gt s1.tm 9=.int .i64 (.ofNat lo)∧gt s1.tm 10=.int .i64 (.ofNat hi)∧I79 va vb vq vr2 (.ofNat i) ⟨h.rows,none,h.mods⟩ s1) 10000 ⟨0,10000,rfl,by decide,Nat.le_refl _,by simp,hlt2,sS,sS,⟨(sS1 h0),(sS1 h1),(sS1 h6),sS,(sS1 h8'),rfl⟩⟩ ?_
   intro m s1 ⟨lo,hi,hml,hlh,hhi,hle,hgt,g9,g10,⟨i0,i1,i6,i7,i8,ihp⟩⟩
   refine sQ2 g9 g10 ?_
   refine ww_if (by simp only [gt_pt,reduceIte];rfl) (fun hc=>ww_skip ?_) (fun hc=>ww_exit ?_)
   ·have hmid:(lo+hi) / 2<10000:=by omega
    refine ww_block ?_
    refine sR2 g9 g10 ?_
    obtain ⟨tv,htm,c,sc,dc,cc,vc,lc⟩:=times_spec hb db (by omega) hmid ⟨h.rows,none,h.mods⟩
    obtain ⟨_,hls,rfl⟩:=lessR_spec sc sr2 dc dr2 cc cr2 (by omega) (by omega) ⟨h.rows,none,h.mods⟩
    refine ww_seq (ww_call (htm.and hls) (fun n hn k=>by simp -implicitDefEqProofs (disch:=omega) only [go_sem,reduceIte,Nat.reduceEqDiff,i1,i7,ihp,clc2 hn.1 hb.ex (Ex1.int _ _),clc2 hn.2 sc.ex sr2.ex,bin_leq0];rfl) ?_)
    refine ww_if (by simp only [gt_pt,reduceIte];rfl) (fun hx=>?_) (fun hx=>?_)
    ·refine sE ?_
     exact ⟨hi - (lo+hi) / 2,by omega,(lo+hi) / 2,hi,by omega,by omega,hhi,by rw [←vc];exact hx,hgt,sS,(sS1 g10),⟨(sS1 i0),(sS1 i1),(sS1 i6),(sS1 i7),(sS1 i8),rfl⟩⟩
    ·refine sE ?_
     exact ⟨(lo+hi) / 2 - lo,by omega,lo,(lo+hi) / 2,by omega,by omega,by omega,hle,by rw [←vc];omega,(sS1 g9),sS,⟨(sS1 i0),(sS1 i1),(sS1 i6),(sS1 i7),(sS1 i8),rfl⟩⟩
   ·rw [if_pos rfl]
    have e1:hi=lo+1:=by omega
    subst e1
    exact ⟨lo,by omega,hle,hgt,(sS1 g9),⟨(sS1 i0),(sS1 i1),(sS1 i6),(sS1 i7),(sS1 i8),ihp⟩⟩
  ·intro s1 ⟨lo,hlo,hle,hgt,g9,⟨i0,i1,i6,i7,i8,ihp⟩⟩
   obtain ⟨v6,l6,happ6,fv6,hfr6⟩:=f79_12_3 (loc:=s1.loc) (n:=lo) fq (by omega)
   refine ww_seq (ww_reg (fun n k=>by simp -implicitDefEqProofs (disch:=omega) only [go_sem,reduceIte,Nat.reduceEqDiff,g9,i6,bs29,happ6];rfl) ?_)
   obtain ⟨tv,htm,c,sc,dc,cc,vc,lc⟩:=times_spec hb db (by omega) hlo ⟨h.rows,none,h.mods⟩
   have hcl:c.length≤r2.length:=len_le (B:=10000) (by decide) dr2 cc (by rw [vc];exact hle)
   obtain ⟨mv,hmi,m2,sm,dm,vm,lm⟩:=minusR_spec sr2 sc dr2 dc (by omega) hcl (by rw [vc];exact hle) ⟨h.rows,none,h.mods⟩
   obtain ⟨_,ht3,r3,⟨⟨vr3,rfl,sr3⟩,dr3,cr3,_⟩,tr3⟩:=trim_spec sm dm (by omega) false ⟨h.rows,none,h.mods⟩
   refine ww_call ((htm.and hmi).and ht3) (fun n hn k=>by simp -implicitDefEqProofs (disch:=omega) only [go_sem,reduceIte,Nat.reduceEqDiff,i1,i7,g9,ihp,clc2 hn.1.1 hb.ex (Ex1.int _ _),clc2 hn.1.2 sr2.ex sc.ex,clc2 hn.2 (Ex1.bool _) sm.ex,fld31];rfl) ?_
   refine ww_reg (fun n k=>by simp -implicitDefEqProofs (disch:=omega) only [go_sem,reduceIte,Nat.reduceEqDiff,i8,i_dec];rfl) ?_
   have v3:vl 10000 r3=vl 10000 m2:=tr3.vl 10000
   rw [vc] at vm
   refine ⟨i,by omega,lo::q,r3,v6,vr3,by omega,⟨(sS1 i0),(sS1 i1),sS,sS,sS,rfl⟩,fv6,sr3,(fun x hx'=>by rcases List.mem_cons.1 hx' with e | e;rw [e];exact hlo;exact dq x e),dr3,cr3,by simp;omega,?_,?_⟩
   ·rw [vl_drop_cons 10000 a i (by omega),hv,v3]
    simp only [vl,Nat.mul_add]
    have e1:10000*(vl 10000 b*vl 10000 q)=vl 10000 b*(10000*vl 10000 q):=by rw [←Nat.mul_assoc,←Nat.mul_assoc,Nat.mul_comm 10000]
    omega
   ·rw [v3]
    rw [Nat.mul_add,Nat.mul_one] at hgt
    omega
end Go.AM.S
end
section
namespace Go.AM.S
open Go Go.AM Go.Proofs NumL
open _root_.Go.AM.G (R)
set_option maxRecDepth 100000
theorem iZ_eql (k:IntKind) (x:Int):G.int2 .eql k x x=some (.bool true):=by
 show some (V.bool (F.eqI x x))=_
 rw [F.eqI_eq]
 simp
end Go.AM.S
end
section
namespace Go.AM.S
open Go Go.AM Go.Proofs NumL
open _root_.Go.AM.G (R)
set_option maxRecDepth 100000
end Go.AM.S
end
section
namespace Go.AM.S
open Go Go.AM Go.Proofs NumL
open _root_.Go.AM.G (R)
set_option maxRecDepth 100000
theorem cmpZ_self (x:Int):cmpZ x x=.ofNat 0:=by unfold cmpZ;rw [if_neg (by omega),if_neg (by omega)]
theorem cmpZ_eq {x y:Int} (h:x=y):cmpZ x y=.ofNat 0:=by rw [h];exact cmpZ_self y
theorem sgn_zero {x:Int} (h:x=0):sgn x=.ofNat 0:=by rw [h];rfl
theorem wv_tup (w:Bool):wv (.tuple []) w=some false:=rfl
theorem ww_at {c:RC} {s:St} {N:St→Prop} {X:Nat→St→Prop} {Q:St→Prop} {hp:Hp} (M:Tm→Lo→Prop) (hh:s.hp=hp) (hs:M s.tm s.loc) (h:∀ tm loc,M tm loc→WW Pg kn0 tbl c ⟨tm,loc,hp⟩ N X Q):WW Pg kn0 tbl c s N X Q:=by
 subst hh;exact h s.tm s.loc hs
theorem sgn_pos {x:Int} (h:0<x):sgn x=.ofNat 1:=by unfold sgn cmpZ;rw [if_neg (by omega),if_pos h]
end Go.AM.S
end
section
namespace Go.AM.S
open Go Go.AM Go.Proofs NumL
open _root_.Go.AM.G (R)
set_option maxRecDepth 100000
section
variable {C:Cfg} {P:Program} {call:CallF} {gl:Nat→Bool} {o:Oper} {t' tm:Tm} {loc:Lo} {hp:Hp}
theorem genD_alloc {d n:Nat} {t:TypeId} {z:V} {J:JD} {X:XD} (hd:o.dst=some d) (ho:o.op=.alloc t) (hg:gl d=false) (hz:zeroV P t=some z) (hn:szOf P t=some n) (hl:z.live=true) (hc:z.cells.length=n) :
  genD P C call gl o t' loc hp J X=J (.ptr (.loc d ((lg loc d).1+1)) 0) ⟨[d],[d],false,false,false,false⟩ (lp loc d ((lg loc d).1+1,.cells false z.cells)) hp:=by
 have hp1:locV P C gl (⟨t',loc,hp⟩:St).ρ (⟨t',loc,hp⟩:St).lc o=some (.ptr (.loc d ((lg loc d).1+1)) 0,some (d,(lg loc d).1+1,.cells false z.cells)):=by
  unfold locV
  simp only [ho,hd,hg,cond_false,hz,hn,hl,hc,Nat.beq_refl,Bool.and_self,cond_true,lc_lg]
 have hf:footV P C gl (⟨t',loc,hp⟩:St).ρ (⟨t',loc,hp⟩:St).lc o=some ⟨[d],[d],false,false,false,false⟩:=by
  unfold footV
  rw [hp1]
 have hs:stepV P C gl ⟨t',loc,hp⟩ o=some (.val (.ptr (.loc d ((lg loc d).1+1)) 0) ⟨t',lp loc d ((lg loc d).1+1,.cells false z.cells),hp⟩):=by
  unfold stepV
  rw [hp1]
  simp only [applyL,aset_lp]
 unfold genD
 rw [F.e_footV,F.e_oneV,F.e_rho,F.e_lcf,hf]
 show G.onSome (oneV P C call gl ⟨t',loc,hp⟩ o) _ none=_
 unfold oneV
 rw [hs]
 have e1:F.settle hp hp ⟨[d],[d],false,false,false,false⟩ = ⟨[d],[d],false,false,false,false⟩:=by
  unfold F.settle
  rw [Nat.beq_refl,Nat.beq_refl];rfl
 simp only [putV,hd]
 show J (gt (aset t' d (.ptr (.loc d ((lg loc d).1+1)) 0)) d) (F.settle hp hp ⟨[d],[d],false,false,false,false⟩) (lp loc d ((lg loc d).1+1,.cells false z.cells)) hp=_
 rw [gt_eq,aget_aset,if_pos rfl,e1]
end
end Go.AM.S
end
section
namespace Go.AM.S
open Go Go.AM Go.Proofs NumL
open _root_.Go.AM.G (R)
set_option maxRecDepth 100000
section
variable {C:Cfg} {P:Program} {call:CallF} {gl:Nat→Bool} {o:Oper} {t' tm:Tm} {loc:Lo} {hp:Hp}
theorem locV_two {t:TypeId} {a b:Operand} {z0 z1 v w:V} {ρ:Nat→V} {lc:Nat→Nat × Row} (ho:o.op=.build t #[(0,a),(1,b)]) (h2:two P t=true) (hz:zeroV P t=some (.agg [z0,z1]))
  (ha:AM.opd ρ a=v) (hb:AM.opd ρ b=w) (hv:Pl v) (hw:Pl w):locV P C gl ρ lc o=some (.agg [v,w],none):=by
 unfold two at h2
 split at h2
 ·rename_i fs hu
  split at h2
  ·rename_i f0 f1 hfs
   simp only [Bool.and_eq_true] at h2
   obtain ⟨⟨a0,a1⟩,a2⟩:=h2
   have e:fs = #[f0,f1]:=by apply Array.toList_inj.1;rw [hfs]
   subst e
   split at a2
   ·rename_i na nb s0 s1
    simp only [Bool.and_eq_true] at a2
    have b1:na=1:=Nat.eq_of_beq_eq_true a2.1
    have b2:nb=1:=Nat.eq_of_beq_eq_true a2.2
    subst b1;subst b2
    have o0:=Nat.eq_of_beq_eq_true a0;have o1:=Nat.eq_of_beq_eq_true a1
    have i0:(P.info? f0.type).isSome=true:=by
     unfold szOf at s0
     cases h:P.info? f0.type with
     | none=>rw [h] at s0;simp at s0
     | some i=>rfl
    have i1:(P.info? f1.type).isSome=true:=by
     unfold szOf at s1
     cases h:P.info? f1.type with
     | none=>rw [h] at s1;simp at s1
     | some i=>rfl
    have e0:fieldOf P t 0=some f0:=by unfold fieldOf;rw [hu];rfl
    have e1:fieldOf P t 1=some f1:=by unfold fieldOf;rw [hu];rfl
    unfold locV
    simp only [ho,pureV,hu,hz,V.live,Bool.true_and]
    have ea:(#[f0,f1]:Array Field).all (fun f=>(P.info? f.type).isSome)=true:=by simp [i0,i1]
    rw [ea]
    have c0:V.cells (.agg [z0,z1])=[z0,z1]:=rfl
    simp only [cond_true,fillP,e0,e1,ha,hb,hv.weak,hw.weak,hv.plain,hw.plain,hv.cells,hw.cells,s0,s1,o0,o1,Option.getD_some,List.length_cons,List.length_nil,c0]
    rfl
   ·simp at a2
  ·simp at h2
 ·simp at h2
theorem gen_loc {d:Nat} {v:V} {j:V→Lo→Hp→R} (hd:o.dst=some d) (h:locV P C gl (⟨t',loc,hp⟩:St).ρ (⟨t',loc,hp⟩:St).lc o=some (v,none)):gen P C call gl o t' tm loc hp j=j v loc hp:=by
 refine gen_val (v:=v) (st:=⟨t',loc,hp⟩) hd ?_
 unfold stepV
 rw [h];rfl
end
theorem db38_2_0 (c:CallF) (t:Tm) (l:Lo) (h:Hp) (J:JD) (X:XD):gD Try.f38 38 2 0 c t l h J X=J (.agg [.bool false,.nils]) ⟨[],[],false,false,false,false⟩ l h :=
 genD_pure (C:=Cg) (gl:=Cg.glob 38) (call:=c) (o:=opA Try.f38 2 0) (d:=14) (t:=31) (l:=#[]) (by kernel_rfl) (by kernel_rfl) (by kernel_rfl)
theorem da38_4_11 (c:CallF) (t:Tm) (l:Lo) (h:Hp) (J:JD) (X:XD):gD Try.f38 38 4 11 c t l h J X=J (.ptr (.loc 8 ((lg l 8).1+1)) 0) ⟨[8],[8],false,false,false,false⟩ (lp l 8 ((lg l 8).1+1,.cells false [.bool false,.nils])) h :=
 genD_alloc (C:=Cg) (gl:=Cg.glob 38) (call:=c) (o:=opA Try.f38 4 11) (d:=8) (t:=31) (n:=2) (z:=.agg [.bool false,.nils]) (by kernel_rfl) (by kernel_rfl) (by kernel_rfl) (by kernel_rfl) (by kernel_rfl) rfl rfl
theorem da38_4_12 (c:CallF) (t:Tm) (l:Lo) (h:Hp) (J:JD) (X:XD):gD Try.f38 38 4 12 c t l h J X=J (.ptr (.loc 9 ((lg l 9).1+1)) 0) ⟨[9],[9],false,false,false,false⟩ (lp l 9 ((lg l 9).1+1,.cells false [.bool false,.nils])) h :=
 genD_alloc (C:=Cg) (gl:=Cg.glob 38) (call:=c) (o:=opA Try.f38 4 12) (d:=9) (t:=31) (n:=2) (z:=.agg [.bool false,.nils]) (by kernel_rfl) (by kernel_rfl) (by kernel_rfl) (by kernel_rfl) (by kernel_rfl) rfl rfl
theorem bt38_6_3 {v:V} (hv:Pl v) (c:CallF) (t' t:Tm) (l:Lo) (h:Hp) (j:V→Lo→Hp→R):gn Try.f38 38 6 3 c (pt t' 39 v) t l h j=j (.agg [.bool false,v]) l h :=
 gen_loc (C:=Cg) (gl:=Cg.glob 38) (call:=c) (o:=opA Try.f38 6 3) (d:=40) (by kernel_rfl) (locV_two (a:=.const (.bool false)) (b:=.tmp 39) (by kernel_rfl) (by kernel_rfl) (show zeroV Pg 31=some (.agg [.bool false,.nils]) by kernel_rfl) rfl (by rw [opd_gt,gt_pt,if_pos rfl]) (Pl.bool _) hv)
theorem bt40_1_2 {v:V} (hv:Pl v) (c:CallF) (t:Tm) (l:Lo) (h:Hp) (J:JD) (X:XD):gD Try.f40 40 1 2 c (pt t 10 v) l h J X=J (.agg [.bool false,v]) ⟨[],[],false,false,false,false⟩ l h :=
 genD_pure (C:=Cg) (gl:=Cg.glob 40) (call:=c) (o:=opA Try.f40 1 2) (d:=11) (t:=31) (l:=#[(0,.const (.bool false)),(1,.tmp 10)]) (by kernel_rfl) (by kernel_rfl) (locV_two (a:=.const (.bool false)) (b:=.tmp 10) (by kernel_rfl) (by kernel_rfl) (show zeroV Pg 31=some (.agg [.bool false,.nils]) by kernel_rfl) rfl (by rw [opd_gt,gt_pt,if_pos rfl]) (Pl.bool _) hv)
theorem bt40_1_5 {v:V} (hv:Pl v) (c:CallF) (t:Tm) (l:Lo) (h:Hp) (J:JD) (X:XD):gD Try.f40 40 1 5 c (pt t 13 v) l h J X=J (.agg [.bool false,v]) ⟨[],[],false,false,false,false⟩ l h :=
 genD_pure (C:=Cg) (gl:=Cg.glob 40) (call:=c) (o:=opA Try.f40 1 5) (d:=14) (t:=31) (l:=#[(0,.const (.bool false)),(1,.tmp 13)]) (by kernel_rfl) (by kernel_rfl) (locV_two (a:=.const (.bool false)) (b:=.tmp 13) (by kernel_rfl) (by kernel_rfl) (show zeroV Pg 31=some (.agg [.bool false,.nils]) by kernel_rfl) rfl (by rw [opd_gt,gt_pt,if_pos rfl]) (Pl.bool _) hv)
theorem da40_1_6 (c:CallF) (t:Tm) (l:Lo) (h:Hp) (J:JD) (X:XD):gD Try.f40 40 1 6 c t l h J X=J (.ptr (.loc 5 ((lg l 5).1+1)) 0) ⟨[5],[5],false,false,false,false⟩ (lp l 5 ((lg l 5).1+1,.cells false [.bool false,.nils])) h :=
 genD_alloc (C:=Cg) (gl:=Cg.glob 40) (call:=c) (o:=opA Try.f40 1 6) (d:=5) (t:=31) (n:=2) (z:=.agg [.bool false,.nils]) (by kernel_rfl) (by kernel_rfl) (by kernel_rfl) (by kernel_rfl) (by kernel_rfl) rfl rfl
theorem da40_1_7 (c:CallF) (t:Tm) (l:Lo) (h:Hp) (J:JD) (X:XD):gD Try.f40 40 1 7 c t l h J X=J (.ptr (.loc 6 ((lg l 6).1+1)) 0) ⟨[6],[6],false,false,false,false⟩ (lp l 6 ((lg l 6).1+1,.cells false [.bool false,.nils])) h :=
 genD_alloc (C:=Cg) (gl:=Cg.glob 40) (call:=c) (o:=opA Try.f40 1 7) (d:=6) (t:=31) (n:=2) (z:=.agg [.bool false,.nils]) (by kernel_rfl) (by kernel_rfl) (by kernel_rfl) (by kernel_rfl) (by kernel_rfl) rfl rfl
theorem IsR.shrink {k l:Nat} {v:V} {z:Int} (h:IsR k v z) (hz:z.natAbs<10000 ^ l):IsR l v z:=by
 obtain ⟨d,b,⟨hv,dd,cd,h0⟩,rfl,hl⟩:=h
 refine ⟨d,b,⟨hv,dd,cd,h0⟩,rfl,?_⟩
 rcases Nat.lt_or_ge l d.length with h1 | h1
 ·exfalso
  have h2:=vl_ge (B:=10000) cd (by intro e;subst e;simp at h1)
  have h3:(zr d b).natAbs=vl 10000 d:=by unfold zr;cases b<;>simp
  rw [h3] at hz
  have h4:10000 ^ l≤10000 ^ (d.length - 1):=Nat.pow_le_pow_right (by decide) (by omega)
  omega
 ·exact h1
theorem zr_abs (d:List Nat) (b:Bool):(zr d b).natAbs=vl 10000 d:=by unfold zr;cases b<;>simp
theorem IsR.abs_lt {k:Nat} {v:V} {z:Int} (h:IsR k v z):z.natAbs<10000 ^ k:=by
 obtain ⟨d,b,⟨hv,dd,cd,h0⟩,rfl,hl⟩:=h
 rw [zr_abs]
 exact vl_lt_of (by decide) dd hl
theorem IsR.nn {k:Nat} {s:V} {b:Bool} {z:Int} (h:IsR k (.agg [.bool b,s]) z):Pl s∧Ex1 (.agg [.bool b,s])∧AM.quiet (.agg [.bool b,s])=true:=by
 obtain ⟨s',b',e,p,x,q⟩:=h.form
 have e':b=b'∧s=s':=by simpa using e
 obtain ⟨rfl,rfl⟩:=e'
 exact ⟨p,x,q⟩
end Go.AM.S
end
section
namespace Go.AM.S
open Go Go.AM Go.Proofs NumL
open _root_.Go.AM.G (R)
set_option maxRecDepth 100000
theorem tbl38:tbl 38=some ⟨rc38,[.cell 4 31,.cell 5 31]⟩:=by kernel_rfl
theorem fin_cells2R {h:Hp} {a d g a2 d2 g2:Nat} {f f2:Bool} {s:St} {x y x2 y2:V} (hv:gt s.tm a=.ptr (.loc d g) 0) (hv2:gt s.tm a2=.ptr (.loc d2 g2) 0) (hr:lg s.loc d=(g,.cells f [x,y])) (hr2:lg s.loc d2=(g2,.cells f2 [x2,y2])) (hx:Pl x) (hy:Pl y) (hx2:Pl x2) (hy2:Pl y2) (hc:DG h.rows.length s.hp) :
  fin Pg h [.cell a 31,.cell a2 31] s=some (.val (.tuple [.agg [x,y],.agg [x2,y2]]) h):=fin_cells2 (by kernel_rfl) (by kernel_rfl) hv hv2 hr hr2 hx hy hx2 hy2 hc
structure I38 (s u:V) (b c:Bool) (h:Hp) (tm:Tm) (loc:Lo):Prop where
 h2:gt tm 2=.ptr (.loc 2 1) 0
 h3:gt tm 3=.ptr (.loc 3 1) 0
 h4:gt tm 4=.ptr (.loc 4 1) 0
 h5:gt tm 5=.ptr (.loc 5 1) 0
 h8:gt tm 8=.ptr (.loc 8 1) 0
 h9:gt tm 9=.ptr (.loc 9 1) 0
 l2:lg loc 2=(1,.cells false [.bool b,s])
 l3:lg loc 3=(1,.cells false [.bool c,u])
 l4:lg loc 4=(1,.cells false [.bool false,.nils])
 l5:lg loc 5=(1,.cells false [.bool false,.nils])
theorem quoR_spec {k l:Nat} {va vb:V} {x y:Int} (ha:IsR k va x) (hb:IsR l vb y) (hk:k≤90000) (hl:l≤90000):Gives 38 [va,vb] fun r=>∃ v w,r=.tuple [v,w]∧IsR k v (x / y)∧IsR (if y=0 then k else l) w (x % y):=by
 have ha0:=ha
 have hb0:=hb
 obtain ⟨d,b,⟨⟨s,rfl,hs⟩,dd,cd,h0⟩,hx,hdl⟩:=ha
 obtain ⟨e,c,⟨⟨u,rfl,hu⟩,de,ce,he0⟩,hy,hel⟩:=hb
 refine gives_of tbl38 fun h Q hQ=>?_
 unfold rc38
 refine sRG ?_
 have fin:∀ (st:St) (v0 v1 w0 w1:V) ,IsR k (.agg [v0,v1]) (x / y)→IsR (if y=0 then k else l) (.agg [w0,w1]) (x % y)→gt st.tm 4=.ptr (.loc 4 1) 0→gt st.tm 5=.ptr (.loc 5 1) 0→lg st.loc 4=(1,.cells false [v0,v1])→lg st.loc 5=(1,.cells false [w0,w1])→st.hp=⟨h.rows,none,h.mods⟩→Q st:=by
  intro st v0 v1 w0 w1 hv hw h4 h5 l4 l5 hh
  obtain ⟨sv,bv,e1,pv,_,_⟩:=hv.form
  obtain ⟨sw,bw,e2,pw,_,_⟩:=hw.form
  obtain ⟨rfl,rfl⟩:v0=.bool bv∧v1=sv:=by simpa using e1
  obtain ⟨rfl,rfl⟩:w0=.bool bw∧w1=sw:=by simpa using e2
  exact hQ _ _ (fin_cells2R (x:=.bool bv) (y:=v1) (x2:=.bool bw) (y2:=w1) (d:=4) (g:=1) (d2:=5) (g2:=1) (f:=false) (f2:=false) h4 h5 l4 l5 (Pl.bool _) pv (Pl.bool _) pw (by rw [hh];exact fun x hx=>by cases hx)) ⟨_,_,rfl,hv,hw⟩
 rcases Nat.eq_zero_or_pos e.length with ee | ee
 ·have e0:e=[]:=List.length_eq_zero_iff.1 ee
  have hy0:y=0:=by rw [hy,e0,he0 e0];rfl
  refine ww_seq (ww_seq (ww_reg (fun n k=>by simp -implicitDefEqProofs (disch:=omega) only [go_sem,reduceIte,Nat.reduceEqDiff,gt_start,List.getD_cons_zero,List.getD_cons_succ,ldc_snd L29,len_sl hu,ee,d_true];rfl) ?_))
  refine ww_true sS ?_
  refine ww_seq (ww_reg (fun n k=>by simp -implicitDefEqProofs (disch:=omega) only [go_sem,reduceIte,Nat.reduceEqDiff,gt_start,List.getD_cons_zero,List.getD_cons_succ,db38_2_0,ldc_two L31,stc_two N31 1 (.bool false) .nils (.bool false) .nils _ rfl rfl,stc_two N31 1 (.bool b) s (.bool false) .nils _ rfl hs.pl.ok];exact finD_ok (by kernel_rfl)) ?_)
  refine ww_ret (fin _ (.bool false) .nils (.bool b) s ?_ ?_ sS sS sS sS rfl)
  ·rw [hy0,Int.ediv_zero];exact zeroR.mono (Nat.zero_le _)
  ·rw [hy0,Int.emod_zero,if_pos rfl];exact ha0
 have hne:e≠[]:=fun q=>by subst q;simp at ee
 have hE:=vl_pos_of (B:=10000) ce hne (by decide)
 have hyn:y≠0:=by rw [hy];unfold zr;cases c<;>simp<;>omega
 refine ww_seq (ww_seq (ww_reg (fun n k=>by simp -implicitDefEqProofs (disch:=omega) only [go_sem,reduceIte,Nat.reduceEqDiff,gt_start,List.getD_cons_zero,List.getD_cons_succ,ldc_snd L29,len_sl hu,d_false];rfl) ?_))
 refine ww_false sS (ww_skip ?_)
 obtain ⟨_,hpt,sq,sr,q,r,rfl,hsq,hsr,dq,dr,cr,hv,hlt,hql⟩:=part_spec hs hu dd de ce hne (by omega) (by omega) ⟨h.rows,none,h.mods⟩
 have hrl:=len_le (B:=10000) (by decide) de cr (Nat.le_of_lt hlt)
 refine ww_seq (ww_call (hpt) (fun n hn k=>by simp -implicitDefEqProofs (disch:=omega) only [go_sem,reduceIte,Nat.reduceEqDiff,gt_start,List.getD_cons_zero,List.getD_cons_succ,ldc_snd L29,clc2 hn hs.ex hu.ex,ext_tuple];rfl) ?_)
 obtain ⟨_,ht1,f1,⟨⟨s1,rfl,hs1⟩,df1,cf1,hf1⟩,tr1⟩:=trim_spec hsq dq (by omega) (!(b == c)) ⟨h.rows,none,h.mods⟩
 obtain ⟨_,ht2,f2,⟨⟨s2,rfl,hs2⟩,df2,cf2,hf2⟩,tr2⟩:=trim_spec hsr dr (by omega) b ⟨h.rows,none,h.mods⟩
 have lf1:=tr1.len
 have lf2:=tr2.len
 obtain ⟨ql,qr⟩:=quo_law b c hv hlt
 have ex:x=bif b then -(vl 10000 d:Int) else (vl 10000 d:Int):=hx
 have ey:y=bif c then -(vl 10000 e:Int) else (vl 10000 e:Int):=hy
 rw [←ex,←ey] at ql qr
 have hI1:IsR k (.agg [.bool (!(b == c) && !f1.isEmpty),s1]) (bif b == c then ((vl 10000 q:Nat):Int) else -((vl 10000 q:Nat):Int)):=by
  refine ⟨f1,_,⟨⟨s1,rfl,hs1⟩,df1,cf1,hf1⟩,?_,by omega⟩
  rw [←tr1.vl 10000]
  cases b == c with
  | true=>simp [zr]
  | false=>cases f1<;>rfl
 have hI2:IsR l (.agg [.bool (b && !f2.isEmpty),s2]) (bif b then -((vl 10000 r:Nat):Int) else ((vl 10000 r:Nat):Int)):=by
  refine ⟨f2,_,⟨⟨s2,rfl,hs2⟩,df2,cf2,hf2⟩,?_,by omega⟩
  rw [←tr2.vl 10000]
  cases b with
  | false=>simp [zr]
  | true=>cases f2<;>rfl
 refine ww_seq (ww_call (ht1.and ht2) (fun n hn k=>by simp -implicitDefEqProofs (disch:=omega) only [go_sem,reduceIte,Nat.reduceEqDiff,gt_start,List.getD_cons_zero,List.getD_cons_succ,ldc_fst L4,bin_neb 4 false b c U4,da38_4_11,da38_4_12,cld2 hn.1 (Ex1.bool _) hsq.ex rfl hsq.quiet,cld2 hn.2 (Ex1.bool _) hsr.ex rfl hsr.quiet,stc_two N31 1 (.bool (!(b == c) && !f1.isEmpty)) s1 (.bool false) .nils _ rfl hs1.pl.ok,stc_two N31 1 (.bool (b && !f2.isEmpty)) s2 (.bool false) .nils _ rfl hs2.pl.ok];exact finD_ok (by kernel_rfl)) ?_)
 refine ww_join (M:=fun st=>∃ v0 v1 w0 w1,IsR k (.agg [v0,v1]) (x / y)∧IsR l (.agg [w0,w1]) (x % y)∧I38 s u b c ⟨h.rows,none,h.mods⟩ st.tm st.loc∧lg st.loc 8=(1,.cells false [v0,v1])∧lg st.loc 9=(1,.cells false [w0,w1])∧st.hp=⟨h.rows,none,h.mods⟩) ?_ ?_
 ·have hgz:(0<vl 10000 r)↔f2≠[]:=by
   rw [←tr2.vl 10000]
   constructor
   ·intro h1 e1;subst e1;simp [vl] at h1
   ·intro h1;exact vl_pos_of (B:=10000) cf2 h1 (by decide)
  refine ww_at (hp:=⟨h.rows,none,h.mods⟩) (M:=fun tm loc=>I38 s u b c ⟨h.rows,none,h.mods⟩ tm loc∧lg loc 8=(1,.cells false [.bool (!(b == c) && !f1.isEmpty),s1])∧lg loc 9=(1,.cells false [.bool (b && !f2.isEmpty),s2])) rfl ⟨⟨sSG,sSG,sS,sS,sS,sS,sS,sS,sS,sS⟩,sS,sS⟩ ?_
  intro tm loc ⟨⟨h2,h3,h4,h5,h8,h9,l2,l3,l4,l5⟩,l8,l9⟩
  have hb01:b=true∧0<vl 10000 r∨(b&&decide (0<vl 10000 r))=false:=by
   cases b with
   | false=>exact .inr rfl
   | true =>
    rcases Nat.eq_zero_or_pos (vl 10000 r) with q | q
    ·exact .inr (by rw [q];rfl)
    ·exact .inl ⟨rfl,q⟩
  rcases hb01 with ⟨rfl,hg0⟩ | hbf
  ·have hf2:(true && !f2.isEmpty)=true:=by
    have:=hgz.1 hg0
    cases f2 with
    | nil=>exact absurd rfl this
    | cons x0 l0=>rfl
   rw [hf2] at l9 hI2
   obtain ⟨b1,hb1⟩:∃ b1,(!(true == c) && !f1.isEmpty)=b1:=⟨_,rfl⟩
   rw [hb1] at l8 hI1
   rw [decide_eq_true hg0,Bool.true_and,cond_true] at qr
   rw [decide_eq_true hg0] at ql
   simp only [cond_true] at ql
   have hIE:IsR l (.agg [.bool false,u]) ((vl 10000 e:Nat):Int):=⟨e,false,⟨⟨u,rfl,hu⟩,de,ce,fun _=>rfl⟩,rfl,hel⟩
   have hEl:vl 10000 e<10000 ^ l:=vl_lt_of (by decide) de hel
   obtain ⟨r5,hr5,hI5⟩:=addR_spec hI2 hIE (by omega) (by omega) ⟨h.rows,none,h.mods⟩
   have hI5':IsR l r5 (x % y):=by
    have e1:(bif true then -((vl 10000 r:Nat):Int) else ((vl 10000 r:Nat):Int))+((vl 10000 e:Nat):Int)=x % y:=by rw [qr,cond_true];omega
    rw [e1] at hI5
    exact hI5.shrink (by rw [qr];omega)
   obtain ⟨s5,b5,rfl,p5,x5,q5⟩:=hI5'.form
   obtain ⟨p2,x2,q2⟩:=hI2.nn
   obtain ⟨pE,xE,qE⟩:=hIE.nn
   obtain ⟨p1,x1,q1⟩:=hI1.nn
   refine ww_seq (ww_reg (fun n k=>by simp -implicitDefEqProofs (disch:=omega) only [go_sem,reduceIte,Nat.reduceEqDiff,h9,l9,ldc_fst L4];rfl) ?_)
   refine ww_true sS ?_
   refine ww_seq (ww_call (hr5) (fun n hn k=>by simp -implicitDefEqProofs (disch:=omega) only [go_sem,reduceIte,Nat.reduceEqDiff,h3,h9,l3,l9,ldc_snd L29,ldc_two L31,bt38_6_3 hu.pl,clc2 hn x2 xE,stc_two N31 1 (.bool b5) s5 (.bool true) s2 _ rfl p5.ok];rfl) ?_)
   obtain ⟨r8,hr8,hI8⟩:=ofR_spec (z:=1) (by decide) (by decide) ⟨h.rows,none,h.mods⟩
   obtain ⟨s8,b8,rfl,p8,x8,q8⟩:=hI8.form
   have hr8':Runs Pg kn0 tbl 22 [.int .i64 (.ofNat 1)] ⟨h.rows,none,h.mods⟩ (.val (.agg [.bool b8,s8]) ⟨h.rows,none,h.mods⟩):=hr8
   have hbd:=Nat.lt_of_le_of_lt (Int.natAbs_ediv_le_natAbs x y) ha0.abs_lt
   cases c with
   | false =>
    obtain ⟨r9,hr9,hI9⟩:=subR_spec hI1 hI8 (by omega) (by omega) ⟨h.rows,none,h.mods⟩
    have hI9':IsR k r9 (x / y):=by
     have e1:(bif true == false then ((vl 10000 q:Nat):Int) else -((vl 10000 q:Nat):Int)) - 1=x / y:=by rw [ql];rfl
     rw [e1] at hI9
     exact hI9.shrink hbd
    obtain ⟨s9,b9,rfl,p9,x9,q9⟩:=hI9'.form
    refine ww_seq (ww_reg (fun n k=>by simp -implicitDefEqProofs (disch:=omega) only [go_sem,reduceIte,Nat.reduceEqDiff,h3,l3,ldc_fst L4];rfl) ?_)
    refine ww_false sS ?_
    refine ww_call (hr8'.and hr9) (fun n hn k=>by
     simp -implicitDefEqProofs (disch:=omega) only [go_sem,reduceIte,Nat.reduceEqDiff,h8,l8,ldc_two L31,cld1 hn.1 (Ex1.int _ _) rfl,cld2 hn.2 x1 x8 q1 q8,stc_two N31 1 (.bool b9) s9 (.bool b1) s1 _ rfl p9.ok]
     exact finD_ok (by kernel_rfl)) ?_
    exact ⟨.bool b9,s9,.bool b5,s5,hI9',hI5',⟨(sS1 h2),(sS1 h3),(sS1 h4),(sS1 h5),(sS1 h8),(sS1 h9),(sS1 l2),(sS1 l3),(sS1 l4),(sS1 l5)⟩,sS,sS,rfl⟩
   | true =>
    obtain ⟨r9,hr9,hI9⟩:=addR_spec hI1 hI8 (by omega) (by omega) ⟨h.rows,none,h.mods⟩
    have hI9':IsR k r9 (x / y):=by
     have e1:(bif true == true then ((vl 10000 q:Nat):Int) else -((vl 10000 q:Nat):Int))+1=x / y:=by rw [ql];rfl
     rw [e1] at hI9
     exact hI9.shrink hbd
    obtain ⟨s9,b9,rfl,p9,x9,q9⟩:=hI9'.form
    refine ww_seq (ww_reg (fun n k=>by simp -implicitDefEqProofs (disch:=omega) only [go_sem,reduceIte,Nat.reduceEqDiff,h3,l3,ldc_fst L4];rfl) ?_)
    refine ww_true sS ?_
    refine ww_call (hr8'.and hr9) (fun n hn k=>by
     simp -implicitDefEqProofs (disch:=omega) only [go_sem,reduceIte,Nat.reduceEqDiff,h8,l8,ldc_two L31,cld1 hn.1 (Ex1.int _ _) rfl,cld2 hn.2 x1 x8 q1 q8,stc_two N31 1 (.bool b9) s9 (.bool b1) s1 _ rfl p9.ok]
     exact finD_ok (by kernel_rfl)) ?_
    exact ⟨.bool b9,s9,.bool b5,s5,hI9',hI5',⟨(sS1 h2),(sS1 h3),(sS1 h4),(sS1 h5),(sS1 h8),(sS1 h9),(sS1 l2),(sS1 l3),(sS1 l4),(sS1 l5)⟩,sS,sS,rfl⟩
  ·have hneg:(b && !f2.isEmpty)=false:=by
    cases b with
    | false=>rfl
    | true =>
     rw [Bool.true_and,decide_eq_false_iff_not,hgz] at hbf
     cases f2 with
     | nil=>rfl
     | cons x0 l0=>exact absurd (by simp) hbf
   rw [hneg] at l9 hI2
   have qf:x / y=bif b == c then ((vl 10000 q:Nat):Int) else -((vl 10000 q:Nat):Int):=by
    rw [ql]
    cases b with
    | false=>cases c<;>rfl
    | true =>
     rw [Bool.true_and] at hbf
     rw [hbf]
     cases c<;>simp
   have rf:x % y=bif b then -((vl 10000 r:Nat):Int) else ((vl 10000 r:Nat):Int):=by
    rw [qr,hbf]
    cases b with
    | false=>rfl
    | true =>
     rw [Bool.true_and,decide_eq_false_iff_not] at hbf
     have:vl 10000 r=0:=by omega
     rw [this];rfl
   refine ww_seq (ww_reg (fun n k=>by simp -implicitDefEqProofs (disch:=omega) only [go_sem,reduceIte,Nat.reduceEqDiff,h9,l9,ldc_fst L4];rfl) ?_)
   refine ww_false sS (ww_skip ?_)
   exact ⟨_,s1,_,s2,by rw [qf];exact hI1,by rw [rf];exact hI2,⟨(sS1 h2),(sS1 h3),(sS1 h4),(sS1 h5),(sS1 h8),(sS1 h9),(sS1 l2),(sS1 l3),(sS1 l4),(sS1 l5)⟩,(sS1 l8),(sS1 l9),rfl⟩
 ·intro st ⟨v0,v1,w0,w1,hv0,hw0,⟨h2,h3,h4,h5,h8,h9,l2,l3,l4,l5⟩,l8,l9,hhp⟩
  obtain ⟨sv,bv,e1,pv,_,_⟩:=hv0.form
  obtain ⟨sw,bw,e2,pw,_,_⟩:=hw0.form
  obtain ⟨rfl,rfl⟩:v0=.bool bv∧v1=sv:=by simpa using e1
  obtain ⟨rfl,rfl⟩:w0=.bool bw∧w1=sw:=by simpa using e2
  refine ww_seq (ww_reg (fun n k=>by simp -implicitDefEqProofs (disch:=omega) only [go_sem,reduceIte,Nat.reduceEqDiff,h4,h5,h8,h9,l4,l5,l8,l9,ldc_two L31,stc_two N31 1 (.bool bv) v1 (.bool false) .nils _ rfl pv.ok,stc_two N31 1 (.bool bw) w1 (.bool false) .nils _ rfl pw.ok];exact finD_ok (by kernel_rfl)) ?_)
  exact ww_ret (fin _ _ _ _ _ hv0 (by rw [if_neg hyn];exact hw0) (sS1 h4) (sS1 h5) sS sS hhp)
end Go.AM.S
end
